/- MP, merged: Pa, Pb, Pc, Pd, Pe, Pf, Lv0, Mu. -/
import Derived.Test.YtkjjkckcjgkhmaaGreatMD
import Derived.Test.YtkjjkckcjgkhmaaGreatMG
set_option linter.unusedSimpArgs false
set_option linter.unusedVariables false
/- Plane geometry, no program: common points of segments, distances of segments. -/
namespace Go.Proofs.YtkjjkckcjgkhmaaGreat
open Go.RowKit

def Seg (ax ay bx by' k x y : Int) : Prop := ∃ s, 0 ≤ s ∧ s ≤ k ∧ x = k * ax + s * (bx - ax) ∧ y = k * ay + s * (by' - ay)
def Common (ax ay bx by' cx cy dx dy : Int) : Prop := ∃ k x y, 0 < k ∧ Seg ax ay bx by' k x y ∧ Seg cx cy dx dy k x y
def Clo (ax ay bx by' cx cy dx dy r : Int) : Prop :=
  ∃ k x y u v, 0 < k ∧ Seg ax ay bx by' k x y ∧ Seg cx cy dx dy k u v ∧ (x - u) * (x - u) + (y - v) * (y - v) ≤ (k * r) * (k * r)

theorem sgn0 {n : Int} : sgn n = 0 ↔ n = 0 := by unfold sgn; split <;> (try split) <;> omega
theorem sgn_p {n : Int} : 0 < sgn n ↔ 0 < n := by unfold sgn; split <;> (try split) <;> omega
theorem sgn_n {n : Int} : sgn n < 0 ↔ n < 0 := by unfold sgn; split <;> (try split) <;> omega
theorem sgn_mul {m n : Int} : sgn m * sgn n < 0 ↔ (m < 0 ∧ 0 < n) ∨ (0 < m ∧ n < 0) := by
  unfold sgn
  repeat' split
  all_goals omega
theorem seg_start (ax ay bx by' : Int) {k : Int} (hk : 0 ≤ k) : Seg ax ay bx by' k (k * ax) (k * ay) := ⟨0, by omega, hk, by simp, by simp⟩
theorem seg_end (ax ay bx by' : Int) {k : Int} (hk : 0 ≤ k) : Seg ax ay bx by' k (k * bx) (k * by') := ⟨k, hk, by omega, by grind, by grind⟩
theorem seg_scale {ax ay bx by' k x y m : Int} (h : Seg ax ay bx by' k x y) (hm : 0 ≤ m) : Seg ax ay bx by' (k * m) (x * m) (y * m) := by
  obtain ⟨s, h1, h2, h3, h4⟩ := h
  exact ⟨s * m, Int.mul_nonneg h1 hm, Int.mul_le_mul_of_nonneg_right h2 hm, by rw [h3]; grind, by rw [h4]; grind⟩
theorem seg_swap {ax ay bx by' k x y : Int} (h : Seg ax ay bx by' k x y) : Seg bx by' ax ay k x y := by
  obtain ⟨s, h1, h2, h3, h4⟩ := h
  exact ⟨k - s, by omega, by omega, by rw [h3]; grind, by rw [h4]; grind⟩
theorem seg_le {ax ay bx by' k x y M : Int} (h : Seg ax ay bx by' k x y) (h1 : ax ≤ M) (h2 : bx ≤ M) : x ≤ k * M := by
  obtain ⟨s, h3, h4, rfl, _⟩ := h
  have e1 := Int.mul_nonneg (show 0 ≤ k - s by omega) (show 0 ≤ M - ax by omega)
  have e2 := Int.mul_nonneg h3 (show 0 ≤ M - bx by omega)
  grind
theorem seg_ge {ax ay bx by' k x y M : Int} (h : Seg ax ay bx by' k x y) (h1 : M ≤ ax) (h2 : M ≤ bx) : k * M ≤ x := by
  obtain ⟨s, h3, h4, rfl, _⟩ := h
  have e1 := Int.mul_nonneg (show 0 ≤ k - s by omega) (show 0 ≤ ax - M by omega)
  have e2 := Int.mul_nonneg h3 (show 0 ≤ bx - M by omega)
  grind
theorem seg_flip {ax ay bx by' k x y : Int} (h : Seg ax ay bx by' k x y) : Seg ay ax by' bx k y x := by
  obtain ⟨s, h1, h2, h3, h4⟩ := h
  exact ⟨s, h1, h2, h4, h3⟩

/-! ### Places on segments -/
theorem seg_of_col {ax ay bx by' px py : Int} (hc : crossI ax ay bx by' px py = 0) (h1 : ax ≠ bx) (h2 : min ax bx ≤ px) (h3 : px ≤ max ax bx) :
    ∃ k, 0 < k ∧ Seg ax ay bx by' k (k * px) (k * py) := by
  unfold crossI at hc
  by_cases h : ax < bx
  · exact ⟨bx - ax, by omega, px - ax, by omega, by omega, by grind, by grind⟩
  · exact ⟨ax - bx, by omega, ax - px, by omega, by omega, by grind, by grind⟩
theorem cross_flip (ax ay bx by' px py : Int) : crossI ay ax by' bx py px = - crossI ax ay bx by' px py := by unfold crossI; grind
theorem onB_iff {px py ax ay bx by' : Int} : onB px py ax ay bx by' = true ↔ ∃ k, 0 < k ∧ Seg ax ay bx by' k (k * px) (k * py) := by
  constructor
  · intro h
    simp only [onB, decide_eq_true_eq, turnI, sgn0] at h
    obtain ⟨h1, h2, h3, h4, h5⟩ := h
    by_cases hx : ax = bx
    · by_cases hy : ay = by'
      · exact ⟨1, by omega, 0, by omega, by omega, by omega, by omega⟩
      · obtain ⟨k, hk, hs⟩ := seg_of_col (ax := ay) (ay := ax) (bx := by') (by' := bx) (px := py) (py := px) (by rw [cross_flip, h1]; rfl) hy h4 h5
        exact ⟨k, hk, seg_flip hs⟩
    · exact seg_of_col h1 hx h2 h3
  · rintro ⟨k, hk, h⟩
    have x1 := seg_le h (Int.le_max_left ax bx) (Int.le_max_right ax bx)
    have x2 := seg_ge h (Int.min_le_left ax bx) (Int.min_le_right ax bx)
    have y1 := seg_le (seg_flip h) (Int.le_max_left ay by') (Int.le_max_right ay by')
    have y2 := seg_ge (seg_flip h) (Int.min_le_left ay by') (Int.min_le_right ay by')
    simp only [onB, decide_eq_true_eq, turnI, sgn0]
    refine ⟨?_, Int.le_of_mul_le_mul_left x2 hk, Int.le_of_mul_le_mul_left x1 hk, Int.le_of_mul_le_mul_left y2 hk, Int.le_of_mul_le_mul_left y1 hk⟩
    obtain ⟨s, _, _, e1, e2⟩ := h
    have : k * crossI ax ay bx by' px py = 0 := by unfold crossI; grind
    rcases Int.mul_eq_zero.mp this with h | h
    · omega
    · exact h
theorem on_of_x {ax ay bx by' px py : Int} (hc : crossI ax ay bx by' px py = 0) (h1 : ax ≠ bx) (h2 : min ax bx ≤ px) (h3 : px ≤ max ax bx) : onB px py ax ay bx by' = true :=
  onB_iff.mpr (seg_of_col hc h1 h2 h3)
theorem on_flip {ax ay bx by' px py : Int} : onB py px ay ax by' bx = onB px py ax ay bx by' := by
  rw [Bool.eq_iff_iff, onB_iff, onB_iff]
  exact ⟨fun ⟨k, h, hs⟩ => ⟨k, h, seg_flip hs⟩, fun ⟨k, h, hs⟩ => ⟨k, h, seg_flip hs⟩⟩

/-! ### Common points -/
theorem cross_sum (ax ay bx by' cx cy dx dy : Int) : crossI ax ay bx by' cx cy + crossI cx cy dx dy ax ay = crossI ax ay bx by' dx dy + crossI cx cy dx dy bx by' := by
  unfold crossI; grind
theorem common_of_meet {ax ay bx by' cx cy dx dy : Int} (h : meetB ax ay bx by' cx cy dx dy = true) : Common ax ay bx by' cx cy dx dy := by
  simp only [meetB, Bool.or_eq_true, decide_eq_true_eq, turnI, sgn_mul] at h
  have e := cross_sum ax ay bx by' cx cy dx dy
  rcases h with h | h | h | h | h
  · have ex : ((crossI cx cy dx dy ax ay - crossI cx cy dx dy bx by') * ax + crossI cx cy dx dy ax ay * (bx - ax) = (crossI cx cy dx dy ax ay - crossI cx cy dx dy bx by') * cx + (- crossI ax ay bx by' cx cy) * (dx - cx)) := by unfold crossI; grind
    have ey : ((crossI cx cy dx dy ax ay - crossI cx cy dx dy bx by') * ay + crossI cx cy dx dy ax ay * (by' - ay) = (crossI cx cy dx dy ax ay - crossI cx cy dx dy bx by') * cy + (- crossI ax ay bx by' cx cy) * (dy - cy)) := by unfold crossI; grind
    generalize crossI cx cy dx dy ax ay = g at *
    generalize crossI cx cy dx dy bx by' = d at *
    generalize crossI ax ay bx by' cx cy = a at *
    generalize crossI ax ay bx by' dx dy = b at *
    by_cases hg : 0 < g
    · exact ⟨g - d, _, _, by omega, ⟨g, by omega, by omega, rfl, rfl⟩, ⟨-a, by omega, by omega, ex, ey⟩⟩
    · exact ⟨d - g, _, _, by omega, ⟨-g, by omega, by omega, rfl, rfl⟩, ⟨a, by omega, by omega, by grind, by grind⟩⟩
  · obtain ⟨k, hk, hs⟩ := onB_iff.mp h
    exact ⟨k, _, _, hk, seg_start _ _ _ _ (by omega), hs⟩
  · obtain ⟨k, hk, hs⟩ := onB_iff.mp h
    exact ⟨k, _, _, hk, seg_end _ _ _ _ (by omega), hs⟩
  · obtain ⟨k, hk, hs⟩ := onB_iff.mp h
    exact ⟨k, _, _, hk, hs, seg_start _ _ _ _ (by omega)⟩
  · obtain ⟨k, hk, hs⟩ := onB_iff.mp h
    exact ⟨k, _, _, hk, hs, seg_end _ _ _ _ (by omega)⟩
theorem between {k s a b : Int} (h1 : 0 < s) (h2 : s < k) (h : (k - s) * a + s * b = 0) : (a = 0 ∧ b = 0) ∨ (a < 0 ∧ 0 < b) ∨ (0 < a ∧ b < 0) := by
  rcases Int.lt_trichotomy a 0 with ha | ha | ha
  · have := Int.mul_neg_of_pos_of_neg (show 0 < k - s by omega) ha
    have : 0 < b := by
      rcases Int.lt_or_le 0 b with hb | hb
      · exact hb
      · have := Int.mul_nonneg (show 0 ≤ s by omega) (show 0 ≤ -b by omega)
        grind
    omega
  · subst ha
    have : s * b = 0 := by grind
    rcases Int.mul_eq_zero.mp this with h | h <;> omega
  · have := Int.mul_pos (show 0 < k - s by omega) ha
    have : b < 0 := by
      rcases Int.lt_or_le b 0 with hb | hb
      · exact hb
      · have := Int.mul_nonneg (show 0 ≤ s by omega) hb
        grind
    omega
theorem col_x {ax ay bx by' cx cy dx dy k x : Int} (hk : 0 < k) (hx : ax ≠ bx) (h1 : crossI ax ay bx by' cx cy = 0) (h2 : crossI ax ay bx by' dx dy = 0) (h3 : crossI cx cy dx dy ax ay = 0) (h4 : crossI cx cy dx dy bx by' = 0)
    (u1 : x ≤ k * max ax bx) (u2 : k * min ax bx ≤ x) (u3 : x ≤ k * max cx dx) (u4 : k * min cx dx ≤ x) :
    onB ax ay cx cy dx dy = true ∨ onB bx by' cx cy dx dy = true ∨ onB cx cy ax ay bx by' = true ∨ onB dx dy ax ay bx by' = true := by
  have a1 := Int.le_of_mul_le_mul_left (Int.le_trans u2 u3) hk
  have a2 := Int.le_of_mul_le_mul_left (Int.le_trans u4 u1) hk
  by_cases q1 : min ax bx ≤ cx ∧ cx ≤ max ax bx
  · exact .inr (.inr (.inl (on_of_x h1 hx q1.1 q1.2)))
  by_cases q2 : min ax bx ≤ dx ∧ dx ≤ max ax bx
  · exact .inr (.inr (.inr (on_of_x h2 hx q2.1 q2.2)))
  have : cx ≠ dx := by omega
  exact .inl (on_of_x h3 this (by omega) (by omega))
theorem meet_of_common {ax ay bx by' cx cy dx dy : Int} (h : Common ax ay bx by' cx cy dx dy) : meetB ax ay bx by' cx cy dx dy = true := by
  obtain ⟨k, x, y, hk, h1, h2⟩ := h
  simp only [meetB, Bool.or_eq_true, decide_eq_true_eq, turnI, sgn_mul]
  have u1 := seg_le h1 (Int.le_max_left ax bx) (Int.le_max_right ax bx)
  have u2 := seg_ge h1 (Int.min_le_left ax bx) (Int.min_le_right ax bx)
  have u3 := seg_le h2 (Int.le_max_left cx dx) (Int.le_max_right cx dx)
  have u4 := seg_ge h2 (Int.min_le_left cx dx) (Int.min_le_right cx dx)
  have v1 := seg_le (seg_flip h1) (Int.le_max_left ay by') (Int.le_max_right ay by')
  have v2 := seg_ge (seg_flip h1) (Int.min_le_left ay by') (Int.min_le_right ay by')
  have v3 := seg_le (seg_flip h2) (Int.le_max_left cy dy) (Int.le_max_right cy dy)
  have v4 := seg_ge (seg_flip h2) (Int.min_le_left cy dy) (Int.min_le_right cy dy)
  have h1' := h1
  have h2' := h2
  obtain ⟨s, s0, s1, ex, ey⟩ := h1
  obtain ⟨t, t0, t1, fx, fy⟩ := h2
  by_cases c1 : s = 0
  · exact .inr (.inl (onB_iff.mpr ⟨k, hk, by rw [show k * ax = x by rw [ex, c1]; omega, show k * ay = y by rw [ey, c1]; omega]; exact h2'⟩))
  by_cases c2 : s = k
  · exact .inr (.inr (.inl (onB_iff.mpr ⟨k, hk, by rw [show k * bx = x by rw [ex, c2]; grind, show k * by' = y by rw [ey, c2]; grind]; exact h2'⟩)))
  by_cases c3 : t = 0
  · exact .inr (.inr (.inr (.inl (onB_iff.mpr ⟨k, hk, by rw [show k * cx = x by rw [fx, c3]; omega, show k * cy = y by rw [fy, c3]; omega]; exact h1'⟩))))
  by_cases c4 : t = k
  · exact .inr (.inr (.inr (.inr (onB_iff.mpr ⟨k, hk, by rw [show k * dx = x by rw [fx, c4]; grind, show k * dy = y by rw [fy, c4]; grind]; exact h1'⟩))))
  have E1 : (k - t) * crossI ax ay bx by' cx cy + t * crossI ax ay bx by' dx dy = 0 := by unfold crossI; grind
  have E2 : (k - s) * crossI cx cy dx dy ax ay + s * crossI cx cy dx dy bx by' = 0 := by unfold crossI; grind
  have e := cross_sum ax ay bx by' cx cy dx dy
  have b1 := between (by omega) (by omega) E1
  have b2 := between (by omega) (by omega) E2
  by_cases z : crossI ax ay bx by' cx cy = 0 ∧ crossI ax ay bx by' dx dy = 0 ∧ crossI cx cy dx dy ax ay = 0 ∧ crossI cx cy dx dy bx by' = 0
  · obtain ⟨z1, z2, z3, z4⟩ := z
    right
    by_cases hx : ax = bx
    · by_cases hy : ay = by'
      · left
        subst hx hy
        exact onB_iff.mpr ⟨k, hk, by rw [show k * ax = x by rw [ex]; grind, show k * ay = y by rw [ey]; grind]; exact h2'⟩
      · have := col_x (ax := ay) (ay := ax) (bx := by') (by' := bx) (cx := cy) (cy := cx) (dx := dy) (dy := dx) hk hy (by rw [cross_flip, z1]; rfl) (by rw [cross_flip, z2]; rfl) (by rw [cross_flip, z3]; rfl) (by rw [cross_flip, z4]; rfl) v1 v2 v3 v4
        simpa only [on_flip] using this
    · exact col_x hk hx z1 z2 z3 z4 u1 u2 u3 u4
  · left
    omega
theorem meet_iff {ax ay bx by' cx cy dx dy : Int} : meetB ax ay bx by' cx cy dx dy = true ↔ Common ax ay bx by' cx cy dx dy := ⟨common_of_meet, meet_of_common⟩
end Go.Proofs.YtkjjkckcjgkhmaaGreat
/- Plane geometry, no program: a place near a segment; segments close to each other. -/
namespace Go.Proofs.YtkjjkckcjgkhmaaGreat
open Go.RowKit

theorem lagrange (a b c d : Int) : (a * d - b * c) * (a * d - b * c) + (a * c + b * d) * (a * c + b * d) = (a * a + b * b) * (c * c + d * d) := by grind
theorem near_of_seg {px py ax ay bx by' d k x y : Int} (hk : 0 < k) (h : Seg ax ay bx by' k x y)
    (hd : (k * px - x) * (k * px - x) + (k * py - y) * (k * py - y) ≤ (k * d) * (k * d)) : nearB px py ax ay bx by' d = true := by
  obtain ⟨s, s0, s1, rfl, rfl⟩ := h
  have hl := lagrange (bx - ax) (by' - ay) (px - ax) (py - ay)
  have hL := Int.add_nonneg (sq_nn (bx - ax)) (sq_nn (by' - ay))
  have hkk := Int.mul_pos hk hk
  unfold nearB dotI dist2 crossI
  generalize hvx : bx - ax = vx at *
  generalize hvy : by' - ay = vy at *
  generalize hwx : px - ax = wx at *
  generalize hwy : py - ay = wy at *
  have e1 : px - bx = wx - vx := by omega
  have e2 : py - by' = wy - vy := by omega
  rw [e1, e2]
  have e3 : k * px - (k * ax + s * vx) = k * wx - s * vx := by grind
  have e4 : k * py - (k * ay + s * vy) = k * wy - s * vy := by grind
  rw [e3, e4] at hd
  clear e1 e2 e3 e4 hvx hvy hwx hwy px py ax ay bx by'
  have hs := Int.mul_nonneg s0 (show 0 ≤ k by omega)
  obtain ⟨f, hf⟩ : ∃ f, vx * wx + vy * wy = f := ⟨_, rfl⟩
  rw [hf] at hl ⊢
  split
  · rename_i h
    have q1 := Int.mul_nonneg hs (show 0 ≤ -f by omega)
    have q2 := Int.mul_nonneg (Int.mul_nonneg s0 s0) hL
    simp only [decide_eq_true_eq]
    refine Int.le_of_mul_le_mul_left ?_ hkk
    have e : (k * wx - s * vx) * (k * wx - s * vx) + (k * wy - s * vy) * (k * wy - s * vy) = k * k * (wx * wx + wy * wy) + 2 * (s * k * -f) + s * s * (vx * vx + vy * vy) := by rw [← hf]; grind
    have e2 : k * d * (k * d) = k * k * (d * d) := by grind
    omega
  · split
    · rename_i h1 h2
      have q1 := Int.mul_nonneg (Int.mul_nonneg (show 0 ≤ k by omega) (show 0 ≤ k - s by omega)) (show 0 ≤ f - (vx * vx + vy * vy) by omega)
      have q2 := Int.mul_nonneg (Int.mul_nonneg (show 0 ≤ k - s by omega) (show 0 ≤ k - s by omega)) hL
      simp only [decide_eq_true_eq]
      refine Int.le_of_mul_le_mul_left ?_ hkk
      have e : (k * wx - s * vx) * (k * wx - s * vx) + (k * wy - s * vy) * (k * wy - s * vy) = k * k * ((wx - vx) * (wx - vx) + (wy - vy) * (wy - vy)) + 2 * (k * (k - s) * (f - (vx * vx + vy * vy))) + (k - s) * (k - s) * (vx * vx + vy * vy) := by rw [← hf]; grind
      have e2 : k * d * (k * d) = k * k * (d * d) := by grind
      omega
    · rename_i h1 h2
      have hLp : 0 < vx * vx + vy * vy := by omega
      simp only [decide_eq_true_eq]
      refine Int.le_of_mul_le_mul_left ?_ hkk
      have q0 := sq_nn (s * (vx * vx + vy * vy) - k * f)
      have q1 := Int.mul_le_mul_of_nonneg_left hd hL
      have e : (vx * vx + vy * vy) * ((k * wx - s * vx) * (k * wx - s * vx) + (k * wy - s * vy) * (k * wy - s * vy)) = k * k * ((vx * wy - vy * wx) * (vx * wy - vy * wx)) + (s * (vx * vx + vy * vy) - k * f) * (s * (vx * vx + vy * vy) - k * f) := by rw [← hf]; grind
      have e2 : (vx * vx + vy * vy) * (k * d * (k * d)) = k * k * (d * d * (vx * vx + vy * vy)) := by grind
      omega
theorem seg_of_near {px py ax ay bx by' d : Int} (h : nearB px py ax ay bx by' d = true) :
    ∃ k x y, 0 < k ∧ Seg ax ay bx by' k x y ∧ (k * px - x) * (k * px - x) + (k * py - y) * (k * py - y) ≤ (k * d) * (k * d) := by
  unfold nearB dotI dist2 crossI at h
  have hl := lagrange (bx - ax) (by' - ay) (px - ax) (py - ay)
  split at h
  · exact ⟨1, ax, ay, by omega, ⟨0, by omega, by omega, by omega, by omega⟩, by simpa using h⟩
  · split at h
    · exact ⟨1, bx, by', by omega, ⟨1, by omega, by omega, by omega, by omega⟩, by simpa using h⟩
    · rename_i h1 h2
      simp only [decide_eq_true_eq] at h
      refine ⟨(bx - ax) * (bx - ax) + (by' - ay) * (by' - ay), _, _, by omega, ⟨(bx - ax) * (px - ax) + (by' - ay) * (py - ay), by omega, by omega, rfl, rfl⟩, ?_⟩
      have hL : 0 ≤ (bx - ax) * (bx - ax) + (by' - ay) * (by' - ay) := by omega
      have q1 := Int.mul_le_mul_of_nonneg_left h hL
      generalize hvx : bx - ax = vx at *
      generalize hvy : by' - ay = vy at *
      generalize hwx : px - ax = wx at *
      generalize hwy : py - ay = wy at *
      have e1 : (vx * vx + vy * vy) * px - ((vx * vx + vy * vy) * ax + (vx * wx + vy * wy) * vx) = (vx * vx + vy * vy) * wx - (vx * wx + vy * wy) * vx := by grind
      have e2 : (vx * vx + vy * vy) * py - ((vx * vx + vy * vy) * ay + (vx * wx + vy * wy) * vy) = (vx * vx + vy * vy) * wy - (vx * wx + vy * wy) * vy := by grind
      rw [e1, e2]
      clear e1 e2 hvx hvy hwx hwy
      grind

/-! ### How far a way within bounds goes -/
theorem slide {s k S N M : Int} (hk : 0 < k) (hN : 0 < N) (h0 : 0 ≤ s) (h1 : s ≤ k * M) :
    ∃ l m, 0 ≤ l ∧ l ≤ m ∧ 0 < m ∧ (∀ l' m', 0 ≤ l' → l' ≤ m' → 0 < m' → l' * m ≤ l * m' → 0 ≤ (m' - l') * (s * N) + l' * (S * k) ∧ (m' - l') * (s * N) + l' * (S * k) ≤ m' * (k * N) * M)
      ∧ (l < m → (m - l) * (s * N) + l * (S * k) = 0 ∨ (m - l) * (s * N) + l * (S * k) = m * (k * N) * M) := by
  have hs : 0 ≤ s * N := Int.mul_nonneg h0 (by omega)
  have hs' : 0 ≤ (k * M - s) * N := Int.mul_nonneg (by omega) (by omega)
  by_cases c1 : S < 0
  · have hp : 0 < -S * k := Int.mul_pos (by omega) hk
    refine ⟨s * N, s * N - S * k, hs, by grind, by grind, fun l' m' g1 g2 g3 g4 => ⟨by grind, ?_⟩, fun _ => .inl (by grind)⟩
    have q1 := Int.mul_nonneg (show 0 ≤ m' - l' by omega) hs'
    have q2 := Int.mul_nonneg g1 (show 0 ≤ - S * k by omega)
    have q3 := Int.mul_nonneg g1 (show 0 ≤ k * M * N from Int.mul_nonneg (by omega) (by omega))
    grind
  · by_cases c2 : N * M < S
    · have hp : 0 < (S - N * M) * k := Int.mul_pos (by omega) hk
      refine ⟨(k * M - s) * N, (k * M - s) * N + (S - N * M) * k, hs', by omega, by omega, fun l' m' g1 g2 g3 g4 => ⟨?_, by grind⟩, fun _ => .inr (by grind)⟩
      have hM : 0 ≤ M := by
        rcases Int.lt_or_le M 0 with h | h
        · have := Int.mul_neg_of_pos_of_neg hk h
          omega
        · exact h
      have q1 := Int.mul_nonneg (show 0 ≤ m' - l' by omega) hs
      have q2 := Int.mul_nonneg g1 (show 0 ≤ S * k from Int.mul_nonneg (by omega) (by omega))
      omega
    · refine ⟨1, 1, by omega, by omega, by omega, fun l' m' g1 g2 g3 _ => ?_, fun h => absurd h (by omega)⟩
      have q1 := Int.mul_nonneg (show 0 ≤ m' - l' by omega) hs
      have q2 := Int.mul_nonneg g1 (show 0 ≤ S * k from Int.mul_nonneg (by omega) (by omega))
      have q3 := Int.mul_nonneg (show 0 ≤ m' - l' by omega) hs'
      have q4 := Int.mul_nonneg g1 (show 0 ≤ (N * M - S) * k from Int.mul_nonneg (by omega) (by omega))
      exact ⟨by omega, by grind⟩
end Go.Proofs.YtkjjkckcjgkhmaaGreat
/- Plane geometry, no program: plane.Close tells segments that are close to each other. -/
namespace Go.Proofs.YtkjjkckcjgkhmaaGreat
open Go.RowKit

theorem slide2 {s t k S T N M1 M2 : Int} (hk : 0 < k) (hN : 0 < N) (h0 : 0 ≤ s) (h1 : s ≤ k * M1) (h2 : 0 ≤ t) (h3 : t ≤ k * M2) :
    ∃ l m, 0 ≤ l ∧ l ≤ m ∧ 0 < m ∧ (0 ≤ (m - l) * (s * N) + l * (S * k) ∧ (m - l) * (s * N) + l * (S * k) ≤ m * (k * N) * M1) ∧ (0 ≤ (m - l) * (t * N) + l * (T * k) ∧ (m - l) * (t * N) + l * (T * k) ≤ m * (k * N) * M2)
      ∧ (l = m ∨ ((m - l) * (s * N) + l * (S * k) = 0 ∨ (m - l) * (s * N) + l * (S * k) = m * (k * N) * M1) ∨ ((m - l) * (t * N) + l * (T * k) = 0 ∨ (m - l) * (t * N) + l * (T * k) = m * (k * N) * M2)) := by
  obtain ⟨l1, m1, a1, a2, a3, a4, a5⟩ := slide (S := S) hk hN h0 h1
  obtain ⟨l2, m2, b1, b2, b3, b4, b5⟩ := slide (S := T) hk hN h2 h3
  by_cases c : l1 * m2 ≤ l2 * m1
  · refine ⟨l1, m1, a1, a2, a3, a4 l1 m1 a1 a2 a3 (by omega), b4 l1 m1 a1 a2 a3 c, ?_⟩
    rcases Int.lt_or_le l1 m1 with h | h
    · exact .inr (.inl (a5 h))
    · exact .inl (by omega)
  · refine ⟨l2, m2, b1, b2, b3, a4 l2 m2 b1 b2 b3 (by omega), b4 l2 m2 b1 b2 b3 (by omega), ?_⟩
    rcases Int.lt_or_le l2 m2 with h | h
    · exact .inr (.inr (b5 h))
    · exact .inl (by omega)

theorem clo_of_close {ax ay bx by' cx cy dx dy r : Int} (h : closeB ax ay bx by' cx cy dx dy r = true) : Clo ax ay bx by' cx cy dx dy r := by
  simp only [closeB, Bool.or_eq_true] at h
  rcases h with h | h | h | h | h
  · obtain ⟨k, x, y, hk, h1, h2⟩ := common_of_meet h
    exact ⟨k, x, y, x, y, hk, h1, h2, by simp only [Int.sub_self, Int.mul_zero, Int.add_zero]; exact sq_nn _⟩
  · obtain ⟨k, x, y, hk, h1, h2⟩ := seg_of_near h
    exact ⟨k, _, _, x, y, hk, seg_start _ _ _ _ (by omega), h1, h2⟩
  · obtain ⟨k, x, y, hk, h1, h2⟩ := seg_of_near h
    exact ⟨k, _, _, x, y, hk, seg_end _ _ _ _ (by omega), h1, h2⟩
  · obtain ⟨k, x, y, hk, h1, h2⟩ := seg_of_near h
    exact ⟨k, x, y, _, _, hk, h1, seg_start _ _ _ _ (by omega), by grind⟩
  · obtain ⟨k, x, y, hk, h1, h2⟩ := seg_of_near h
    exact ⟨k, x, y, _, _, hk, h1, seg_end _ _ _ _ (by omega), by grind⟩
theorem close_at_end {ax ay bx by' cx cy dx dy r K s t : Int} (hK : 0 < K) (hs : 0 ≤ s ∧ s ≤ K) (ht : 0 ≤ t ∧ t ≤ K)
    (hd : (K * (ax - cx) + s * (bx - ax) - t * (dx - cx)) * (K * (ax - cx) + s * (bx - ax) - t * (dx - cx)) + (K * (ay - cy) + s * (by' - ay) - t * (dy - cy)) * (K * (ay - cy) + s * (by' - ay) - t * (dy - cy)) ≤ (K * r) * (K * r))
    (h : (s = 0 ∨ s = K) ∨ (t = 0 ∨ t = K)) : closeB ax ay bx by' cx cy dx dy r = true := by
  simp only [closeB, Bool.or_eq_true]
  rcases h with (h | h) | h | h
  · subst h
    refine .inr (.inl (near_of_seg hK ⟨t, ht.1, ht.2, rfl, rfl⟩ ?_))
    grind
  · subst h
    refine .inr (.inr (.inl (near_of_seg hK ⟨t, ht.1, ht.2, rfl, rfl⟩ ?_)))
    grind
  · subst h
    refine .inr (.inr (.inr (.inl (near_of_seg hK ⟨s, hs.1, hs.2, rfl, rfl⟩ ?_))))
    grind
  · subst h
    refine .inr (.inr (.inr (.inr (near_of_seg hK ⟨s, hs.1, hs.2, rfl, rfl⟩ ?_))))
    grind
theorem close_to {ax ay bx by' cx cy dx dy r k s t N S T : Int} (hk : 0 < k) (hN : 0 < N) (hs : 0 ≤ s ∧ s ≤ k) (ht : 0 ≤ t ∧ t ≤ k)
    (hd : (k * (ax - cx) + s * (bx - ax) - t * (dx - cx)) * (k * (ax - cx) + s * (bx - ax) - t * (dx - cx)) + (k * (ay - cy) + s * (by' - ay) - t * (dy - cy)) * (k * (ay - cy) + s * (by' - ay) - t * (dy - cy)) ≤ (k * r) * (k * r))
    (hF : (N * (ax - cx) + S * (bx - ax) - T * (dx - cx) = 0 ∧ N * (ay - cy) + S * (by' - ay) - T * (dy - cy) = 0) ∨
      (T = 0 ∧ N * (k * (ax - cx) + s * (bx - ax) - t * (dx - cx)) = k * (N * (ax - cx) + S * (bx - ax) - T * (dx - cx)) ∧ N * (k * (ay - cy) + s * (by' - ay) - t * (dy - cy)) = k * (N * (ay - cy) + S * (by' - ay) - T * (dy - cy)))) :
    closeB ax ay bx by' cx cy dx dy r = true := by
  obtain ⟨l, m, l0, lm, m0, c1, c2, c3⟩ := slide2 (s := s) (t := t) (S := S) (T := T) (M1 := 1) (M2 := 1) hk hN hs.1 (by omega) ht.1 (by omega)
  simp only [Int.mul_one] at c1 c2 c3
  have hK : 0 < m * (k * N) := Int.mul_pos m0 (Int.mul_pos hk hN)
  have ex : m * (k * N) * (ax - cx) + ((m - l) * (s * N) + l * (S * k)) * (bx - ax) - ((m - l) * (t * N) + l * (T * k)) * (dx - cx) = (m - l) * (N * (k * (ax - cx) + s * (bx - ax) - t * (dx - cx))) + l * (k * (N * (ax - cx) + S * (bx - ax) - T * (dx - cx))) := by grind
  have ey : m * (k * N) * (ay - cy) + ((m - l) * (s * N) + l * (S * k)) * (by' - ay) - ((m - l) * (t * N) + l * (T * k)) * (dy - cy) = (m - l) * (N * (k * (ay - cy) + s * (by' - ay) - t * (dy - cy))) + l * (k * (N * (ay - cy) + S * (by' - ay) - T * (dy - cy))) := by grind
  have hdd : 0 ≤ (k * r) * (k * r) := sq_nn _
  have hdl := Int.add_nonneg (sq_nn (k * (ax - cx) + s * (bx - ax) - t * (dx - cx))) (sq_nn (k * (ay - cy) + s * (by' - ay) - t * (dy - cy)))
  have bound : ∀ c, 0 ≤ c → c ≤ m * N → c * (k * (ax - cx) + s * (bx - ax) - t * (dx - cx)) * (c * (k * (ax - cx) + s * (bx - ax) - t * (dx - cx))) + c * (k * (ay - cy) + s * (by' - ay) - t * (dy - cy)) * (c * (k * (ay - cy) + s * (by' - ay) - t * (dy - cy))) ≤ (m * (k * N) * r) * (m * (k * N) * r) := by
    intro c h1 h2
    have q1 := Int.mul_le_mul_of_nonneg_left hd (sq_nn c)
    have q2 := Int.mul_le_mul_of_nonneg_right (Int.mul_le_mul h2 h2 h1 (Int.le_trans h1 h2)) hdd
    generalize k * (ax - cx) + s * (bx - ax) - t * (dx - cx) = X at *
    generalize k * (ay - cy) + s * (by' - ay) - t * (dy - cy) = Y at *
    have e1 : c * X * (c * X) + c * Y * (c * Y) = c * c * (X * X + Y * Y) := by grind
    have e2 : m * (k * N) * r * (m * (k * N) * r) = m * N * (m * N) * (k * r * (k * r)) := by grind
    omega
  rcases hF with ⟨f1, f2⟩ | ⟨f0, f1, f2⟩
  · rw [f1, Int.mul_zero, Int.mul_zero, Int.add_zero] at ex
    rw [f2, Int.mul_zero, Int.mul_zero, Int.add_zero] at ey
    rcases c3 with c3 | c3
    · subst c3
      rw [Int.sub_self, Int.zero_mul] at ex ey
      simp only [Int.sub_self, Int.zero_mul, Int.zero_add] at c1 c2 ex ey
      simp only [closeB, Bool.or_eq_true]
      exact .inl (meet_of_common ⟨l * (k * N), _, _, hK, ⟨l * (S * k), c1.1, c1.2, rfl, rfl⟩, ⟨l * (T * k), c2.1, c2.2, by grind, by grind⟩⟩)
    · refine close_at_end hK c1 c2 ?_ c3
      rw [ex, ey]
      have := bound ((m - l) * N) (Int.mul_nonneg (by omega) (by omega)) (Int.mul_le_mul_of_nonneg_right (by omega) (by omega))
      simpa only [Int.mul_assoc] using this
  · refine close_at_end hK c1 c2 ?_ (by
      rcases c3 with c3 | c3
      · subst c3 f0
        right; left; simp
      · exact c3)
    rw [ex, ey, ← f1, ← f2]
    have := bound (m * N) (Int.mul_nonneg (by omega) (by omega)) (Int.le_refl _)
    have e1 : ∀ Z, (m - l) * (N * Z) + l * (N * Z) = m * N * Z := fun Z => by grind
    rw [e1, e1]
    exact this
theorem close_of_clo {ax ay bx by' cx cy dx dy r : Int} (h : Clo ax ay bx by' cx cy dx dy r) : closeB ax ay bx by' cx cy dx dy r = true := by
  obtain ⟨k, x, y, u, v, hk, ⟨s, s0, s1, rfl, rfl⟩, ⟨t, t0, t1, rfl, rfl⟩, hd⟩ := h
  have ex : k * ax + s * (bx - ax) - (k * cx + t * (dx - cx)) = k * (ax - cx) + s * (bx - ax) - t * (dx - cx) := by grind
  have ey : k * ay + s * (by' - ay) - (k * cy + t * (dy - cy)) = k * (ay - cy) + s * (by' - ay) - t * (dy - cy) := by grind
  rw [ex, ey] at hd
  by_cases hD : (bx - ax) * (dy - cy) - (by' - ay) * (dx - cx) = 0
  · by_cases hv : bx = ax ∧ by' = ay
    · obtain ⟨rfl, rfl⟩ := hv
      simp only [closeB, Bool.or_eq_true]
      refine .inr (.inl (near_of_seg hk ⟨t, t0, t1, rfl, rfl⟩ ?_))
      grind
    · have hL : 0 < (bx - ax) * (bx - ax) + (by' - ay) * (by' - ay) := by
        have q1 := sq_nn (bx - ax)
        have q2 := sq_nn (by' - ay)
        rcases Int.lt_or_le 0 ((bx - ax) * (bx - ax) + (by' - ay) * (by' - ay)) with h | h
        · exact h
        · have a1 : (bx - ax) * (bx - ax) = 0 := by omega
          have a2 : (by' - ay) * (by' - ay) = 0 := by omega
          have := Int.mul_eq_zero.mp a1
          have := Int.mul_eq_zero.mp a2
          omega
      refine close_to (N := ((bx - ax) * (bx - ax) + (by' - ay) * (by' - ay)) * k) (S := ((bx - ax) * (bx - ax) + (by' - ay) * (by' - ay)) * s - ((dx - cx) * (bx - ax) + (dy - cy) * (by' - ay)) * t) (T := 0) hk (Int.mul_pos hL hk) ⟨s0, s1⟩ ⟨t0, t1⟩ hd (.inr ⟨rfl, ?_, ?_⟩)
      · grind
      · grind
  · have f1 : ((bx - ax) * (dy - cy) - (by' - ay) * (dx - cx)) * (ax - cx) + crossI cx cy dx dy ax ay * (bx - ax) - (- crossI ax ay bx by' cx cy) * (dx - cx) = 0 := by unfold crossI; grind
    have f2 : ((bx - ax) * (dy - cy) - (by' - ay) * (dx - cx)) * (ay - cy) + crossI cx cy dx dy ax ay * (by' - ay) - (- crossI ax ay bx by' cx cy) * (dy - cy) = 0 := by unfold crossI; grind
    generalize (bx - ax) * (dy - cy) - (by' - ay) * (dx - cx) = D at *
    generalize crossI cx cy dx dy ax ay = g at *
    generalize crossI ax ay bx by' cx cy = a at *
    by_cases hp : 0 < D
    · exact close_to hk hp ⟨s0, s1⟩ ⟨t0, t1⟩ hd (.inl ⟨f1, f2⟩)
    · exact close_to (N := -D) (S := -g) (T := a) hk (by omega) ⟨s0, s1⟩ ⟨t0, t1⟩ hd (.inl ⟨by grind, by grind⟩)
theorem close_iff {ax ay bx by' cx cy dx dy r : Int} : closeB ax ay bx by' cx cy dx dy r = true ↔ Clo ax ay bx by' cx cy dx dy r := ⟨clo_of_close, close_of_clo⟩
end Go.Proofs.YtkjjkckcjgkhmaaGreat
/- Plane geometry, no program: how often a ray crosses an edge changes along a segment as the ends of the edge tell. -/
namespace Go.Proofs.YtkjjkckcjgkhmaaGreat
open Go.RowKit

def crossP (qx qy ax ay bx by' : Int) : Bool :=
  if by' < ay then decide (by' ≤ qy ∧ qy < ay ∧ 0 < crossI bx by' ax ay qx qy) else decide (ay ≤ qy ∧ qy < by' ∧ 0 < crossI ax ay bx by' qx qy)
def gIn (ax ay bx by' px py : Int) : Bool := decide (ay < py ∧ py ≤ by' ∧ crossI ax ay bx by' px py < 0)
theorem crossP_swap (qx qy ax ay bx by' : Int) : crossP qx qy ax ay bx by' = crossP qx qy bx by' ax ay := by
  unfold crossP
  split <;> split
  · omega
  · rfl
  · rfl
  · have : ay = by' := by omega
    subst this
    rw [decide_eq_false (by omega), decide_eq_false (by omega)]
theorem pos_of {a b : Int} (h : 0 < a * b) (hb : 0 < b) : 0 < a := by
  rcases Int.lt_or_le 0 a with h' | h'
  · exact h'
  · have := Int.mul_nonneg (show 0 ≤ -a by omega) (show 0 ≤ b by omega)
    grind
theorem neg_of {a b : Int} (h : a * b < 0) (hb : 0 < b) : a < 0 := by
  rcases Int.lt_or_le a 0 with h' | h'
  · exact h'
  · have := Int.mul_nonneg h' (show 0 ≤ b by omega)
    omega
theorem on_of_y {ax ay bx by' px py : Int} (hc : crossI ax ay bx by' px py = 0) (h1 : ay ≠ by') (h2 : min ay by' ≤ py) (h3 : py ≤ max ay by') : onB px py ax ay bx by' = true := by
  rw [← on_flip]
  exact on_of_x (by rw [cross_flip, hc]; rfl) h1 h2 h3
section
variable {ax ay bx by' px py qx qy : Int} (hn : meetB ax ay bx by' px py qx qy = false)
include hn
theorem no_proper : ¬ (((crossI ax ay bx by' px py < 0 ∧ 0 < crossI ax ay bx by' qx qy) ∨ (0 < crossI ax ay bx by' px py ∧ crossI ax ay bx by' qx qy < 0)) ∧ ((crossI px py qx qy ax ay < 0 ∧ 0 < crossI px py qx qy bx by') ∨ (0 < crossI px py qx qy ax ay ∧ crossI px py qx qy bx by' < 0))) := by
  intro h
  simp only [meetB, Bool.or_eq_false_iff, decide_eq_false_iff_not, turnI, sgn_mul] at hn
  exact hn.1 h
theorem no_on : onB ax ay px py qx qy = false ∧ onB bx by' px py qx qy = false ∧ onB px py ax ay bx by' = false ∧ onB qx qy ax ay bx by' = false := by
  simp only [meetB, Bool.or_eq_false_iff] at hn
  exact hn.2
theorem par01 (h1 : py ≤ ay) (h2 : ay < qy) (h3 : qy ≤ by') : (0 < crossI px py qx qy ax ay) ↔ crossI ax ay bx by' qx qy < 0 := by
  have np := no_proper hn
  obtain ⟨n1, n2, n3, n4⟩ := no_on hn
  have z1 : crossI px py qx qy ax ay ≠ 0 := fun h => by rw [on_of_y h (by omega) (by omega) (by omega)] at n1; exact absurd n1 (by decide)
  have z4 : crossI ax ay bx by' qx qy ≠ 0 := fun h => by rw [on_of_y h (by omega) (by omega) (by omega)] at n4; exact absurd n4 (by decide)
  have I1 : crossI ax ay bx by' px py * (qy - ay) + crossI px py qx qy ax ay * (by' - ay) = crossI ax ay bx by' qx qy * (py - ay) := by unfold crossI; grind
  have I2 : crossI px py qx qy bx by' * (by' - ay) = crossI ax ay bx by' px py * (by' - qy) - crossI ax ay bx by' qx qy * (by' - py) := by unfold crossI; grind
  generalize crossI ax ay bx by' px py = a at *
  generalize crossI ax ay bx by' qx qy = b at *
  generalize crossI px py qx qy ax ay = g at *
  generalize crossI px py qx qy bx by' = d at *
  constructor
  · intro hg
    rcases Int.lt_or_le b 0 with h | h
    · exact h
    · have q1 := Int.mul_pos hg (show 0 < by' - ay by omega)
      have q2 := Int.mul_nonneg h (show 0 ≤ ay - py by omega)
      have ha : a < 0 := neg_of (b := qy - ay) (by grind) (by omega)
      have q3 := Int.mul_nonneg (show 0 ≤ -a by omega) (show 0 ≤ by' - qy by omega)
      have q4 := Int.mul_pos (show 0 < b by omega) (show 0 < by' - py by omega)
      have hd : d < 0 := neg_of (b := by' - ay) (by grind) (by omega)
      omega
  · intro hb
    rcases Int.lt_or_le 0 g with h | h
    · exact h
    · have q1 := Int.mul_pos (show 0 < -g by omega) (show 0 < by' - ay by omega)
      have q2 := Int.mul_nonneg (show 0 ≤ -b by omega) (show 0 ≤ ay - py by omega)
      have ha : 0 < a := pos_of (b := qy - ay) (by grind) (by omega)
      have q3 := Int.mul_nonneg (show 0 ≤ a by omega) (show 0 ≤ by' - qy by omega)
      have q4 := Int.mul_pos (show 0 < -b by omega) (show 0 < by' - py by omega)
      have hd : 0 < d := pos_of (b := by' - ay) (by grind) (by omega)
      omega
theorem par12 (h1 : ay < py) (h2 : py ≤ by') (h3 : by' < qy) : (0 < crossI px py qx qy bx by') ↔ crossI ax ay bx by' px py < 0 := by
  have np := no_proper hn
  obtain ⟨n1, n2, n3, n4⟩ := no_on hn
  have z1 : crossI px py qx qy bx by' ≠ 0 := fun h => by rw [on_of_y h (by omega) (by omega) (by omega)] at n2; exact absurd n2 (by decide)
  have z4 : crossI ax ay bx by' px py ≠ 0 := fun h => by rw [on_of_y h (by omega) (by omega) (by omega)] at n3; exact absurd n3 (by decide)
  have I1 : crossI ax ay bx by' px py * (qy - ay) + crossI px py qx qy ax ay * (by' - ay) = crossI ax ay bx by' qx qy * (py - ay) := by unfold crossI; grind
  have I2 : crossI px py qx qy bx by' * (by' - ay) = crossI ax ay bx by' px py * (by' - qy) - crossI ax ay bx by' qx qy * (by' - py) := by unfold crossI; grind
  generalize crossI ax ay bx by' px py = a at *
  generalize crossI ax ay bx by' qx qy = b at *
  generalize crossI px py qx qy ax ay = g at *
  generalize crossI px py qx qy bx by' = d at *
  constructor
  · intro hd
    rcases Int.lt_or_le a 0 with h | h
    · exact h
    · have q1 := Int.mul_pos hd (show 0 < by' - ay by omega)
      have q2 := Int.mul_nonneg h (show 0 ≤ qy - by' by omega)
      have q5 : 0 < -b * (by' - py) := by grind
      have hb : b < 0 := by
        rcases Int.lt_or_le b 0 with h' | h'
        · exact h'
        · have := Int.mul_nonneg h' (show 0 ≤ by' - py by omega)
          grind
      have q3 := Int.mul_pos (show 0 < -b by omega) (show 0 < py - ay by omega)
      have q4 := Int.mul_pos (show 0 < a by omega) (show 0 < qy - ay by omega)
      have hg : g < 0 := neg_of (b := by' - ay) (by grind) (by omega)
      omega
  · intro ha
    rcases Int.lt_or_le 0 d with h | h
    · exact h
    · have q1 := Int.mul_pos (show 0 < -d by omega) (show 0 < by' - ay by omega)
      have q2 := Int.mul_pos (show 0 < -a by omega) (show 0 < qy - by' by omega)
      have q5 : 0 < b * (by' - py) := by grind
      have hb : 0 < b := by
        rcases Int.lt_or_le 0 b with h' | h'
        · exact h'
        · have := Int.mul_nonneg (show 0 ≤ -b by omega) (show 0 ≤ by' - py by omega)
          grind
      have q3 := Int.mul_pos hb (show 0 < py - ay by omega)
      have q4 := Int.mul_pos (show 0 < -a by omega) (show 0 < qy - ay by omega)
      have hg : 0 < g := pos_of (b := by' - ay) (by grind) (by omega)
      omega
theorem par02 (hy : ay ≤ by') (h1 : py ≤ ay) (h3 : by' < qy) : (0 < crossI px py qx qy ax ay) ↔ 0 < crossI px py qx qy bx by' := by
  have np := no_proper hn
  obtain ⟨n1, n2, n3, n4⟩ := no_on hn
  have z1 : crossI px py qx qy ax ay ≠ 0 := fun h => by rw [on_of_y h (by omega) (by omega) (by omega)] at n1; exact absurd n1 (by decide)
  have z2 : crossI px py qx qy bx by' ≠ 0 := fun h => by rw [on_of_y h (by omega) (by omega) (by omega)] at n2; exact absurd n2 (by decide)
  have e := cross_sum ax ay bx by' px py qx qy
  have I1 : crossI ax ay bx by' px py * (qy - ay) + crossI px py qx qy ax ay * (by' - ay) = crossI ax ay bx by' qx qy * (py - ay) := by unfold crossI; grind
  have I2 : crossI px py qx qy bx by' * (by' - ay) = crossI ax ay bx by' px py * (by' - qy) - crossI ax ay bx by' qx qy * (by' - py) := by unfold crossI; grind
  have z3 : ¬ (crossI ax ay bx by' px py = 0 ∧ py = ay ∧ by' = ay) ∨ (crossI px py qx qy ax ay < 0 ∧ crossI px py qx qy bx by' < 0) ∨ (0 < crossI px py qx qy ax ay ∧ 0 < crossI px py qx qy bx by') := by
    rcases Classical.em (crossI ax ay bx by' px py = 0 ∧ py = ay ∧ by' = ay) with ⟨c1, rfl, rfl⟩ | c
    · right
      have w1 : crossI px by' qx qy ax by' = (px - ax) * (qy - by') := by unfold crossI; grind
      have w2 : crossI px by' qx qy bx by' = (px - bx) * (qy - by') := by unfold crossI; grind
      rw [w1] at z1 ⊢
      rw [w2] at z2 ⊢
      have nn : ¬ (min ax bx ≤ px ∧ px ≤ max ax bx) := by
        intro hh
        rcases Classical.em (ax = bx) with hx | hx
        · have : px = ax := by omega
          subst this
          simp at z1
        · rw [on_of_x c1 hx hh.1 hh.2] at n3
          exact absurd n3 (by decide)
      rcases Int.lt_or_le px (min ax bx) with h | h
      · left
        exact ⟨Int.mul_neg_of_neg_of_pos (by omega) (by omega), Int.mul_neg_of_neg_of_pos (by omega) (by omega)⟩
      · right
        exact ⟨Int.mul_pos (by omega) (by omega), Int.mul_pos (by omega) (by omega)⟩
    · exact .inl c
  generalize crossI ax ay bx by' px py = a at *
  generalize crossI ax ay bx by' qx qy = b at *
  generalize crossI px py qx qy ax ay = g at *
  generalize crossI px py qx qy bx by' = d at *
  constructor
  · intro hg
    rcases Int.lt_or_le 0 d with h | h
    · exact h
    · -- b - a = g - d > 0
      exfalso
      rcases Int.lt_or_le a 0 with ha | ha
      · have hb : b ≤ 0 := by omega
        have q1 := Int.mul_pos (show 0 < -a by omega) (show 0 < qy - by' by omega)
        have q2 := Int.mul_nonneg (show 0 ≤ -b by omega) (show 0 ≤ by' - py by omega)
        have q3 := Int.mul_nonneg (show 0 ≤ -d by omega) (show 0 ≤ by' - ay by omega)
        grind
      · have q1 := Int.mul_nonneg ha (show 0 ≤ qy - ay by omega)
        have q2 := Int.mul_nonneg (show 0 ≤ g by omega) (show 0 ≤ by' - ay by omega)
        have q3 := Int.mul_nonneg (show 0 ≤ b by omega) (show 0 ≤ ay - py by omega)
        have e0 : b * (ay - py) = -(b * (py - ay)) := by grind
        have e1 : a * (qy - ay) = 0 := by omega
        have e2 : g * (by' - ay) = 0 := by omega
        have e3 : b * (py - ay) = 0 := by omega
        have f1 := Int.mul_eq_zero.mp e1
        have f2 := Int.mul_eq_zero.mp e2
        have f3 := Int.mul_eq_zero.mp e3
        omega
  · intro hd
    rcases Int.lt_or_le 0 g with h | h
    · exact h
    · exfalso
      rcases Int.lt_or_le 0 a with ha | ha
      · have hb : 0 ≤ b := by omega
        have q1 := Int.mul_pos ha (show 0 < qy - by' by omega)
        have q2 := Int.mul_nonneg hb (show 0 ≤ by' - py by omega)
        have q3 := Int.mul_nonneg (show 0 ≤ d by omega) (show 0 ≤ by' - ay by omega)
        grind
      · have q1 := Int.mul_nonneg (show 0 ≤ -a by omega) (show 0 ≤ qy - ay by omega)
        have q2 := Int.mul_nonneg (show 0 ≤ -g by omega) (show 0 ≤ by' - ay by omega)
        have q3 := Int.mul_nonneg (show 0 ≤ -b by omega) (show 0 ≤ ay - py by omega)
        rw [Int.neg_mul] at q1 q2 q3
        have e0 : b * (ay - py) = -(b * (py - ay)) := by grind
        have e1 : a * (qy - ay) = 0 := by omega
        have e2 : g * (by' - ay) = 0 := by omega
        have e3 : b * (py - ay) = 0 := by omega
        have f1 := Int.mul_eq_zero.mp e1
        have f2 := Int.mul_eq_zero.mp e2
        have f3 := Int.mul_eq_zero.mp e3
        omega
theorem par11 (h1 : ay < py) (hpq : py ≤ qy) (h3 : qy ≤ by') : crossI ax ay bx by' px py < 0 ↔ crossI ax ay bx by' qx qy < 0 := by
  have np := no_proper hn
  obtain ⟨n1, n2, n3, n4⟩ := no_on hn
  have z1 : crossI ax ay bx by' px py ≠ 0 := fun h => by rw [on_of_y h (by omega) (by omega) (by omega)] at n3; exact absurd n3 (by decide)
  have z2 : crossI ax ay bx by' qx qy ≠ 0 := fun h => by rw [on_of_y h (by omega) (by omega) (by omega)] at n4; exact absurd n4 (by decide)
  have I1 : crossI ax ay bx by' px py * (qy - ay) + crossI px py qx qy ax ay * (by' - ay) = crossI ax ay bx by' qx qy * (py - ay) := by unfold crossI; grind
  have I2 : crossI px py qx qy bx by' * (by' - ay) = crossI ax ay bx by' px py * (by' - qy) - crossI ax ay bx by' qx qy * (by' - py) := by unfold crossI; grind
  have z3 : ¬ (py = by' ∧ qy = by') ∨ (crossI ax ay bx by' px py < 0 ∧ crossI ax ay bx by' qx qy < 0) ∨ (0 < crossI ax ay bx by' px py ∧ 0 < crossI ax ay bx by' qx qy) := by
    rcases Classical.em (py = by' ∧ qy = by') with ⟨rfl, rfl⟩ | c
    · right
      have w1 : crossI ax ay bx qy px qy = (bx - px) * (qy - ay) := by unfold crossI; grind
      have w2 : crossI ax ay bx qy qx qy = (bx - qx) * (qy - ay) := by unfold crossI; grind
      rw [w1] at z1 ⊢
      rw [w2] at z2 ⊢
      have nn : ¬ (min px qx ≤ bx ∧ bx ≤ max px qx) := by
        intro hh
        rcases Classical.em (px = qx) with hx | hx
        · have : bx = px := by omega
          subst this
          simp at z1
        · rw [on_of_x (by unfold crossI; grind) hx hh.1 hh.2] at n2
          exact absurd n2 (by decide)
      rcases Int.lt_or_le bx (min px qx) with h | h
      · left
        exact ⟨Int.mul_neg_of_neg_of_pos (by omega) (by omega), Int.mul_neg_of_neg_of_pos (by omega) (by omega)⟩
      · right
        exact ⟨Int.mul_pos (by omega) (by omega), Int.mul_pos (by omega) (by omega)⟩
    · exact .inl c
  generalize crossI ax ay bx by' px py = a at *
  generalize crossI ax ay bx by' qx qy = b at *
  generalize crossI px py qx qy ax ay = g at *
  generalize crossI px py qx qy bx by' = d at *
  have key : ∀ a b g d : Int, a * (qy - ay) + g * (by' - ay) = b * (py - ay) → d * (by' - ay) = a * (by' - qy) - b * (by' - py) → a < 0 → 0 < b → ¬ (py = by' ∧ qy = by') → 0 < g ∧ d < 0 := by
    intro a b g d I1 I2 ha hb hz
    have q1 := Int.mul_pos hb (show 0 < py - ay by omega)
    have q2 := Int.mul_pos (show 0 < -a by omega) (show 0 < qy - ay by omega)
    have q3 := Int.mul_nonneg (show 0 ≤ -a by omega) (show 0 ≤ by' - qy by omega)
    have q4 := Int.mul_nonneg (show 0 ≤ b by omega) (show 0 ≤ by' - py by omega)
    refine ⟨pos_of (b := by' - ay) (by grind) (by omega), ?_⟩
    rcases Int.lt_or_le d 0 with h | h
    · exact h
    · have q5 := Int.mul_nonneg h (show 0 ≤ by' - ay by omega)
      rw [Int.neg_mul] at q3
      have e1 : a * (by' - qy) = 0 := by omega
      have e2 : b * (by' - py) = 0 := by omega
      have := Int.mul_eq_zero.mp e1
      have := Int.mul_eq_zero.mp e2
      omega
  constructor
  · intro ha
    rcases Int.lt_or_le b 0 with h | h
    · exact h
    · have := key a b g d I1 I2 ha (by omega) (by omega)
      omega
  · intro hb
    rcases Int.lt_or_le a 0 with h | h
    · exact h
    · have := key (-a) (-b) (-g) (-d) (by grind) (by grind) (by omega) (by omega) (by omega)
      omega
end
theorem iff_dec {p q : Prop} [Decidable p] [Decidable q] (h : p ↔ q) : decide p = decide q := decide_eq_decide.mpr h
theorem par_up {ax ay bx by' px py qx qy : Int} (hy : ay ≤ by') (hpq : py ≤ qy) (hn : meetB ax ay bx by' px py qx qy = false) :
    (crossP ax ay px py qx qy ^^ crossP bx by' px py qx qy) = (gIn ax ay bx by' px py ^^ gIn ax ay bx by' qx qy) := by
  unfold crossP gIn
  rw [if_neg (by omega), if_neg (by omega)]
  by_cases h1 : py ≤ ay
  · by_cases h2 : ay < qy
    · by_cases h3 : qy ≤ by'
      · have := par01 hn h1 h2 h3
        rw [decide_eq_false (p := py ≤ by' ∧ by' < qy ∧ 0 < crossI px py qx qy bx by') (by omega), decide_eq_false (p := ay < py ∧ py ≤ by' ∧ crossI ax ay bx by' px py < 0) (by omega)]
        simp only [Bool.xor_false, Bool.false_xor]
        exact iff_dec ⟨fun h => ⟨h2, h3, this.mp h.2.2⟩, fun h => ⟨h1, h2, this.mpr h.2.2⟩⟩
      · have := par02 hn hy h1 (by omega)
        rw [decide_eq_false (p := ay < py ∧ py ≤ by' ∧ crossI ax ay bx by' px py < 0) (by omega), decide_eq_false (p := ay < qy ∧ qy ≤ by' ∧ crossI ax ay bx by' qx qy < 0) (by omega)]
        rw [iff_dec (q := py ≤ by' ∧ by' < qy ∧ 0 < crossI px py qx qy bx by') ⟨fun h => ⟨by omega, by omega, this.mp h.2.2⟩, fun h => ⟨by omega, by omega, this.mpr h.2.2⟩⟩]
        simp
    · rw [decide_eq_false (by omega), decide_eq_false (by omega), decide_eq_false (by omega), decide_eq_false (by omega)]
  · by_cases h2 : py ≤ by'
    · by_cases h3 : by' < qy
      · have := par12 hn (by omega) h2 h3
        rw [decide_eq_false (p := py ≤ ay ∧ ay < qy ∧ 0 < crossI px py qx qy ax ay) (by omega), decide_eq_false (p := ay < qy ∧ qy ≤ by' ∧ crossI ax ay bx by' qx qy < 0) (by omega)]
        simp only [Bool.xor_false, Bool.false_xor]
        exact iff_dec ⟨fun h => ⟨by omega, h2, this.mp h.2.2⟩, fun h => ⟨h2, h3, this.mpr h.2.2⟩⟩
      · have := par11 hn (by omega) hpq (by omega)
        rw [decide_eq_false (p := py ≤ ay ∧ ay < qy ∧ 0 < crossI px py qx qy ax ay) (by omega), decide_eq_false (p := py ≤ by' ∧ by' < qy ∧ 0 < crossI px py qx qy bx by') (by omega)]
        rw [iff_dec (q := ay < qy ∧ qy ≤ by' ∧ crossI ax ay bx by' qx qy < 0) ⟨fun h => ⟨by omega, by omega, this.mp h.2.2⟩, fun h => ⟨by omega, by omega, this.mpr h.2.2⟩⟩]
        simp
    · rw [decide_eq_false (by omega), decide_eq_false (by omega), decide_eq_false (by omega), decide_eq_false (by omega)]
theorem meet_swap2 {ax ay bx by' px py qx qy : Int} : meetB ax ay bx by' qx qy px py = meetB ax ay bx by' px py qx qy := by
  rw [Bool.eq_iff_iff, meet_iff, meet_iff]
  exact ⟨fun ⟨k, x, y, h1, h2, h3⟩ => ⟨k, x, y, h1, h2, seg_swap h3⟩, fun ⟨k, x, y, h1, h2, h3⟩ => ⟨k, x, y, h1, h2, seg_swap h3⟩⟩
theorem meet_swap1 {ax ay bx by' px py qx qy : Int} : meetB bx by' ax ay px py qx qy = meetB ax ay bx by' px py qx qy := by
  rw [Bool.eq_iff_iff, meet_iff, meet_iff]
  exact ⟨fun ⟨k, x, y, h1, h2, h3⟩ => ⟨k, x, y, h1, seg_swap h2, h3⟩, fun ⟨k, x, y, h1, h2, h3⟩ => ⟨k, x, y, h1, seg_swap h2, h3⟩⟩
theorem par_edge {ax ay bx by' px py qx qy : Int} (hy : ay ≤ by') (hn : meetB ax ay bx by' px py qx qy = false) :
    (crossP ax ay px py qx qy ^^ crossP bx by' px py qx qy) = (gIn ax ay bx by' px py ^^ gIn ax ay bx by' qx qy) := by
  rcases Int.le_total py qy with h | h
  · exact par_up hy h hn
  · rw [crossP_swap ax ay, crossP_swap bx by', Bool.xor_comm (gIn _ _ _ _ _ _)]
    exact par_up hy h (by rw [meet_swap2]; exact hn)
end Go.Proofs.YtkjjkckcjgkhmaaGreat
/- Plane geometry, no program: a box and a segment; a polygon and a segment that meets no edge. -/
namespace Go.Proofs.YtkjjkckcjgkhmaaGreat
open Go.RowKit

/-! ### Scaling -/
theorem clo_of {ax ay bx by' cx cy dx dy r k m x y u v : Int} (hk : 0 < k) (hm : 0 < m) (h1 : Seg ax ay bx by' k x y) (h2 : Seg cx cy dx dy (k * m) (u * m) (v * m))
    (hd : (x - u) * (x - u) + (y - v) * (y - v) ≤ (k * r) * (k * r)) : Clo ax ay bx by' cx cy dx dy r := by
  refine ⟨k * m, x * m, y * m, u * m, v * m, Int.mul_pos hk hm, seg_scale h1 (by omega), h2, ?_⟩
  have := Int.mul_le_mul_of_nonneg_left hd (sq_nn m)
  grind
theorem seg_vert {a c d k y : Int} (hk : 0 < k) (h1 : k * c ≤ y) (h2 : y ≤ k * d) : ∃ m, 0 < m ∧ Seg a d a c (k * m) (k * a * m) (y * m) := by
  by_cases h : d ≤ c
  · refine ⟨1, by omega, 0, by omega, by omega, by grind, ?_⟩
    have := Int.mul_le_mul_of_nonneg_left h (show 0 ≤ k by omega)
    grind
  · refine ⟨d - c, by omega, k * d - y, by omega, ?_, by grind, by grind⟩
    grind
theorem seg_horiz {a b c k x : Int} (hk : 0 < k) (h1 : k * a ≤ x) (h2 : x ≤ k * b) : ∃ m, 0 < m ∧ Seg a c b c (k * m) (x * m) (k * c * m) := by
  obtain ⟨m, hm, h⟩ := seg_vert (a := c) (c := a) (d := b) hk h1 h2
  exact ⟨m, hm, seg_swap (seg_flip h)⟩
theorem clo_swap {ax ay bx by' cx cy dx dy r : Int} (h : Clo ax ay bx by' cx cy dx dy r) : Clo ax ay bx by' dx dy cx cy r := by
  obtain ⟨k, x, y, u, v, hk, h1, h2, h3⟩ := h
  exact ⟨k, x, y, u, v, hk, h1, seg_swap h2, h3⟩
theorem clamp_sq {u v lo hi : Int} (h1 : lo ≤ v) (h2 : v ≤ hi) : (u - max lo (min u hi)) * (u - max lo (min u hi)) ≤ (u - v) * (u - v) := by
  rcases Int.lt_or_le u lo with h | h
  · rw [show max lo (min u hi) = lo by omega]
    have := Int.mul_le_mul (show lo - u ≤ v - u by omega) (show lo - u ≤ v - u by omega) (by omega) (by omega)
    grind
  · rcases Int.lt_or_le hi u with h' | h'
    · rw [show max lo (min u hi) = hi by omega]
      exact Int.mul_le_mul (show u - hi ≤ u - v by omega) (show u - hi ≤ u - v by omega) (by omega) (by omega)
    · rw [show max lo (min u hi) = u by omega, Int.sub_self, Int.mul_zero]
      exact sq_nn _
def CloBox (ax ay bx by' a b c d r : Int) : Prop := Clo ax ay bx by' a d a c r ∨ Clo ax ay bx by' a c b c r ∨ Clo ax ay bx by' b c b d r ∨ Clo ax ay bx by' b d a d r
theorem box_near {ax ay bx by' a b c d r k x y u v : Int} (hk : 0 < k) (hab : a ≤ b) (hcd : c ≤ d) (h : Seg ax ay bx by' k x y)
    (u1 : k * a ≤ u) (u2 : u ≤ k * b) (v1 : k * c ≤ v) (v2 : v ≤ k * d) (hd : (x - u) * (x - u) + (y - v) * (y - v) ≤ (k * r) * (k * r)) :
    (a ≤ ax ∧ ax ≤ b ∧ c ≤ ay ∧ ay ≤ d) ∨ CloBox ax ay bx by' a b c d r := by
  have kab := Int.mul_le_mul_of_nonneg_left hab (show 0 ≤ k by omega)
  have kcd := Int.mul_le_mul_of_nonneg_left hcd (show 0 ≤ k by omega)
  have px := clamp_sq (u := x) u1 u2
  have py := clamp_sq (u := y) v1 v2
  have hpq := Int.le_trans (Int.add_le_add px py) hd
  unfold CloBox
  by_cases c1 : x < k * a
  · obtain ⟨m, hm, hs⟩ := seg_vert (a := a) (c := c) (d := d) (y := max (k * c) (min y (k * d))) hk (by omega) (by omega)
    rw [show max (k * a) (min x (k * b)) = k * a by omega] at hpq
    exact .inr (.inl (clo_of hk hm h hs hpq))
  by_cases c2 : k * b < x
  · obtain ⟨m, hm, hs⟩ := seg_vert (a := b) (c := c) (d := d) (y := max (k * c) (min y (k * d))) hk (by omega) (by omega)
    rw [show max (k * a) (min x (k * b)) = k * b by omega] at hpq
    exact .inr (.inr (.inr (.inl (clo_swap (clo_of hk hm h hs hpq)))))
  by_cases c3 : y < k * c
  · obtain ⟨m, hm, hs⟩ := seg_horiz (a := a) (b := b) (c := c) (x := max (k * a) (min x (k * b))) hk (by omega) (by omega)
    rw [show max (k * c) (min y (k * d)) = k * c by omega] at hpq
    exact .inr (.inr (.inl (clo_of hk hm h hs hpq)))
  by_cases c4 : k * d < y
  · obtain ⟨m, hm, hs⟩ := seg_horiz (a := a) (b := b) (c := d) (x := max (k * a) (min x (k * b))) hk (by omega) (by omega)
    rw [show max (k * c) (min y (k * d)) = k * d by omega] at hpq
    exact .inr (.inr (.inr (.inr (clo_swap (clo_of hk hm h hs hpq)))))
  -- (x, y) is in the box: on to the beginning
  obtain ⟨s, s0, s1, ex, ey⟩ := h
  obtain ⟨l, m, l0, lm, m0, q1, q2, q3⟩ := slide2 (s := x - k * a) (t := y - k * c) (S := ax - a) (T := ay - c) (N := 1) (M1 := b - a) (M2 := d - c) hk (by omega) (by omega) (by grind) (by omega) (by grind)
  simp only [Int.mul_one] at q1 q2 q3
  have hmk : 0 < m * k := Int.mul_pos m0 hk
  have hP : Seg ax ay bx by' (m * k) ((m - l) * x + l * (k * ax)) ((m - l) * y + l * (k * ay)) := by
    refine ⟨(m - l) * s, Int.mul_nonneg (by omega) s0, ?_, by rw [ex]; grind, by rw [ey]; grind⟩
    exact Int.mul_le_mul (by omega) s1 s0 (by omega)
  have ePx : (m - l) * x + l * (k * ax) = (m - l) * (x - k * a) + l * ((ax - a) * k) + m * k * a := by grind
  have ePy : (m - l) * y + l * (k * ay) = (m - l) * (y - k * c) + l * ((ay - c) * k) + m * k * c := by grind
  have b1 : m * k * a ≤ (m - l) * x + l * (k * ax) := by omega
  have b2 : (m - l) * x + l * (k * ax) ≤ m * k * b := by grind
  have b3 : m * k * c ≤ (m - l) * y + l * (k * ay) := by omega
  have b4 : (m - l) * y + l * (k * ay) ≤ m * k * d := by grind
  have zero : ∀ X Y : Int, (X - X) * (X - X) + (Y - Y) * (Y - Y) ≤ (m * k * r) * (m * k * r) := fun X Y => by
    rw [Int.sub_self, Int.sub_self]; simp only [Int.mul_zero, Int.add_zero]; exact sq_nn _
  rcases q3 with q3 | (q3 | q3) | (q3 | q3)
  · left
    subst q3
    simp only [Int.sub_self, Int.zero_mul, Int.zero_add] at q1 q2
    have e1 : ∀ Z, l * (Z * k) = l * k * Z := fun Z => by grind
    rw [e1] at q1 q2
    have z1 : 0 ≤ ax - a := by
      rcases Int.lt_or_le (ax - a) 0 with h | h
      · have := Int.mul_neg_of_pos_of_neg hmk h; omega
      · exact h
    have z2 : 0 ≤ ay - c := by
      rcases Int.lt_or_le (ay - c) 0 with h | h
      · have := Int.mul_neg_of_pos_of_neg hmk h; omega
      · exact h
    have z3 := Int.le_of_mul_le_mul_left q1.2 hmk
    have z4 := Int.le_of_mul_le_mul_left q2.2 hmk
    omega
  · obtain ⟨n, hn, hs⟩ := seg_vert (a := a) (c := c) (d := d) hmk b3 b4
    rw [q3, Int.zero_add] at ePx
    rw [← ePx] at hs
    exact .inr (.inl (clo_of hmk hn hP hs (zero _ _)))
  · obtain ⟨n, hn, hs⟩ := seg_vert (a := b) (c := c) (d := d) hmk b3 b4
    rw [q3] at ePx
    rw [show m * k * b = (m - l) * x + l * (k * ax) by rw [ePx]; grind] at hs
    exact .inr (.inr (.inr (.inl (clo_swap (clo_of hmk hn hP hs (zero _ _))))))
  · obtain ⟨n, hn, hs⟩ := seg_horiz (a := a) (b := b) (c := c) hmk b1 b2
    rw [q3, Int.zero_add] at ePy
    rw [← ePy] at hs
    exact .inr (.inr (.inl (clo_of hmk hn hP hs (zero _ _))))
  · obtain ⟨n, hn, hs⟩ := seg_horiz (a := a) (b := b) (c := d) hmk b1 b2
    rw [q3] at ePy
    rw [show m * k * d = (m - l) * y + l * (k * ay) by rw [ePy]; grind] at hs
    exact .inr (.inr (.inr (.inr (clo_swap (clo_of hmk hn hP hs (zero _ _))))))
end Go.Proofs.YtkjjkckcjgkhmaaGreat
/- Plane geometry, no program: a polygon and a segment that meets no edge. -/
namespace Go.Proofs.YtkjjkckcjgkhmaaGreat
open Go.RowKit

def cx (r : Rows) (i : Nat) : Int := lg r (i : Int) 0
def cy (r : Rows) (i : Nat) : Int := lg r (i : Int) 1
theorem plN_spec {r : Rows} : ∀ (f i : Nat), plN r f i = true → ∀ k, i ≤ k → k < i + f → placeB (cx r k) (cy r k) = true
  | 0, i, _, k, h1, h2 => by omega
  | f + 1, i, h, k, h1, h2 => by
    rw [plN, Bool.and_eq_true] at h
    by_cases e : k = i
    · subst e; exact h.1
    · exact plN_spec f (i + 1) h.2 k (by omega) (by omega)
theorem polyB_pl {r : Rows} (h : polyB r = true) {k : Nat} (hk : k < r.length) : placeB (cx r k) (cy r k) = true := by
  simp only [polyB, Bool.and_eq_true] at h
  exact plN_spec r.length 0 h.2.1 k (by omega) (by omega)
def crE (r : Rows) (x y : Int) (i : Nat) : Bool := crossP x y (cx r i) (cy r i) (cx r (nxt r.length i)) (cy r (nxt r.length i))
def parN (r : Rows) (x y : Int) : Nat → Nat → Bool
  | 0, _ => false
  | f + 1, i => crE r x y i ^^ parN r x y f (i + 1)
theorem turnR_eq {a b c d e f : Int} (h1 : placeB a b = true) (h2 : placeB c d = true) (h3 : placeB e f = true) : turnR [.i a, .i b, .i c, .i d, .i e, .i f] = turnI a b c d e f := by
  have : six6 [.i a, .i b, .i c, .i d, .i e, .i f] = (placeB a b && placeB c d && placeB e f) := rfl
  unfold turnR
  rw [this, h1, h2, h3]
  rfl
theorem onR_eq {a b c d e f : Int} (h1 : placeB a b = true) (h2 : placeB c d = true) (h3 : placeB e f = true) : onR [.i a, .i b, .i c, .i d, .i e, .i f] = onB a b c d e f := by
  have : six6 [.i a, .i b, .i c, .i d, .i e, .i f] = (placeB a b && placeB c d && placeB e f) := rfl
  unfold onR
  rw [this, h1, h2, h3]
  rfl
theorem crossB_eq {r : Rows} (hr : polyB r = true) {x y : Int} (hq : placeB x y = true) {i : Nat} (hi : i < r.length) : crossB r x y i = crE r x y i := by
  have h1 := polyB_pl hr hi
  have h2 := polyB_pl hr (nxt_lt hi)
  unfold cx cy at h1 h2
  unfold crossB crE crossP cx cy
  rw [turnR_eq h1 h2 hq, turnR_eq h2 h1 hq]
  simp only [turnI, sgn_p]
theorem onE_eq {r : Rows} (hr : polyB r = true) {x y : Int} (hq : placeB x y = true) {i : Nat} (hi : i < r.length) : onE r x y i = onB x y (cx r i) (cy r i) (cx r (nxt r.length i)) (cy r (nxt r.length i)) :=
  onR_eq hq (polyB_pl hr hi) (polyB_pl hr (nxt_lt hi))
def onN (r : Rows) (x y : Int) : Nat → Nat → Bool
  | 0, _ => false
  | f + 1, i => onB x y (cx r i) (cy r i) (cx r (nxt r.length i)) (cy r (nxt r.length i)) || onN r x y f (i + 1)
theorem placeN_eq {r : Rows} (hr : polyB r = true) {x y : Int} (hq : placeB x y = true) : ∀ (f i : Nat) (b : Bool), i + f = r.length → placeN r x y f i b = if onN r x y f i then 0 else if b ^^ parN r x y f i then 1 else -1
  | 0, i, b, h => by simp [placeN, onN, parN]
  | f + 1, i, b, h => by
    rw [placeN, onN, parN, placeN_eq hr hq f (i + 1) _ (by omega), onE_eq hr hq (show i < r.length by omega), crossB_eq hr hq (show i < r.length by omega)]
    cases onB x y (cx r i) (cy r i) (cx r (nxt r.length i)) (cy r (nxt r.length i)) <;> simp [Bool.xor_assoc]
theorem onN_false {r : Rows} {x y : Int} : ∀ (f i : Nat), (∀ k, i ≤ k → k < i + f → onB x y (cx r k) (cy r k) (cx r (nxt r.length k)) (cy r (nxt r.length k)) = false) → onN r x y f i = false
  | 0, _, _ => rfl
  | f + 1, i, h => by
    rw [onN, h i (by omega) (by omega), onN_false f (i + 1) (fun k h1 h2 => h k (by omega) (by omega))]; rfl
theorem onN_true {r : Rows} {x y : Int} : ∀ (f i : Nat), onN r x y f i = true → ∃ k, i ≤ k ∧ k < i + f ∧ onB x y (cx r k) (cy r k) (cx r (nxt r.length k)) (cy r (nxt r.length k)) = true
  | 0, _, h => by simp [onN] at h
  | f + 1, i, h => by
    rw [onN, Bool.or_eq_true] at h
    rcases h with h | h
    · exact ⟨i, by omega, by omega, h⟩
    · obtain ⟨k, h1, h2, h3⟩ := onN_true f (i + 1) h
      exact ⟨k, by omega, by omega, h3⟩
theorem xor4 (a b c d : Bool) : ((a ^^ b) ^^ (c ^^ d)) = ((a ^^ c) ^^ (b ^^ d)) := by cases a <;> cases b <;> cases c <;> cases d <;> rfl
theorem par_tele {r : Rows} {ax ay bx by' : Int} (hy : ay ≤ by') (hm : ∀ k, k < r.length → meetB ax ay bx by' (cx r k) (cy r k) (cx r (nxt r.length k)) (cy r (nxt r.length k)) = false) :
    ∀ (f i : Nat), i + f + 1 = r.length → (parN r ax ay (f + 1) i ^^ parN r bx by' (f + 1) i) = (gIn ax ay bx by' (cx r i) (cy r i) ^^ gIn ax ay bx by' (cx r 0) (cy r 0))
  | 0, i, h => by
    have e := par_edge hy (hm i (by omega))
    rw [parN, parN, parN, parN, Bool.xor_false, Bool.xor_false]
    unfold crE
    rw [e, show nxt r.length i = 0 by unfold nxt; rw [if_pos (by omega)]]
  | f + 1, i, h => by
    have e := par_edge hy (hm i (by omega))
    have e2 := par_tele hy hm f (i + 1) (by omega)
    rw [show parN r ax ay (f + 1 + 1) i = (crE r ax ay i ^^ parN r ax ay (f + 1) (i + 1)) from rfl, show parN r bx by' (f + 1 + 1) i = (crE r bx by' i ^^ parN r bx by' (f + 1) (i + 1)) from rfl, xor4, e2]
    unfold crE
    rw [e, show nxt r.length i = i + 1 by unfold nxt; rw [if_neg (by omega)]]
    cases gIn ax ay bx by' (cx r i) (cy r i) <;> cases gIn ax ay bx by' (cx r (i + 1)) (cy r (i + 1)) <;> cases gIn ax ay bx by' (cx r 0) (cy r 0) <;> rfl
theorem par_up_to {r : Rows} (hn : 0 < r.length) {ax ay bx by' : Int} (hy : ay ≤ by') (hm : ∀ k, k < r.length → meetB ax ay bx by' (cx r k) (cy r k) (cx r (nxt r.length k)) (cy r (nxt r.length k)) = false) : parN r ax ay r.length 0 = parN r bx by' r.length 0 := by
  have := par_tele hy hm (r.length - 1) 0 (by omega)
  rw [show r.length - 1 + 1 = r.length by omega, Bool.xor_self] at this
  revert this
  cases parN r ax ay r.length 0 <;> cases parN r bx by' r.length 0 <;> simp
theorem place_const {r : Rows} (hr : polyB r = true) {ax ay bx by' : Int} (ha : placeB ax ay = true) (hb : placeB bx by' = true)
    (hm : ∀ k, k < r.length → meetB ax ay bx by' (cx r k) (cy r k) (cx r (nxt r.length k)) (cy r (nxt r.length k)) = false) : placeN r ax ay r.length 0 false = placeN r bx by' r.length 0 false := by
  have hl := polyB_len hr
  rw [placeN_eq hr ha _ _ _ (by omega), placeN_eq hr hb _ _ _ (by omega)]
  rw [onN_false r.length 0 (fun k _ h => (no_on (hm k (by omega))).1), onN_false r.length 0 (fun k _ h => (no_on (hm k (by omega))).2.1)]
  have : parN r ax ay r.length 0 = parN r bx by' r.length 0 := by
    rcases Int.le_total ay by' with h | h
    · exact par_up_to (by omega) h hm
    · exact (par_up_to (by omega) h (fun k hk => by rw [meet_swap1]; exact hm k hk)).symm
  rw [this]
theorem place_on {r : Rows} (hr : polyB r = true) {x y : Int} (hq : placeB x y = true) : (placeN r x y r.length 0 false = 0 ∨ placeN r x y r.length 0 false = 1 ∨ placeN r x y r.length 0 false = -1) := by
  rw [placeN_eq hr hq _ _ _ (by omega)]
  split
  · exact .inl rfl
  · split
    · exact .inr (.inl rfl)
    · exact .inr (.inr rfl)
theorem pinR_eq {r : Rows} (hr : polyB r = true) {x y : Int} (hq : placeB x y = true) : pinR [.i x, .i y, .l r] = placeN r x y r.length 0 false ∧ pinE [.i x, .i y, .l r] = 0 := by
  have : pinO [.i x, .i y, .l r] = (placeB x y && polyB r) := rfl
  unfold pinR pinE
  rw [this, hq, hr]
  exact ⟨rfl, rfl⟩
theorem closeR_eq {a b c d e f g h r : Int} (h1 : placeB a b = true) (h2 : placeB c d = true) (h3 : placeB e f = true) (h4 : placeB g h = true) (hr : 0 ≤ r ∧ r ≤ 3000000) :
    closeR [.i a, .i b, .i c, .i d, .i e, .i f, .i g, .i h, .i r] = closeB a b c d e f g h r := by
  have e1 : closeOk [.i a, .i b, .i c, .i d, .i e, .i f, .i g, .i h, .i r] = (placeB a b && (placeB c d && (placeB e f && placeB g h)) && distB r) := rfl
  have e2 : closeL [.i a, .i b, .i c, .i d, .i e, .i f, .i g, .i h, .i r] = closeB a b c d e f g h r := rfl
  unfold closeR
  rw [e1, e2, h1, h2, h3, h4, show distB r = true by unfold distB; exact decide_eq_true hr]
  rfl
theorem nearR_eq {a b c d e f r : Int} (h1 : placeB a b = true) (h2 : placeB c d = true) (h3 : placeB e f = true) (hr : 0 ≤ r ∧ r ≤ 3000000) :
    nearR [.i a, .i b, .i c, .i d, .i e, .i f, .i r] = nearB a b c d e f r ∧ nearE [.i a, .i b, .i c, .i d, .i e, .i f, .i r] = 0 := by
  have e1 : nearO [.i a, .i b, .i c, .i d, .i e, .i f, .i r] = (placeB a b && placeB c d && placeB e f && distB r) := rfl
  have e2 : nearL [.i a, .i b, .i c, .i d, .i e, .i f, .i r] = nearB a b c d e f r := rfl
  unfold nearR nearE
  rw [e1, e2, h1, h2, h3, show distB r = true by unfold distB; exact decide_eq_true hr]
  exact ⟨rfl, rfl⟩
theorem bes_true {r a : Rows} {k off : Int} : ∀ (f i : Nat), besN r a k off f i = true ↔ ∃ j, i ≤ j ∧ j < i + f ∧ closeR [.i (lg r k 0), .i (lg r k 1), .i (lg r k 2), .i (lg r k 3), .i (lg a (prv a.length j) 0), .i (lg a (prv a.length j) 1), .i (lg a j 0), .i (lg a j 1), .i off] = true
  | 0, i => by simp only [besN]; constructor
               · intro h; cases h
               · rintro ⟨j, h1, h2, _⟩; omega
  | f + 1, i => by
    rw [besN, Bool.or_eq_true, bes_true f (i + 1)]
    constructor
    · rintro (h | ⟨j, h1, h2, h3⟩)
      · exact ⟨i, by omega, by omega, h⟩
      · exact ⟨j, by omega, by omega, h3⟩
    · rintro ⟨j, h1, h2, h3⟩
      by_cases e : j = i
      · subst e; exact .inl h3
      · exact .inr ⟨j, by omega, by omega, h3⟩
theorem prv_nxt {n i : Nat} (h : i < n) : prv n (nxt n i) = i := by unfold prv nxt; split <;> split <;> omega
theorem not_bes {r a : Rows} {k off : Int} (ha : polyB a = true) (h1 : placeB (lg r k 0) (lg r k 1) = true) (h2 : placeB (lg r k 2) (lg r k 3) = true) (ho : 0 ≤ off ∧ off ≤ 3000000)
    (hb : besN r a k off a.length 0 = false) {i : Nat} (hi : i < a.length) : ¬ Clo (lg r k 0) (lg r k 1) (lg r k 2) (lg r k 3) (cx a i) (cy a i) (cx a (nxt a.length i)) (cy a (nxt a.length i)) off := by
  intro hc
  have : besN r a k off a.length 0 = true := by
    rw [bes_true]
    refine ⟨nxt a.length i, by omega, by have := nxt_lt hi; omega, ?_⟩
    rw [prv_nxt hi]
    exact (closeR_eq h1 h2 (polyB_pl ha hi) (polyB_pl ha (nxt_lt hi)) ho).trans (close_of_clo hc)
  rw [this] at hb
  exact absurd hb (by decide)
theorem seg_part {ax ay bx by' mx my k k' x y : Int} (hk : 0 ≤ k) (hk' : 0 < k') (hm : Seg ax ay bx by' k' (k' * mx) (k' * my)) (h : Seg ax ay mx my k x y) : Seg ax ay bx by' (k * k') (x * k') (y * k') := by
  obtain ⟨s, s0, s1, e1, e2⟩ := hm
  obtain ⟨t, t0, t1, rfl, rfl⟩ := h
  exact ⟨t * s, Int.mul_nonneg t0 s0, Int.mul_le_mul t1 s1 s0 hk, by grind, by grind⟩
theorem in_from {r a : Rows} {k off mx my qx qy : Int} (ha : polyB a = true) (h1 : placeB (lg r k 0) (lg r k 1) = true) (h2 : placeB (lg r k 2) (lg r k 3) = true) (hmp : placeB mx my = true) (hq : placeB qx qy = true) (ho : 0 ≤ off ∧ off ≤ 3000000)
    (hon : onB mx my (lg r k 0) (lg r k 1) (lg r k 2) (lg r k 3) = true) (hd : dist2 mx my qx qy ≤ off * off) (hb : besN r a k off a.length 0 = false) :
    placeN a (lg r k 0) (lg r k 1) a.length 0 false = placeN a qx qy a.length 0 false := by
  obtain ⟨k', hk', hs⟩ := onB_iff.mp hon
  refine (place_const ha h1 hmp (fun i hi => ?_)).trans (place_const ha hmp hq (fun i hi => ?_))
  · have hc := not_bes ha h1 h2 ho hb hi
    cases hm : meetB (lg r k 0) (lg r k 1) mx my (cx a i) (cy a i) (cx a (nxt a.length i)) (cy a (nxt a.length i)) with
    | false => rfl
    | true =>
      obtain ⟨n, x, y, hn, g1, g2⟩ := common_of_meet hm
      refine absurd ⟨n * k', x * k', y * k', x * k', y * k', Int.mul_pos hn hk', seg_part (by omega) hk' hs g1, seg_scale g2 (by omega), ?_⟩ hc
      simp only [Int.sub_self, Int.mul_zero, Int.add_zero]
      exact sq_nn _
  · have hc := not_bes ha h1 h2 ho hb hi
    cases hm : meetB mx my qx qy (cx a i) (cy a i) (cx a (nxt a.length i)) (cy a (nxt a.length i)) with
    | false => rfl
    | true =>
      obtain ⟨n, x, y, hn, ⟨t, t0, t1, rfl, rfl⟩, g2⟩ := common_of_meet hm
      have g1 := seg_scale (m := n) hs (by omega)
      rw [Int.mul_comm k' n] at g1
      refine absurd ⟨n * k', _, _, _, _, Int.mul_pos hn hk', g1, seg_scale (m := k') g2 (by omega), ?_⟩ hc
      unfold dist2 at hd
      have e1 : k' * mx * n - (n * mx + t * (qx - mx)) * k' = -(k' * t) * (qx - mx) := by grind
      have e2 : k' * my * n - (n * my + t * (qy - my)) * k' = -(k' * t) * (qy - my) := by grind
      rw [e1, e2]
      have b1 := Int.mul_le_mul_of_nonneg_left hd (sq_nn (k' * t))
      have b0 := Int.mul_le_mul_of_nonneg_left t1 (show 0 ≤ k' by omega)
      have b2 := Int.mul_le_mul_of_nonneg_right (Int.mul_le_mul b0 b0 (Int.mul_nonneg (by omega) t0) (Int.mul_nonneg (by omega) (by omega))) (sq_nn off)
      grind
end Go.Proofs.YtkjjkckcjgkhmaaGreat
/- Chapters 38, 07: points that are moved as a whole. -/
namespace Go.Proofs.YtkjjkckcjgkhmaaGreat
open Go.RowKit
section
variable {s t : Int}
theorem crossI_mv (ax ay bx b x y : Int) : crossI (ax + s) (ay + t) (bx + s) (b + t) (x + s) (y + t) = crossI ax ay bx b x y := by
  unfold crossI
  rw [show bx + s - (ax + s) = bx - ax by omega, show y + t - (ay + t) = y - ay by omega, show b + t - (ay + t) = b - ay by omega, show x + s - (ax + s) = x - ax by omega]
theorem dotI_mv (ax ay bx b x y : Int) : dotI (ax + s) (ay + t) (bx + s) (b + t) (x + s) (y + t) = dotI ax ay bx b x y := by
  unfold dotI
  rw [show bx + s - (ax + s) = bx - ax by omega, show y + t - (ay + t) = y - ay by omega, show b + t - (ay + t) = b - ay by omega, show x + s - (ax + s) = x - ax by omega]
theorem dist2_mv (ax ay bx b : Int) : dist2 (ax + s) (ay + t) (bx + s) (b + t) = dist2 ax ay bx b := by
  unfold dist2
  rw [show bx + s - (ax + s) = bx - ax by omega, show b + t - (ay + t) = b - ay by omega]
theorem onB_mv (x y ax ay bx b : Int) : onB (x + s) (y + t) (ax + s) (ay + t) (bx + s) (b + t) = onB x y ax ay bx b := by
  unfold onB turnI
  rw [crossI_mv]
  generalize sgn (crossI ax ay bx b x y) = z
  rw [decide_eq_decide]
  omega
theorem crossP_mv (x y ax ay bx b : Int) : crossP (x + s) (y + t) (ax + s) (ay + t) (bx + s) (b + t) = crossP x y ax ay bx b := by
  unfold crossP
  rw [crossI_mv, crossI_mv]
  generalize crossI bx b ax ay x y = u
  generalize crossI ax ay bx b x y = v
  by_cases h : b < ay
  · rw [if_pos h, if_pos (by omega), decide_eq_decide]; omega
  · rw [if_neg h, if_neg (by omega), decide_eq_decide]; omega
theorem meetB_mv (ax ay bx b x y dx dy : Int) : meetB (ax + s) (ay + t) (bx + s) (b + t) (x + s) (y + t) (dx + s) (dy + t) = meetB ax ay bx b x y dx dy := by
  unfold meetB turnI
  simp only [crossI_mv, onB_mv]
theorem nearB_mv (x y ax ay bx b d : Int) : nearB (x + s) (y + t) (ax + s) (ay + t) (bx + s) (b + t) d = nearB x y ax ay bx b d := by
  unfold nearB
  simp only [crossI_mv, dotI_mv, dist2_mv]
theorem closeB_mv (ax ay bx b x y dx dy d : Int) : closeB (ax + s) (ay + t) (bx + s) (b + t) (x + s) (y + t) (dx + s) (dy + t) d = closeB ax ay bx b x y dx dy d := by
  unfold closeB
  simp only [meetB_mv, nearB_mv]
end
def MvC (r a : Rows) (s t : Int) : Prop := a.length = r.length ∧ ∀ j : Nat, j < r.length → lg a j 0 = lg r j 0 + s ∧ lg a j 1 = lg r j 1 + t
def MvL (r m : Rows) (s t : Int) : Prop := m.length = r.length ∧ ∀ j : Nat, j < r.length → (lg m j 0 = lg r j 0 + s ∧ lg m j 1 = lg r j 1 + t) ∧ (lg m j 2 = lg r j 2 + s ∧ lg m j 3 = lg r j 3 + t) ∧ lg m j 4 = lg r j 4 ∧ lg m j 5 = lg r j 5
section
variable {r a : Rows} {s t : Int}
theorem onN_mv (h : MvC r a s t) (x y : Int) : ∀ (f i : Nat), i + f = r.length → onN a (x + s) (y + t) f i = onN r x y f i
  | 0, _, _ => rfl
  | f + 1, i, hi => by
    obtain ⟨e1, e2⟩ := h.2 i (by omega)
    obtain ⟨e3, e4⟩ := h.2 (nxt r.length i) (nxt_lt (by omega))
    rw [onN, onN, onN_mv h x y f (i + 1) (by omega)]
    unfold cx cy
    rw [h.1, e1, e2, e3, e4, onB_mv]
theorem parN_mv (h : MvC r a s t) (x y : Int) : ∀ (f i : Nat), i + f = r.length → parN a (x + s) (y + t) f i = parN r x y f i
  | 0, _, _ => rfl
  | f + 1, i, hi => by
    obtain ⟨e1, e2⟩ := h.2 i (by omega)
    obtain ⟨e3, e4⟩ := h.2 (nxt r.length i) (nxt_lt (by omega))
    rw [parN, parN, parN_mv h x y f (i + 1) (by omega)]
    unfold crE cx cy
    rw [h.1, e1, e2, e3, e4, crossP_mv]
theorem placeN_mv (h : MvC r a s t) (hr : polyB r = true) (ha : polyB a = true) {x y : Int} (hq : placeB x y = true) (hq' : placeB (x + s) (y + t) = true) : placeN a (x + s) (y + t) a.length 0 false = placeN r x y r.length 0 false := by
  rw [placeN_eq hr hq _ _ _ (by omega), placeN_eq ha hq' _ _ _ (by omega), h.1, onN_mv h x y _ _ (by omega), parN_mv h x y _ _ (by omega)]
end
end Go.Proofs.YtkjjkckcjgkhmaaGreat
/- Lists whose rows are changed one after the other. -/
namespace Go.Proofs.YtkjjkckcjgkhmaaGreat
open Go.RowKit
def rl (r : Rows) (i : Nat) : Nat := ((r[i]?).getD []).length
theorem updR_len (m : Rows) (i : Int) (j : Nat) (l : List D) : (updR m i j l).length = m.length := by simp [updR]
theorem rl_upd {m : Rows} {i : Nat} {j : Nat} {l : List D} (hi : i < m.length) (hl : j + l.length ≤ rl m i) (i' : Nat) : rl (updR m i j l) i' = rl m i' := by
  unfold rl updR at *
  rw [Int.toNat_natCast, List.getElem?_modify]
  rw [List.getElem?_eq_getElem hi] at hl
  by_cases e : i = i'
  · subst e
    rw [List.getElem?_eq_getElem hi]
    simp only [Option.getD_some] at hl
    simp
    omega
  · simp [e]
theorem lg_upd {m : Rows} {i : Nat} {j : Nat} {l : List D} (hi : i < m.length) (hl : j + l.length ≤ rl m i) (i' c : Nat) :
    lg (updR m i j l) i' c = if i' = i ∧ j ≤ c ∧ c < j + l.length then ((l[c - j]?).getD (.i 0)).int else lg m i' c := by
  unfold lg cellAt updR rl at *
  rw [Int.toNat_natCast, Int.toNat_natCast, List.getElem?_modify]
  rw [List.getElem?_eq_getElem hi] at hl
  simp only [Option.getD_some] at hl
  by_cases e : i = i'
  · subst e
    rw [List.getElem?_eq_getElem hi]
    simp only [if_true, Option.map_eq_map, Option.map_some, Option.getD_some, true_and]
    have ht : (List.take j m[i]).length = j := by rw [List.length_take]; omega
    by_cases q : c < j
    · rw [if_neg (by omega), List.append_assoc, List.getElem?_append_left (by omega), List.getElem?_take_of_lt q]
    · by_cases q2 : c < j + l.length
      · rw [if_pos (by omega), List.append_assoc, List.getElem?_append_right (by omega), ht, List.getElem?_append_left (by omega)]
      · rw [if_neg (by omega), List.getElem?_append_right (by rw [List.length_append, ht]; omega), List.length_append, ht, List.getElem?_drop]
        congr 3
        omega
  · rw [if_neg (by omega)]
    simp only [if_neg e]
    simp
theorem lg_some {r : Rows} {i c : Nat} (h : lg r i c ≠ 0) : c < rl r i := by
  unfold lg cellAt at h
  unfold rl
  rw [Int.toNat_natCast] at h
  rcases Nat.lt_or_ge c ((r[i]?).getD []).length with q | q
  · exact q
  · rw [List.getElem?_eq_none q] at h
    exact absurd rfl h
theorem lg_app_low {r s : Rows} {i c : Nat} (h : i < r.length) : lg (r ++ s) i c = lg r i c := by
  unfold lg cellAt
  rw [Int.toNat_natCast, List.getElem?_append_left h]
theorem lg_app_new {r : Rows} {row : List D} {c : Nat} : lg (r ++ [row]) (r.length : Nat) c = ((row[c]?).getD (.i 0)).int := by
  unfold lg cellAt
  rw [Int.toNat_natCast, List.getElem?_append_right (Nat.le_refl _), Nat.sub_self]
  rfl
structure Mid (r : Rows) (s t : Int) (i : Nat) (m : Rows) : Prop where
  len : m.length = r.length
  row : ∀ j, j < r.length → rl m j = rl r j
  done : ∀ j : Nat, j < r.length → j < i → (lg m j 0 = lg r j 0 + s ∧ lg m j 1 = lg r j 1 + t) ∧ (lg m j 2 = lg r j 2 + s ∧ lg m j 3 = lg r j 3 + t) ∧ lg m j 4 = lg r j 4 ∧ lg m j 5 = lg r j 5
  rest : ∀ j : Nat, j < r.length → i ≤ j → ∀ c : Nat, lg m j c = lg r j c
theorem Mid.step {r m : Rows} {s t : Int} {i : Nat} (h : Mid r s t i m) (hi : i < r.length) (h4 : lg r i 4 ≠ 0) : ∀ m2, m2 = updR m i 0 [.i (lg r i 0 + s), .i (lg r i 1 + t)] → Mid r s t (i + 1) (updR m2 i 2 [.i (lg r i 2 + s), .i (lg r i 3 + t)]) := by
  intro m2 hm2
  have hr : 4 < rl r i := lg_some (c := 4) h4
  have hm : 4 < rl m i := by rw [h.row i hi]; exact hr
  have hi' : i < m.length := by rw [h.len]; exact hi
  have k1 : ∀ i' c : Nat, lg m2 i' c = if i' = i ∧ 0 ≤ c ∧ c < 2 then (([D.i (lg r i 0 + s), .i (lg r i 1 + t)][c - 0]?).getD (.i 0)).int else lg m i' c := fun i' c => by
    rw [hm2]; exact lg_upd hi' (by simp; omega) i' c
  have k2 : ∀ i', rl m2 i' = rl m i' := fun i' => by rw [hm2]; exact rl_upd hi' (by simp; omega) i'
  have hi2 : i < m2.length := by rw [hm2, updR_len]; exact hi'
  have k3 : ∀ i' c : Nat, lg (updR m2 i 2 [.i (lg r i 2 + s), .i (lg r i 3 + t)]) i' c = if i' = i ∧ 2 ≤ c ∧ c < 4 then (([D.i (lg r i 2 + s), .i (lg r i 3 + t)][c - 2]?).getD (.i 0)).int else lg m2 i' c :=
    fun i' c => lg_upd hi2 (by rw [k2]; simp; omega) i' c
  refine ⟨by rw [updR_len, hm2, updR_len, h.len], fun j hj => by rw [rl_upd hi2 (by rw [k2]; simp; omega), k2, h.row j hj], fun j hj hji => ?_, fun j hj hji c => ?_⟩
  · by_cases e : j = i
    · subst e
      refine ⟨⟨?_, ?_⟩, ⟨?_, ?_⟩, ?_, ?_⟩
      · rw [k3, if_neg (by omega), k1, if_pos (by omega)]; rfl
      · rw [k3, if_neg (by omega), k1, if_pos (by omega)]; rfl
      · rw [k3, if_pos (by omega)]; rfl
      · rw [k3, if_pos (by omega)]; rfl
      · rw [k3, if_neg (by omega), k1, if_neg (by omega)]; exact h.rest j hj (Nat.le_refl _) 4
      · rw [k3, if_neg (by omega), k1, if_neg (by omega)]; exact h.rest j hj (Nat.le_refl _) 5
    · have hd := h.done j hj (by omega)
      have q : ∀ c : Nat, lg (updR m2 i 2 [.i (lg r i 2 + s), .i (lg r i 3 + t)]) j c = lg m j c := fun c => by rw [k3, if_neg (by omega), k1, if_neg (by omega)]
      rw [q 0, q 1, q 2, q 3, q 4, q 5]
      exact hd
  · rw [k3, if_neg (by omega), k1, if_neg (by omega)]
    exact h.rest j hj (by omega) c
theorem Mid.end {r m : Rows} {s t : Int} (h : Mid r s t r.length m) : MvL r m s t := ⟨h.len, fun j hj => h.done j hj hj⟩
end Go.Proofs.YtkjjkckcjgkhmaaGreat
