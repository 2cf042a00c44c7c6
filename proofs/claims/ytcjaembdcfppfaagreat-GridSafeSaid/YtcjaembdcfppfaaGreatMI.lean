/- MI, merged: Lm0, Pa, Pb, Pc, Pd, Pe, Pf, Ph, Pi, Pj, Pk, Sb. -/
import Derived.Test.YtcjaembdcfppfaaGreatMF
import Derived.Test.YtcjaembdcfppfaaGreatMC
set_option linter.unusedSimpArgs false
set_option linter.unusedVariables false
/- Chapters 38, 40: symbols of the older contracts. -/
namespace Go.Proofs.YtcjaembdcfppfaaGreat
open Go.RowKit
theorem KG_K7 {ρ : Env} (h : Sees ρ KG 80) : Sees ρ K7 61 := h.trans (by decide) fun n l hn => by
  have e : n < 61 := hn
  refine ⟨?_, ?_⟩
  · simp only [KG, KF, KE, KD, KC, KB, KA, K9, K8]
    (repeat' split) <;> first | omega | rfl
  · simp only [KG, KF, KE, KD, KC, KB, KA, K9, K8]
    (repeat' split) <;> first | omega | rfl
end Go.Proofs.YtcjaembdcfppfaaGreat
/- Plane geometry, no program: common points of segments, distances of segments. -/
namespace Go.Proofs.YtcjaembdcfppfaaGreat
open Go.RowKit

def Seg (ax ay bx by' k x y : Int) : Prop := ∃ s, 0 ≤ s ∧ s ≤ k ∧ x = k * ax + s * (bx - ax) ∧ y = k * ay + s * (by' - ay)
def Common (ax ay bx by' cx cy dx dy : Int) : Prop := ∃ k x y, 0 < k ∧ Seg ax ay bx by' k x y ∧ Seg cx cy dx dy k x y
theorem sgn0 {n : Int} : sgn n = 0 ↔ n = 0 := by unfold sgn; split <;> (try split) <;> omega
theorem sgn_p {n : Int} : 0 < sgn n ↔ 0 < n := by unfold sgn; split <;> (try split) <;> omega
theorem sgn_mul {m n : Int} : sgn m * sgn n < 0 ↔ (m < 0 ∧ 0 < n) ∨ (0 < m ∧ n < 0) := by
  unfold sgn
  repeat' split
  all_goals omega
theorem seg_start (ax ay bx by' : Int) {k : Int} (hk : 0 ≤ k) : Seg ax ay bx by' k (k * ax) (k * ay) := ⟨0, by omega, hk, by simp, by simp⟩
theorem seg_end (ax ay bx by' : Int) {k : Int} (hk : 0 ≤ k) : Seg ax ay bx by' k (k * bx) (k * by') := ⟨k, hk, by omega, by grind, by grind⟩
theorem seg_scale {ax ay bx by' k x y m : Int} (h : Seg ax ay bx by' k x y) (hm : 0 ≤ m) : Seg ax ay bx by' (k * m) (x * m) (y * m) := by
  obtain ⟨s, h1, h2, h3, h4⟩ := h
  exact ⟨s * m, Int.mul_nonneg h1 hm, Int.mul_le_mul_of_nonneg_right h2 hm, by rw [h3]; grind, by rw [h4]; grind⟩
theorem seg_swap {ax ay bx by' k x y : Int} (h : Seg ax ay bx by' k x y) : Seg bx by' ax ay k x y := by
  obtain ⟨s, h1, h2, h3, h4⟩ := h
  exact ⟨k - s, by omega, by omega, by rw [h3]; grind, by rw [h4]; grind⟩
theorem seg_le {ax ay bx by' k x y M : Int} (h : Seg ax ay bx by' k x y) (h1 : ax ≤ M) (h2 : bx ≤ M) : x ≤ k * M := by
  obtain ⟨s, h3, h4, rfl, _⟩ := h
  have e1 := Int.mul_nonneg (show 0 ≤ k - s by omega) (show 0 ≤ M - ax by omega)
  have e2 := Int.mul_nonneg h3 (show 0 ≤ M - bx by omega)
  grind
theorem seg_ge {ax ay bx by' k x y M : Int} (h : Seg ax ay bx by' k x y) (h1 : M ≤ ax) (h2 : M ≤ bx) : k * M ≤ x := by
  obtain ⟨s, h3, h4, rfl, _⟩ := h
  have e1 := Int.mul_nonneg (show 0 ≤ k - s by omega) (show 0 ≤ ax - M by omega)
  have e2 := Int.mul_nonneg h3 (show 0 ≤ bx - M by omega)
  grind
theorem seg_flip {ax ay bx by' k x y : Int} (h : Seg ax ay bx by' k x y) : Seg ay ax by' bx k y x := by
  obtain ⟨s, h1, h2, h3, h4⟩ := h
  exact ⟨s, h1, h2, h4, h3⟩

/-! ### Places on segments -/
theorem seg_of_col {ax ay bx by' px py : Int} (hc : crossI ax ay bx by' px py = 0) (h1 : ax ≠ bx) (h2 : min ax bx ≤ px) (h3 : px ≤ max ax bx) :
    ∃ k, 0 < k ∧ Seg ax ay bx by' k (k * px) (k * py) := by
  unfold crossI at hc
  by_cases h : ax < bx
  · exact ⟨bx - ax, by omega, px - ax, by omega, by omega, by grind, by grind⟩
  · exact ⟨ax - bx, by omega, ax - px, by omega, by omega, by grind, by grind⟩
theorem cross_flip (ax ay bx by' px py : Int) : crossI ay ax by' bx py px = - crossI ax ay bx by' px py := by unfold crossI; grind
theorem onB_iff {px py ax ay bx by' : Int} : onB px py ax ay bx by' = true ↔ ∃ k, 0 < k ∧ Seg ax ay bx by' k (k * px) (k * py) := by
  constructor
  · intro h
    simp only [onB, decide_eq_true_eq, turnI, sgn0] at h
    obtain ⟨h1, h2, h3, h4, h5⟩ := h
    by_cases hx : ax = bx
    · by_cases hy : ay = by'
      · exact ⟨1, by omega, 0, by omega, by omega, by omega, by omega⟩
      · obtain ⟨k, hk, hs⟩ := seg_of_col (ax := ay) (ay := ax) (bx := by') (by' := bx) (px := py) (py := px) (by rw [cross_flip, h1]; rfl) hy h4 h5
        exact ⟨k, hk, seg_flip hs⟩
    · exact seg_of_col h1 hx h2 h3
  · rintro ⟨k, hk, h⟩
    have x1 := seg_le h (Int.le_max_left ax bx) (Int.le_max_right ax bx)
    have x2 := seg_ge h (Int.min_le_left ax bx) (Int.min_le_right ax bx)
    have y1 := seg_le (seg_flip h) (Int.le_max_left ay by') (Int.le_max_right ay by')
    have y2 := seg_ge (seg_flip h) (Int.min_le_left ay by') (Int.min_le_right ay by')
    simp only [onB, decide_eq_true_eq, turnI, sgn0]
    refine ⟨?_, Int.le_of_mul_le_mul_left x2 hk, Int.le_of_mul_le_mul_left x1 hk, Int.le_of_mul_le_mul_left y2 hk, Int.le_of_mul_le_mul_left y1 hk⟩
    obtain ⟨s, _, _, e1, e2⟩ := h
    have : k * crossI ax ay bx by' px py = 0 := by unfold crossI; grind
    rcases Int.mul_eq_zero.mp this with h | h
    · omega
    · exact h
theorem on_of_x {ax ay bx by' px py : Int} (hc : crossI ax ay bx by' px py = 0) (h1 : ax ≠ bx) (h2 : min ax bx ≤ px) (h3 : px ≤ max ax bx) : onB px py ax ay bx by' = true :=
  onB_iff.mpr (seg_of_col hc h1 h2 h3)
theorem on_flip {ax ay bx by' px py : Int} : onB py px ay ax by' bx = onB px py ax ay bx by' := by
  rw [Bool.eq_iff_iff, onB_iff, onB_iff]
  exact ⟨fun ⟨k, h, hs⟩ => ⟨k, h, seg_flip hs⟩, fun ⟨k, h, hs⟩ => ⟨k, h, seg_flip hs⟩⟩

/-! ### Common points -/
theorem cross_sum (ax ay bx by' cx cy dx dy : Int) : crossI ax ay bx by' cx cy + crossI cx cy dx dy ax ay = crossI ax ay bx by' dx dy + crossI cx cy dx dy bx by' := by
  unfold crossI; grind
theorem common_of_meet {ax ay bx by' cx cy dx dy : Int} (h : meetB ax ay bx by' cx cy dx dy = true) : Common ax ay bx by' cx cy dx dy := by
  simp only [meetB, Bool.or_eq_true, decide_eq_true_eq, turnI, sgn_mul] at h
  have e := cross_sum ax ay bx by' cx cy dx dy
  rcases h with h | h | h | h | h
  · have ex : ((crossI cx cy dx dy ax ay - crossI cx cy dx dy bx by') * ax + crossI cx cy dx dy ax ay * (bx - ax) = (crossI cx cy dx dy ax ay - crossI cx cy dx dy bx by') * cx + (- crossI ax ay bx by' cx cy) * (dx - cx)) := by unfold crossI; grind
    have ey : ((crossI cx cy dx dy ax ay - crossI cx cy dx dy bx by') * ay + crossI cx cy dx dy ax ay * (by' - ay) = (crossI cx cy dx dy ax ay - crossI cx cy dx dy bx by') * cy + (- crossI ax ay bx by' cx cy) * (dy - cy)) := by unfold crossI; grind
    generalize crossI cx cy dx dy ax ay = g at *
    generalize crossI cx cy dx dy bx by' = d at *
    generalize crossI ax ay bx by' cx cy = a at *
    generalize crossI ax ay bx by' dx dy = b at *
    by_cases hg : 0 < g
    · exact ⟨g - d, _, _, by omega, ⟨g, by omega, by omega, rfl, rfl⟩, ⟨-a, by omega, by omega, ex, ey⟩⟩
    · exact ⟨d - g, _, _, by omega, ⟨-g, by omega, by omega, rfl, rfl⟩, ⟨a, by omega, by omega, by grind, by grind⟩⟩
  · obtain ⟨k, hk, hs⟩ := onB_iff.mp h
    exact ⟨k, _, _, hk, seg_start _ _ _ _ (by omega), hs⟩
  · obtain ⟨k, hk, hs⟩ := onB_iff.mp h
    exact ⟨k, _, _, hk, seg_end _ _ _ _ (by omega), hs⟩
  · obtain ⟨k, hk, hs⟩ := onB_iff.mp h
    exact ⟨k, _, _, hk, hs, seg_start _ _ _ _ (by omega)⟩
  · obtain ⟨k, hk, hs⟩ := onB_iff.mp h
    exact ⟨k, _, _, hk, hs, seg_end _ _ _ _ (by omega)⟩
theorem between {k s a b : Int} (h1 : 0 < s) (h2 : s < k) (h : (k - s) * a + s * b = 0) : (a = 0 ∧ b = 0) ∨ (a < 0 ∧ 0 < b) ∨ (0 < a ∧ b < 0) := by
  rcases Int.lt_trichotomy a 0 with ha | ha | ha
  · have := Int.mul_neg_of_pos_of_neg (show 0 < k - s by omega) ha
    have : 0 < b := by
      rcases Int.lt_or_le 0 b with hb | hb
      · exact hb
      · have := Int.mul_nonneg (show 0 ≤ s by omega) (show 0 ≤ -b by omega)
        grind
    omega
  · subst ha
    have : s * b = 0 := by grind
    rcases Int.mul_eq_zero.mp this with h | h <;> omega
  · have := Int.mul_pos (show 0 < k - s by omega) ha
    have : b < 0 := by
      rcases Int.lt_or_le b 0 with hb | hb
      · exact hb
      · have := Int.mul_nonneg (show 0 ≤ s by omega) hb
        grind
    omega
theorem col_x {ax ay bx by' cx cy dx dy k x : Int} (hk : 0 < k) (hx : ax ≠ bx) (h1 : crossI ax ay bx by' cx cy = 0) (h2 : crossI ax ay bx by' dx dy = 0) (h3 : crossI cx cy dx dy ax ay = 0) (h4 : crossI cx cy dx dy bx by' = 0)
    (u1 : x ≤ k * max ax bx) (u2 : k * min ax bx ≤ x) (u3 : x ≤ k * max cx dx) (u4 : k * min cx dx ≤ x) :
    onB ax ay cx cy dx dy = true ∨ onB bx by' cx cy dx dy = true ∨ onB cx cy ax ay bx by' = true ∨ onB dx dy ax ay bx by' = true := by
  have a1 := Int.le_of_mul_le_mul_left (Int.le_trans u2 u3) hk
  have a2 := Int.le_of_mul_le_mul_left (Int.le_trans u4 u1) hk
  by_cases q1 : min ax bx ≤ cx ∧ cx ≤ max ax bx
  · exact .inr (.inr (.inl (on_of_x h1 hx q1.1 q1.2)))
  by_cases q2 : min ax bx ≤ dx ∧ dx ≤ max ax bx
  · exact .inr (.inr (.inr (on_of_x h2 hx q2.1 q2.2)))
  have : cx ≠ dx := by omega
  exact .inl (on_of_x h3 this (by omega) (by omega))
theorem meet_of_common {ax ay bx by' cx cy dx dy : Int} (h : Common ax ay bx by' cx cy dx dy) : meetB ax ay bx by' cx cy dx dy = true := by
  obtain ⟨k, x, y, hk, h1, h2⟩ := h
  simp only [meetB, Bool.or_eq_true, decide_eq_true_eq, turnI, sgn_mul]
  have u1 := seg_le h1 (Int.le_max_left ax bx) (Int.le_max_right ax bx)
  have u2 := seg_ge h1 (Int.min_le_left ax bx) (Int.min_le_right ax bx)
  have u3 := seg_le h2 (Int.le_max_left cx dx) (Int.le_max_right cx dx)
  have u4 := seg_ge h2 (Int.min_le_left cx dx) (Int.min_le_right cx dx)
  have v1 := seg_le (seg_flip h1) (Int.le_max_left ay by') (Int.le_max_right ay by')
  have v2 := seg_ge (seg_flip h1) (Int.min_le_left ay by') (Int.min_le_right ay by')
  have v3 := seg_le (seg_flip h2) (Int.le_max_left cy dy) (Int.le_max_right cy dy)
  have v4 := seg_ge (seg_flip h2) (Int.min_le_left cy dy) (Int.min_le_right cy dy)
  have h1' := h1
  have h2' := h2
  obtain ⟨s, s0, s1, ex, ey⟩ := h1
  obtain ⟨t, t0, t1, fx, fy⟩ := h2
  by_cases c1 : s = 0
  · exact .inr (.inl (onB_iff.mpr ⟨k, hk, by rw [show k * ax = x by rw [ex, c1]; omega, show k * ay = y by rw [ey, c1]; omega]; exact h2'⟩))
  by_cases c2 : s = k
  · exact .inr (.inr (.inl (onB_iff.mpr ⟨k, hk, by rw [show k * bx = x by rw [ex, c2]; grind, show k * by' = y by rw [ey, c2]; grind]; exact h2'⟩)))
  by_cases c3 : t = 0
  · exact .inr (.inr (.inr (.inl (onB_iff.mpr ⟨k, hk, by rw [show k * cx = x by rw [fx, c3]; omega, show k * cy = y by rw [fy, c3]; omega]; exact h1'⟩))))
  by_cases c4 : t = k
  · exact .inr (.inr (.inr (.inr (onB_iff.mpr ⟨k, hk, by rw [show k * dx = x by rw [fx, c4]; grind, show k * dy = y by rw [fy, c4]; grind]; exact h1'⟩))))
  have E1 : (k - t) * crossI ax ay bx by' cx cy + t * crossI ax ay bx by' dx dy = 0 := by unfold crossI; grind
  have E2 : (k - s) * crossI cx cy dx dy ax ay + s * crossI cx cy dx dy bx by' = 0 := by unfold crossI; grind
  have e := cross_sum ax ay bx by' cx cy dx dy
  have b1 := between (by omega) (by omega) E1
  have b2 := between (by omega) (by omega) E2
  by_cases z : crossI ax ay bx by' cx cy = 0 ∧ crossI ax ay bx by' dx dy = 0 ∧ crossI cx cy dx dy ax ay = 0 ∧ crossI cx cy dx dy bx by' = 0
  · obtain ⟨z1, z2, z3, z4⟩ := z
    right
    by_cases hx : ax = bx
    · by_cases hy : ay = by'
      · left
        subst hx hy
        exact onB_iff.mpr ⟨k, hk, by rw [show k * ax = x by rw [ex]; grind, show k * ay = y by rw [ey]; grind]; exact h2'⟩
      · have := col_x (ax := ay) (ay := ax) (bx := by') (by' := bx) (cx := cy) (cy := cx) (dx := dy) (dy := dx) hk hy (by rw [cross_flip, z1]; rfl) (by rw [cross_flip, z2]; rfl) (by rw [cross_flip, z3]; rfl) (by rw [cross_flip, z4]; rfl) v1 v2 v3 v4
        simpa only [on_flip] using this
    · exact col_x hk hx z1 z2 z3 z4 u1 u2 u3 u4
  · left
    omega
theorem meet_iff {ax ay bx by' cx cy dx dy : Int} : meetB ax ay bx by' cx cy dx dy = true ↔ Common ax ay bx by' cx cy dx dy := ⟨common_of_meet, meet_of_common⟩
end Go.Proofs.YtcjaembdcfppfaaGreat
/- Plane geometry, no program: a place near a segment; segments close to each other. -/
namespace Go.Proofs.YtcjaembdcfppfaaGreat
open Go.RowKit

theorem lagrange (a b c d : Int) : (a * d - b * c) * (a * d - b * c) + (a * c + b * d) * (a * c + b * d) = (a * a + b * b) * (c * c + d * d) := by grind
theorem near_of_seg {px py ax ay bx by' d k x y : Int} (hk : 0 < k) (h : Seg ax ay bx by' k x y)
    (hd : (k * px - x) * (k * px - x) + (k * py - y) * (k * py - y) ≤ (k * d) * (k * d)) : nearB px py ax ay bx by' d = true := by
  obtain ⟨s, s0, s1, rfl, rfl⟩ := h
  have hl := lagrange (bx - ax) (by' - ay) (px - ax) (py - ay)
  have hL := Int.add_nonneg (sq_nn (bx - ax)) (sq_nn (by' - ay))
  have hkk := Int.mul_pos hk hk
  unfold nearB dotI dist2 crossI
  generalize hvx : bx - ax = vx at *
  generalize hvy : by' - ay = vy at *
  generalize hwx : px - ax = wx at *
  generalize hwy : py - ay = wy at *
  have e1 : px - bx = wx - vx := by omega
  have e2 : py - by' = wy - vy := by omega
  rw [e1, e2]
  have e3 : k * px - (k * ax + s * vx) = k * wx - s * vx := by grind
  have e4 : k * py - (k * ay + s * vy) = k * wy - s * vy := by grind
  rw [e3, e4] at hd
  clear e1 e2 e3 e4 hvx hvy hwx hwy px py ax ay bx by'
  have hs := Int.mul_nonneg s0 (show 0 ≤ k by omega)
  obtain ⟨f, hf⟩ : ∃ f, vx * wx + vy * wy = f := ⟨_, rfl⟩
  rw [hf] at hl ⊢
  split
  · rename_i h
    have q1 := Int.mul_nonneg hs (show 0 ≤ -f by omega)
    have q2 := Int.mul_nonneg (Int.mul_nonneg s0 s0) hL
    simp only [decide_eq_true_eq]
    refine Int.le_of_mul_le_mul_left ?_ hkk
    have e : (k * wx - s * vx) * (k * wx - s * vx) + (k * wy - s * vy) * (k * wy - s * vy) = k * k * (wx * wx + wy * wy) + 2 * (s * k * -f) + s * s * (vx * vx + vy * vy) := by rw [← hf]; grind
    have e2 : k * d * (k * d) = k * k * (d * d) := by grind
    omega
  · split
    · rename_i h1 h2
      have q1 := Int.mul_nonneg (Int.mul_nonneg (show 0 ≤ k by omega) (show 0 ≤ k - s by omega)) (show 0 ≤ f - (vx * vx + vy * vy) by omega)
      have q2 := Int.mul_nonneg (Int.mul_nonneg (show 0 ≤ k - s by omega) (show 0 ≤ k - s by omega)) hL
      simp only [decide_eq_true_eq]
      refine Int.le_of_mul_le_mul_left ?_ hkk
      have e : (k * wx - s * vx) * (k * wx - s * vx) + (k * wy - s * vy) * (k * wy - s * vy) = k * k * ((wx - vx) * (wx - vx) + (wy - vy) * (wy - vy)) + 2 * (k * (k - s) * (f - (vx * vx + vy * vy))) + (k - s) * (k - s) * (vx * vx + vy * vy) := by rw [← hf]; grind
      have e2 : k * d * (k * d) = k * k * (d * d) := by grind
      omega
    · rename_i h1 h2
      have hLp : 0 < vx * vx + vy * vy := by omega
      simp only [decide_eq_true_eq]
      refine Int.le_of_mul_le_mul_left ?_ hkk
      have q0 := sq_nn (s * (vx * vx + vy * vy) - k * f)
      have q1 := Int.mul_le_mul_of_nonneg_left hd hL
      have e : (vx * vx + vy * vy) * ((k * wx - s * vx) * (k * wx - s * vx) + (k * wy - s * vy) * (k * wy - s * vy)) = k * k * ((vx * wy - vy * wx) * (vx * wy - vy * wx)) + (s * (vx * vx + vy * vy) - k * f) * (s * (vx * vx + vy * vy) - k * f) := by rw [← hf]; grind
      have e2 : (vx * vx + vy * vy) * (k * d * (k * d)) = k * k * (d * d * (vx * vx + vy * vy)) := by grind
      omega
/-! ### How far a way within bounds goes -/
end Go.Proofs.YtcjaembdcfppfaaGreat
/- Plane geometry, no program: plane.Close tells segments that are close to each other. -/
namespace Go.Proofs.YtcjaembdcfppfaaGreat
open Go.RowKit

end Go.Proofs.YtcjaembdcfppfaaGreat
/- Plane geometry, no program: how often a ray crosses an edge changes along a segment as the ends of the edge tell. -/
namespace Go.Proofs.YtcjaembdcfppfaaGreat
open Go.RowKit

def crossP (qx qy ax ay bx by' : Int) : Bool :=
  if by' < ay then decide (by' ≤ qy ∧ qy < ay ∧ 0 < crossI bx by' ax ay qx qy) else decide (ay ≤ qy ∧ qy < by' ∧ 0 < crossI ax ay bx by' qx qy)
def gIn (ax ay bx by' px py : Int) : Bool := decide (ay < py ∧ py ≤ by' ∧ crossI ax ay bx by' px py < 0)
theorem crossP_swap (qx qy ax ay bx by' : Int) : crossP qx qy ax ay bx by' = crossP qx qy bx by' ax ay := by
  unfold crossP
  split <;> split
  · omega
  · rfl
  · rfl
  · have : ay = by' := by omega
    subst this
    rw [decide_eq_false (by omega), decide_eq_false (by omega)]
theorem pos_of {a b : Int} (h : 0 < a * b) (hb : 0 < b) : 0 < a := by
  rcases Int.lt_or_le 0 a with h' | h'
  · exact h'
  · have := Int.mul_nonneg (show 0 ≤ -a by omega) (show 0 ≤ b by omega)
    grind
theorem neg_of {a b : Int} (h : a * b < 0) (hb : 0 < b) : a < 0 := by
  rcases Int.lt_or_le a 0 with h' | h'
  · exact h'
  · have := Int.mul_nonneg h' (show 0 ≤ b by omega)
    omega
theorem on_of_y {ax ay bx by' px py : Int} (hc : crossI ax ay bx by' px py = 0) (h1 : ay ≠ by') (h2 : min ay by' ≤ py) (h3 : py ≤ max ay by') : onB px py ax ay bx by' = true := by
  rw [← on_flip]
  exact on_of_x (by rw [cross_flip, hc]; rfl) h1 h2 h3
section
variable {ax ay bx by' px py qx qy : Int} (hn : meetB ax ay bx by' px py qx qy = false)
include hn
theorem no_proper : ¬ (((crossI ax ay bx by' px py < 0 ∧ 0 < crossI ax ay bx by' qx qy) ∨ (0 < crossI ax ay bx by' px py ∧ crossI ax ay bx by' qx qy < 0)) ∧ ((crossI px py qx qy ax ay < 0 ∧ 0 < crossI px py qx qy bx by') ∨ (0 < crossI px py qx qy ax ay ∧ crossI px py qx qy bx by' < 0))) := by
  intro h
  simp only [meetB, Bool.or_eq_false_iff, decide_eq_false_iff_not, turnI, sgn_mul] at hn
  exact hn.1 h
theorem no_on : onB ax ay px py qx qy = false ∧ onB bx by' px py qx qy = false ∧ onB px py ax ay bx by' = false ∧ onB qx qy ax ay bx by' = false := by
  simp only [meetB, Bool.or_eq_false_iff] at hn
  exact hn.2
theorem par01 (h1 : py ≤ ay) (h2 : ay < qy) (h3 : qy ≤ by') : (0 < crossI px py qx qy ax ay) ↔ crossI ax ay bx by' qx qy < 0 := by
  have np := no_proper hn
  obtain ⟨n1, n2, n3, n4⟩ := no_on hn
  have z1 : crossI px py qx qy ax ay ≠ 0 := fun h => by rw [on_of_y h (by omega) (by omega) (by omega)] at n1; exact absurd n1 (by decide)
  have z4 : crossI ax ay bx by' qx qy ≠ 0 := fun h => by rw [on_of_y h (by omega) (by omega) (by omega)] at n4; exact absurd n4 (by decide)
  have I1 : crossI ax ay bx by' px py * (qy - ay) + crossI px py qx qy ax ay * (by' - ay) = crossI ax ay bx by' qx qy * (py - ay) := by unfold crossI; grind
  have I2 : crossI px py qx qy bx by' * (by' - ay) = crossI ax ay bx by' px py * (by' - qy) - crossI ax ay bx by' qx qy * (by' - py) := by unfold crossI; grind
  generalize crossI ax ay bx by' px py = a at *
  generalize crossI ax ay bx by' qx qy = b at *
  generalize crossI px py qx qy ax ay = g at *
  generalize crossI px py qx qy bx by' = d at *
  constructor
  · intro hg
    rcases Int.lt_or_le b 0 with h | h
    · exact h
    · have q1 := Int.mul_pos hg (show 0 < by' - ay by omega)
      have q2 := Int.mul_nonneg h (show 0 ≤ ay - py by omega)
      have ha : a < 0 := neg_of (b := qy - ay) (by grind) (by omega)
      have q3 := Int.mul_nonneg (show 0 ≤ -a by omega) (show 0 ≤ by' - qy by omega)
      have q4 := Int.mul_pos (show 0 < b by omega) (show 0 < by' - py by omega)
      have hd : d < 0 := neg_of (b := by' - ay) (by grind) (by omega)
      omega
  · intro hb
    rcases Int.lt_or_le 0 g with h | h
    · exact h
    · have q1 := Int.mul_pos (show 0 < -g by omega) (show 0 < by' - ay by omega)
      have q2 := Int.mul_nonneg (show 0 ≤ -b by omega) (show 0 ≤ ay - py by omega)
      have ha : 0 < a := pos_of (b := qy - ay) (by grind) (by omega)
      have q3 := Int.mul_nonneg (show 0 ≤ a by omega) (show 0 ≤ by' - qy by omega)
      have q4 := Int.mul_pos (show 0 < -b by omega) (show 0 < by' - py by omega)
      have hd : 0 < d := pos_of (b := by' - ay) (by grind) (by omega)
      omega
theorem par12 (h1 : ay < py) (h2 : py ≤ by') (h3 : by' < qy) : (0 < crossI px py qx qy bx by') ↔ crossI ax ay bx by' px py < 0 := by
  have np := no_proper hn
  obtain ⟨n1, n2, n3, n4⟩ := no_on hn
  have z1 : crossI px py qx qy bx by' ≠ 0 := fun h => by rw [on_of_y h (by omega) (by omega) (by omega)] at n2; exact absurd n2 (by decide)
  have z4 : crossI ax ay bx by' px py ≠ 0 := fun h => by rw [on_of_y h (by omega) (by omega) (by omega)] at n3; exact absurd n3 (by decide)
  have I1 : crossI ax ay bx by' px py * (qy - ay) + crossI px py qx qy ax ay * (by' - ay) = crossI ax ay bx by' qx qy * (py - ay) := by unfold crossI; grind
  have I2 : crossI px py qx qy bx by' * (by' - ay) = crossI ax ay bx by' px py * (by' - qy) - crossI ax ay bx by' qx qy * (by' - py) := by unfold crossI; grind
  generalize crossI ax ay bx by' px py = a at *
  generalize crossI ax ay bx by' qx qy = b at *
  generalize crossI px py qx qy ax ay = g at *
  generalize crossI px py qx qy bx by' = d at *
  constructor
  · intro hd
    rcases Int.lt_or_le a 0 with h | h
    · exact h
    · have q1 := Int.mul_pos hd (show 0 < by' - ay by omega)
      have q2 := Int.mul_nonneg h (show 0 ≤ qy - by' by omega)
      have q5 : 0 < -b * (by' - py) := by grind
      have hb : b < 0 := by
        rcases Int.lt_or_le b 0 with h' | h'
        · exact h'
        · have := Int.mul_nonneg h' (show 0 ≤ by' - py by omega)
          grind
      have q3 := Int.mul_pos (show 0 < -b by omega) (show 0 < py - ay by omega)
      have q4 := Int.mul_pos (show 0 < a by omega) (show 0 < qy - ay by omega)
      have hg : g < 0 := neg_of (b := by' - ay) (by grind) (by omega)
      omega
  · intro ha
    rcases Int.lt_or_le 0 d with h | h
    · exact h
    · have q1 := Int.mul_pos (show 0 < -d by omega) (show 0 < by' - ay by omega)
      have q2 := Int.mul_pos (show 0 < -a by omega) (show 0 < qy - by' by omega)
      have q5 : 0 < b * (by' - py) := by grind
      have hb : 0 < b := by
        rcases Int.lt_or_le 0 b with h' | h'
        · exact h'
        · have := Int.mul_nonneg (show 0 ≤ -b by omega) (show 0 ≤ by' - py by omega)
          grind
      have q3 := Int.mul_pos hb (show 0 < py - ay by omega)
      have q4 := Int.mul_pos (show 0 < -a by omega) (show 0 < qy - ay by omega)
      have hg : 0 < g := pos_of (b := by' - ay) (by grind) (by omega)
      omega
theorem par02 (hy : ay ≤ by') (h1 : py ≤ ay) (h3 : by' < qy) : (0 < crossI px py qx qy ax ay) ↔ 0 < crossI px py qx qy bx by' := by
  have np := no_proper hn
  obtain ⟨n1, n2, n3, n4⟩ := no_on hn
  have z1 : crossI px py qx qy ax ay ≠ 0 := fun h => by rw [on_of_y h (by omega) (by omega) (by omega)] at n1; exact absurd n1 (by decide)
  have z2 : crossI px py qx qy bx by' ≠ 0 := fun h => by rw [on_of_y h (by omega) (by omega) (by omega)] at n2; exact absurd n2 (by decide)
  have e := cross_sum ax ay bx by' px py qx qy
  have I1 : crossI ax ay bx by' px py * (qy - ay) + crossI px py qx qy ax ay * (by' - ay) = crossI ax ay bx by' qx qy * (py - ay) := by unfold crossI; grind
  have I2 : crossI px py qx qy bx by' * (by' - ay) = crossI ax ay bx by' px py * (by' - qy) - crossI ax ay bx by' qx qy * (by' - py) := by unfold crossI; grind
  have z3 : ¬ (crossI ax ay bx by' px py = 0 ∧ py = ay ∧ by' = ay) ∨ (crossI px py qx qy ax ay < 0 ∧ crossI px py qx qy bx by' < 0) ∨ (0 < crossI px py qx qy ax ay ∧ 0 < crossI px py qx qy bx by') := by
    rcases Classical.em (crossI ax ay bx by' px py = 0 ∧ py = ay ∧ by' = ay) with ⟨c1, rfl, rfl⟩ | c
    · right
      have w1 : crossI px by' qx qy ax by' = (px - ax) * (qy - by') := by unfold crossI; grind
      have w2 : crossI px by' qx qy bx by' = (px - bx) * (qy - by') := by unfold crossI; grind
      rw [w1] at z1 ⊢
      rw [w2] at z2 ⊢
      have nn : ¬ (min ax bx ≤ px ∧ px ≤ max ax bx) := by
        intro hh
        rcases Classical.em (ax = bx) with hx | hx
        · have : px = ax := by omega
          subst this
          simp at z1
        · rw [on_of_x c1 hx hh.1 hh.2] at n3
          exact absurd n3 (by decide)
      rcases Int.lt_or_le px (min ax bx) with h | h
      · left
        exact ⟨Int.mul_neg_of_neg_of_pos (by omega) (by omega), Int.mul_neg_of_neg_of_pos (by omega) (by omega)⟩
      · right
        exact ⟨Int.mul_pos (by omega) (by omega), Int.mul_pos (by omega) (by omega)⟩
    · exact .inl c
  generalize crossI ax ay bx by' px py = a at *
  generalize crossI ax ay bx by' qx qy = b at *
  generalize crossI px py qx qy ax ay = g at *
  generalize crossI px py qx qy bx by' = d at *
  constructor
  · intro hg
    rcases Int.lt_or_le 0 d with h | h
    · exact h
    · -- b - a = g - d > 0
      exfalso
      rcases Int.lt_or_le a 0 with ha | ha
      · have hb : b ≤ 0 := by omega
        have q1 := Int.mul_pos (show 0 < -a by omega) (show 0 < qy - by' by omega)
        have q2 := Int.mul_nonneg (show 0 ≤ -b by omega) (show 0 ≤ by' - py by omega)
        have q3 := Int.mul_nonneg (show 0 ≤ -d by omega) (show 0 ≤ by' - ay by omega)
        grind
      · have q1 := Int.mul_nonneg ha (show 0 ≤ qy - ay by omega)
        have q2 := Int.mul_nonneg (show 0 ≤ g by omega) (show 0 ≤ by' - ay by omega)
        have q3 := Int.mul_nonneg (show 0 ≤ b by omega) (show 0 ≤ ay - py by omega)
        have e0 : b * (ay - py) = -(b * (py - ay)) := by grind
        have e1 : a * (qy - ay) = 0 := by omega
        have e2 : g * (by' - ay) = 0 := by omega
        have e3 : b * (py - ay) = 0 := by omega
        have f1 := Int.mul_eq_zero.mp e1
        have f2 := Int.mul_eq_zero.mp e2
        have f3 := Int.mul_eq_zero.mp e3
        omega
  · intro hd
    rcases Int.lt_or_le 0 g with h | h
    · exact h
    · exfalso
      rcases Int.lt_or_le 0 a with ha | ha
      · have hb : 0 ≤ b := by omega
        have q1 := Int.mul_pos ha (show 0 < qy - by' by omega)
        have q2 := Int.mul_nonneg hb (show 0 ≤ by' - py by omega)
        have q3 := Int.mul_nonneg (show 0 ≤ d by omega) (show 0 ≤ by' - ay by omega)
        grind
      · have q1 := Int.mul_nonneg (show 0 ≤ -a by omega) (show 0 ≤ qy - ay by omega)
        have q2 := Int.mul_nonneg (show 0 ≤ -g by omega) (show 0 ≤ by' - ay by omega)
        have q3 := Int.mul_nonneg (show 0 ≤ -b by omega) (show 0 ≤ ay - py by omega)
        rw [Int.neg_mul] at q1 q2 q3
        have e0 : b * (ay - py) = -(b * (py - ay)) := by grind
        have e1 : a * (qy - ay) = 0 := by omega
        have e2 : g * (by' - ay) = 0 := by omega
        have e3 : b * (py - ay) = 0 := by omega
        have f1 := Int.mul_eq_zero.mp e1
        have f2 := Int.mul_eq_zero.mp e2
        have f3 := Int.mul_eq_zero.mp e3
        omega
theorem par11 (h1 : ay < py) (hpq : py ≤ qy) (h3 : qy ≤ by') : crossI ax ay bx by' px py < 0 ↔ crossI ax ay bx by' qx qy < 0 := by
  have np := no_proper hn
  obtain ⟨n1, n2, n3, n4⟩ := no_on hn
  have z1 : crossI ax ay bx by' px py ≠ 0 := fun h => by rw [on_of_y h (by omega) (by omega) (by omega)] at n3; exact absurd n3 (by decide)
  have z2 : crossI ax ay bx by' qx qy ≠ 0 := fun h => by rw [on_of_y h (by omega) (by omega) (by omega)] at n4; exact absurd n4 (by decide)
  have I1 : crossI ax ay bx by' px py * (qy - ay) + crossI px py qx qy ax ay * (by' - ay) = crossI ax ay bx by' qx qy * (py - ay) := by unfold crossI; grind
  have I2 : crossI px py qx qy bx by' * (by' - ay) = crossI ax ay bx by' px py * (by' - qy) - crossI ax ay bx by' qx qy * (by' - py) := by unfold crossI; grind
  have z3 : ¬ (py = by' ∧ qy = by') ∨ (crossI ax ay bx by' px py < 0 ∧ crossI ax ay bx by' qx qy < 0) ∨ (0 < crossI ax ay bx by' px py ∧ 0 < crossI ax ay bx by' qx qy) := by
    rcases Classical.em (py = by' ∧ qy = by') with ⟨rfl, rfl⟩ | c
    · right
      have w1 : crossI ax ay bx qy px qy = (bx - px) * (qy - ay) := by unfold crossI; grind
      have w2 : crossI ax ay bx qy qx qy = (bx - qx) * (qy - ay) := by unfold crossI; grind
      rw [w1] at z1 ⊢
      rw [w2] at z2 ⊢
      have nn : ¬ (min px qx ≤ bx ∧ bx ≤ max px qx) := by
        intro hh
        rcases Classical.em (px = qx) with hx | hx
        · have : bx = px := by omega
          subst this
          simp at z1
        · rw [on_of_x (by unfold crossI; grind) hx hh.1 hh.2] at n2
          exact absurd n2 (by decide)
      rcases Int.lt_or_le bx (min px qx) with h | h
      · left
        exact ⟨Int.mul_neg_of_neg_of_pos (by omega) (by omega), Int.mul_neg_of_neg_of_pos (by omega) (by omega)⟩
      · right
        exact ⟨Int.mul_pos (by omega) (by omega), Int.mul_pos (by omega) (by omega)⟩
    · exact .inl c
  generalize crossI ax ay bx by' px py = a at *
  generalize crossI ax ay bx by' qx qy = b at *
  generalize crossI px py qx qy ax ay = g at *
  generalize crossI px py qx qy bx by' = d at *
  have key : ∀ a b g d : Int, a * (qy - ay) + g * (by' - ay) = b * (py - ay) → d * (by' - ay) = a * (by' - qy) - b * (by' - py) → a < 0 → 0 < b → ¬ (py = by' ∧ qy = by') → 0 < g ∧ d < 0 := by
    intro a b g d I1 I2 ha hb hz
    have q1 := Int.mul_pos hb (show 0 < py - ay by omega)
    have q2 := Int.mul_pos (show 0 < -a by omega) (show 0 < qy - ay by omega)
    have q3 := Int.mul_nonneg (show 0 ≤ -a by omega) (show 0 ≤ by' - qy by omega)
    have q4 := Int.mul_nonneg (show 0 ≤ b by omega) (show 0 ≤ by' - py by omega)
    refine ⟨pos_of (b := by' - ay) (by grind) (by omega), ?_⟩
    rcases Int.lt_or_le d 0 with h | h
    · exact h
    · have q5 := Int.mul_nonneg h (show 0 ≤ by' - ay by omega)
      rw [Int.neg_mul] at q3
      have e1 : a * (by' - qy) = 0 := by omega
      have e2 : b * (by' - py) = 0 := by omega
      have := Int.mul_eq_zero.mp e1
      have := Int.mul_eq_zero.mp e2
      omega
  constructor
  · intro ha
    rcases Int.lt_or_le b 0 with h | h
    · exact h
    · have := key a b g d I1 I2 ha (by omega) (by omega)
      omega
  · intro hb
    rcases Int.lt_or_le a 0 with h | h
    · exact h
    · have := key (-a) (-b) (-g) (-d) (by grind) (by grind) (by omega) (by omega) (by omega)
      omega
end
theorem iff_dec {p q : Prop} [Decidable p] [Decidable q] (h : p ↔ q) : decide p = decide q := decide_eq_decide.mpr h
theorem par_up {ax ay bx by' px py qx qy : Int} (hy : ay ≤ by') (hpq : py ≤ qy) (hn : meetB ax ay bx by' px py qx qy = false) :
    (crossP ax ay px py qx qy ^^ crossP bx by' px py qx qy) = (gIn ax ay bx by' px py ^^ gIn ax ay bx by' qx qy) := by
  unfold crossP gIn
  rw [if_neg (by omega), if_neg (by omega)]
  by_cases h1 : py ≤ ay
  · by_cases h2 : ay < qy
    · by_cases h3 : qy ≤ by'
      · have := par01 hn h1 h2 h3
        rw [decide_eq_false (p := py ≤ by' ∧ by' < qy ∧ 0 < crossI px py qx qy bx by') (by omega), decide_eq_false (p := ay < py ∧ py ≤ by' ∧ crossI ax ay bx by' px py < 0) (by omega)]
        simp only [Bool.xor_false, Bool.false_xor]
        exact iff_dec ⟨fun h => ⟨h2, h3, this.mp h.2.2⟩, fun h => ⟨h1, h2, this.mpr h.2.2⟩⟩
      · have := par02 hn hy h1 (by omega)
        rw [decide_eq_false (p := ay < py ∧ py ≤ by' ∧ crossI ax ay bx by' px py < 0) (by omega), decide_eq_false (p := ay < qy ∧ qy ≤ by' ∧ crossI ax ay bx by' qx qy < 0) (by omega)]
        rw [iff_dec (q := py ≤ by' ∧ by' < qy ∧ 0 < crossI px py qx qy bx by') ⟨fun h => ⟨by omega, by omega, this.mp h.2.2⟩, fun h => ⟨by omega, by omega, this.mpr h.2.2⟩⟩]
        simp
    · rw [decide_eq_false (by omega), decide_eq_false (by omega), decide_eq_false (by omega), decide_eq_false (by omega)]
  · by_cases h2 : py ≤ by'
    · by_cases h3 : by' < qy
      · have := par12 hn (by omega) h2 h3
        rw [decide_eq_false (p := py ≤ ay ∧ ay < qy ∧ 0 < crossI px py qx qy ax ay) (by omega), decide_eq_false (p := ay < qy ∧ qy ≤ by' ∧ crossI ax ay bx by' qx qy < 0) (by omega)]
        simp only [Bool.xor_false, Bool.false_xor]
        exact iff_dec ⟨fun h => ⟨by omega, h2, this.mp h.2.2⟩, fun h => ⟨h2, h3, this.mpr h.2.2⟩⟩
      · have := par11 hn (by omega) hpq (by omega)
        rw [decide_eq_false (p := py ≤ ay ∧ ay < qy ∧ 0 < crossI px py qx qy ax ay) (by omega), decide_eq_false (p := py ≤ by' ∧ by' < qy ∧ 0 < crossI px py qx qy bx by') (by omega)]
        rw [iff_dec (q := ay < qy ∧ qy ≤ by' ∧ crossI ax ay bx by' qx qy < 0) ⟨fun h => ⟨by omega, by omega, this.mp h.2.2⟩, fun h => ⟨by omega, by omega, this.mpr h.2.2⟩⟩]
        simp
    · rw [decide_eq_false (by omega), decide_eq_false (by omega), decide_eq_false (by omega), decide_eq_false (by omega)]
theorem meet_swap2 {ax ay bx by' px py qx qy : Int} : meetB ax ay bx by' qx qy px py = meetB ax ay bx by' px py qx qy := by
  rw [Bool.eq_iff_iff, meet_iff, meet_iff]
  exact ⟨fun ⟨k, x, y, h1, h2, h3⟩ => ⟨k, x, y, h1, h2, seg_swap h3⟩, fun ⟨k, x, y, h1, h2, h3⟩ => ⟨k, x, y, h1, h2, seg_swap h3⟩⟩
theorem meet_swap1 {ax ay bx by' px py qx qy : Int} : meetB bx by' ax ay px py qx qy = meetB ax ay bx by' px py qx qy := by
  rw [Bool.eq_iff_iff, meet_iff, meet_iff]
  exact ⟨fun ⟨k, x, y, h1, h2, h3⟩ => ⟨k, x, y, h1, seg_swap h2, h3⟩, fun ⟨k, x, y, h1, h2, h3⟩ => ⟨k, x, y, h1, seg_swap h2, h3⟩⟩
theorem par_edge {ax ay bx by' px py qx qy : Int} (hy : ay ≤ by') (hn : meetB ax ay bx by' px py qx qy = false) :
    (crossP ax ay px py qx qy ^^ crossP bx by' px py qx qy) = (gIn ax ay bx by' px py ^^ gIn ax ay bx by' qx qy) := by
  rcases Int.le_total py qy with h | h
  · exact par_up hy h hn
  · rw [crossP_swap ax ay, crossP_swap bx by', Bool.xor_comm (gIn _ _ _ _ _ _)]
    exact par_up hy h (by rw [meet_swap2]; exact hn)
end Go.Proofs.YtcjaembdcfppfaaGreat
/- Plane geometry, no program: a box and a segment; a polygon and a segment that meets no edge. -/
namespace Go.Proofs.YtcjaembdcfppfaaGreat
open Go.RowKit

/-! ### Scaling -/
end Go.Proofs.YtcjaembdcfppfaaGreat
/- Plane geometry, no program: a polygon and a segment that meets no edge. -/
namespace Go.Proofs.YtcjaembdcfppfaaGreat
open Go.RowKit

def cx (r : Rows) (i : Nat) : Int := lg r (i : Int) 0
def cy (r : Rows) (i : Nat) : Int := lg r (i : Int) 1
theorem plN_spec {r : Rows} : ∀ (f i : Nat), plN r f i = true → ∀ k, i ≤ k → k < i + f → placeB (cx r k) (cy r k) = true
  | 0, i, _, k, h1, h2 => by omega
  | f + 1, i, h, k, h1, h2 => by
    rw [plN, Bool.and_eq_true] at h
    by_cases e : k = i
    · subst e; exact h.1
    · exact plN_spec f (i + 1) h.2 k (by omega) (by omega)
theorem polyB_pl {r : Rows} (h : polyB r = true) {k : Nat} (hk : k < r.length) : placeB (cx r k) (cy r k) = true := by
  simp only [polyB, Bool.and_eq_true] at h
  exact plN_spec r.length 0 h.2.1 k (by omega) (by omega)
def crE (r : Rows) (x y : Int) (i : Nat) : Bool := crossP x y (cx r i) (cy r i) (cx r (nxt r.length i)) (cy r (nxt r.length i))
def parN (r : Rows) (x y : Int) : Nat → Nat → Bool
  | 0, _ => false
  | f + 1, i => crE r x y i ^^ parN r x y f (i + 1)
theorem turnR_eq {a b c d e f : Int} (h1 : placeB a b = true) (h2 : placeB c d = true) (h3 : placeB e f = true) : turnR [.i a, .i b, .i c, .i d, .i e, .i f] = turnI a b c d e f := by
  have : six6 [.i a, .i b, .i c, .i d, .i e, .i f] = (placeB a b && placeB c d && placeB e f) := rfl
  unfold turnR
  rw [this, h1, h2, h3]
  rfl
theorem onR_eq {a b c d e f : Int} (h1 : placeB a b = true) (h2 : placeB c d = true) (h3 : placeB e f = true) : onR [.i a, .i b, .i c, .i d, .i e, .i f] = onB a b c d e f := by
  have : six6 [.i a, .i b, .i c, .i d, .i e, .i f] = (placeB a b && placeB c d && placeB e f) := rfl
  unfold onR
  rw [this, h1, h2, h3]
  rfl
theorem crossB_eq {r : Rows} (hr : polyB r = true) {x y : Int} (hq : placeB x y = true) {i : Nat} (hi : i < r.length) : crossB r x y i = crE r x y i := by
  have h1 := polyB_pl hr hi
  have h2 := polyB_pl hr (nxt_lt hi)
  unfold cx cy at h1 h2
  unfold crossB crE crossP cx cy
  rw [turnR_eq h1 h2 hq, turnR_eq h2 h1 hq]
  simp only [turnI, sgn_p]
theorem onE_eq {r : Rows} (hr : polyB r = true) {x y : Int} (hq : placeB x y = true) {i : Nat} (hi : i < r.length) : onE r x y i = onB x y (cx r i) (cy r i) (cx r (nxt r.length i)) (cy r (nxt r.length i)) :=
  onR_eq hq (polyB_pl hr hi) (polyB_pl hr (nxt_lt hi))
def onN (r : Rows) (x y : Int) : Nat → Nat → Bool
  | 0, _ => false
  | f + 1, i => onB x y (cx r i) (cy r i) (cx r (nxt r.length i)) (cy r (nxt r.length i)) || onN r x y f (i + 1)
theorem placeN_eq {r : Rows} (hr : polyB r = true) {x y : Int} (hq : placeB x y = true) : ∀ (f i : Nat) (b : Bool), i + f = r.length → placeN r x y f i b = if onN r x y f i then 0 else if b ^^ parN r x y f i then 1 else -1
  | 0, i, b, h => by simp [placeN, onN, parN]
  | f + 1, i, b, h => by
    rw [placeN, onN, parN, placeN_eq hr hq f (i + 1) _ (by omega), onE_eq hr hq (show i < r.length by omega), crossB_eq hr hq (show i < r.length by omega)]
    cases onB x y (cx r i) (cy r i) (cx r (nxt r.length i)) (cy r (nxt r.length i)) <;> simp [Bool.xor_assoc]
theorem onN_false {r : Rows} {x y : Int} : ∀ (f i : Nat), (∀ k, i ≤ k → k < i + f → onB x y (cx r k) (cy r k) (cx r (nxt r.length k)) (cy r (nxt r.length k)) = false) → onN r x y f i = false
  | 0, _, _ => rfl
  | f + 1, i, h => by
    rw [onN, h i (by omega) (by omega), onN_false f (i + 1) (fun k h1 h2 => h k (by omega) (by omega))]; rfl
theorem xor4 (a b c d : Bool) : ((a ^^ b) ^^ (c ^^ d)) = ((a ^^ c) ^^ (b ^^ d)) := by cases a <;> cases b <;> cases c <;> cases d <;> rfl
theorem par_tele {r : Rows} {ax ay bx by' : Int} (hy : ay ≤ by') (hm : ∀ k, k < r.length → meetB ax ay bx by' (cx r k) (cy r k) (cx r (nxt r.length k)) (cy r (nxt r.length k)) = false) :
    ∀ (f i : Nat), i + f + 1 = r.length → (parN r ax ay (f + 1) i ^^ parN r bx by' (f + 1) i) = (gIn ax ay bx by' (cx r i) (cy r i) ^^ gIn ax ay bx by' (cx r 0) (cy r 0))
  | 0, i, h => by
    have e := par_edge hy (hm i (by omega))
    rw [parN, parN, parN, parN, Bool.xor_false, Bool.xor_false]
    unfold crE
    rw [e, show nxt r.length i = 0 by unfold nxt; rw [if_pos (by omega)]]
  | f + 1, i, h => by
    have e := par_edge hy (hm i (by omega))
    have e2 := par_tele hy hm f (i + 1) (by omega)
    rw [show parN r ax ay (f + 1 + 1) i = (crE r ax ay i ^^ parN r ax ay (f + 1) (i + 1)) from rfl, show parN r bx by' (f + 1 + 1) i = (crE r bx by' i ^^ parN r bx by' (f + 1) (i + 1)) from rfl, xor4, e2]
    unfold crE
    rw [e, show nxt r.length i = i + 1 by unfold nxt; rw [if_neg (by omega)]]
    cases gIn ax ay bx by' (cx r i) (cy r i) <;> cases gIn ax ay bx by' (cx r (i + 1)) (cy r (i + 1)) <;> cases gIn ax ay bx by' (cx r 0) (cy r 0) <;> rfl
theorem par_up_to {r : Rows} (hn : 0 < r.length) {ax ay bx by' : Int} (hy : ay ≤ by') (hm : ∀ k, k < r.length → meetB ax ay bx by' (cx r k) (cy r k) (cx r (nxt r.length k)) (cy r (nxt r.length k)) = false) : parN r ax ay r.length 0 = parN r bx by' r.length 0 := by
  have := par_tele hy hm (r.length - 1) 0 (by omega)
  rw [show r.length - 1 + 1 = r.length by omega, Bool.xor_self] at this
  revert this
  cases parN r ax ay r.length 0 <;> cases parN r bx by' r.length 0 <;> simp
theorem place_const {r : Rows} (hr : polyB r = true) {ax ay bx by' : Int} (ha : placeB ax ay = true) (hb : placeB bx by' = true)
    (hm : ∀ k, k < r.length → meetB ax ay bx by' (cx r k) (cy r k) (cx r (nxt r.length k)) (cy r (nxt r.length k)) = false) : placeN r ax ay r.length 0 false = placeN r bx by' r.length 0 false := by
  have hl := polyB_len hr
  rw [placeN_eq hr ha _ _ _ (by omega), placeN_eq hr hb _ _ _ (by omega)]
  rw [onN_false r.length 0 (fun k _ h => (no_on (hm k (by omega))).1), onN_false r.length 0 (fun k _ h => (no_on (hm k (by omega))).2.1)]
  have : parN r ax ay r.length 0 = parN r bx by' r.length 0 := by
    rcases Int.le_total ay by' with h | h
    · exact par_up_to (by omega) h hm
    · exact (par_up_to (by omega) h (fun k hk => by rw [meet_swap1]; exact hm k hk)).symm
  rw [this]
theorem pinR_eq {r : Rows} (hr : polyB r = true) {x y : Int} (hq : placeB x y = true) : pinR [.i x, .i y, .l r] = placeN r x y r.length 0 false ∧ pinE [.i x, .i y, .l r] = 0 := by
  have : pinO [.i x, .i y, .l r] = (placeB x y && polyB r) := rfl
  unfold pinR pinE
  rw [this, hq, hr]
  exact ⟨rfl, rfl⟩
theorem nearR_eq {a b c d e f r : Int} (h1 : placeB a b = true) (h2 : placeB c d = true) (h3 : placeB e f = true) (hr : 0 ≤ r ∧ r ≤ 3000000) :
    nearR [.i a, .i b, .i c, .i d, .i e, .i f, .i r] = nearB a b c d e f r ∧ nearE [.i a, .i b, .i c, .i d, .i e, .i f, .i r] = 0 := by
  have e1 : nearO [.i a, .i b, .i c, .i d, .i e, .i f, .i r] = (placeB a b && placeB c d && placeB e f && distB r) := rfl
  have e2 : nearL [.i a, .i b, .i c, .i d, .i e, .i f, .i r] = nearB a b c d e f r := rfl
  unfold nearR nearE
  rw [e1, e2, h1, h2, h3, show distB r = true by unfold distB; exact decide_eq_true hr]
  exact ⟨rfl, rfl⟩
theorem prv_nxt {n i : Nat} (h : i < n) : prv n (nxt n i) = i := by unfold prv nxt; split <;> split <;> omega
theorem seg_part {ax ay bx by' mx my k k' x y : Int} (hk : 0 ≤ k) (hk' : 0 < k') (hm : Seg ax ay bx by' k' (k' * mx) (k' * my)) (h : Seg ax ay mx my k x y) : Seg ax ay bx by' (k * k') (x * k') (y * k') := by
  obtain ⟨s, s0, s1, e1, e2⟩ := hm
  obtain ⟨t, t0, t1, rfl, rfl⟩ := h
  exact ⟨t * s, Int.mul_nonneg t0 s0, Int.mul_le_mul t1 s1 s0 hk, by grind, by grind⟩
end Go.Proofs.YtcjaembdcfppfaaGreat
/- Plane geometry, no program: the winding number of a simple polygon is -1, 0 or 1. -/
namespace Go.Proofs.YtcjaembdcfppfaaGreat
open Go.RowKit

/-! ### Sums -/
def sumZ (f : Nat → Int) : Nat → Int | 0 => 0 | n + 1 => sumZ f n + f n
theorem sumZ_congr {f g : Nat → Int} : ∀ (n : Nat), (∀ k, k < n → f k = g k) → sumZ f n = sumZ g n
  | 0, _ => rfl
  | n + 1, h => by rw [sumZ, sumZ, sumZ_congr n (fun k hk => h k (by omega)), h n (by omega)]
theorem sumZ_zero {f : Nat → Int} : ∀ (n : Nat), (∀ k, k < n → f k = 0) → sumZ f n = 0
  | 0, _ => rfl
  | n + 1, h => by rw [sumZ, sumZ_zero n (fun k hk => h k (by omega)), h n (by omega)]; rfl
theorem sumZ_one {f : Nat → Int} {i : Nat} : ∀ (n : Nat), i < n → (∀ k, k < n → k ≠ i → f k = 0) → sumZ f n = f i
  | 0, h, _ => by omega
  | n + 1, h, hz => by
    rw [sumZ]
    by_cases e : i = n
    · subst e
      rw [sumZ_zero i (fun k hk => hz k (by omega) (by omega))]; omega
    · rw [sumZ_one n (by omega) (fun k hk hk' => hz k (by omega) hk'), hz n (by omega) (by omega)]; omega
theorem sumZ_two {f : Nat → Int} {i j : Nat} (hij : i ≠ j) : ∀ (n : Nat), i < n → j < n → (∀ k, k < n → k ≠ i → k ≠ j → f k = 0) → sumZ f n = f i + f j
  | 0, h, _, _ => by omega
  | n + 1, h1, h2, hz => by
    rw [sumZ]
    by_cases e : i = n
    · subst e
      rw [sumZ_one (i := j) i (by omega) (fun k hk hk' => hz k (by omega) (by omega) hk')]; omega
    · by_cases e' : j = n
      · subst e'
        rw [sumZ_one (i := i) j (by omega) (fun k hk hk' => hz k (by omega) hk' (by omega))]
      · rw [sumZ_two hij n (by omega) (by omega) (fun k hk a b => hz k (by omega) a b), hz n (by omega) (by omega) (by omega)]; omega
theorem sumZ_sub (f g : Nat → Int) : ∀ n, sumZ (fun k => f k - g k) n = sumZ f n - sumZ g n
  | 0 => rfl
  | n + 1 => by rw [sumZ, sumZ, sumZ, sumZ_sub f g n]; omega
theorem sumZ_tele (g : Nat → Int) {n : Nat} (hn : 0 < n) : sumZ (fun k => g (nxt n k) - g k) n = 0 := by
  have h : ∀ m, m + 1 ≤ n → sumZ (fun k => g (nxt n k) - g k) m = g m - g 0 := by
    intro m
    induction m with
    | zero => intro _; simp [sumZ]
    | succ m ih =>
      intro hm
      rw [sumZ, ih (by omega), show nxt n m = m + 1 by unfold nxt; rw [if_neg (by omega)]]; omega
  obtain ⟨m, rfl⟩ : ∃ m, n = m + 1 := ⟨n - 1, by omega⟩
  rw [sumZ, h m (by omega), show nxt (m + 1) m = 0 by unfold nxt; rw [if_pos rfl]]; omega

/-! ### Crossings with their signs -/
def sE (qx qy ax ay bx by' : Int) : Int := if crossP qx qy ax ay bx by' then (if by' < ay then -1 else 1) else 0
def gE (ax ay bx by' px py : Int) : Int := if ay ≤ by' then (if gIn ax ay bx by' px py then 1 else 0) else - (if gIn bx by' ax ay px py then 1 else 0)
def upE (ax ay bx by' : Int) : Int := if ay < by' ∨ (ay = by' ∧ bx < ax) then 1 else 0
theorem sE_flip (qx qy ax ay bx by' : Int) : sE qx qy ax ay bx by' = - sE qx qy bx by' ax ay := by
  unfold sE
  rw [crossP_swap qx qy bx by' ax ay]
  by_cases h : ay = by'
  · have : crossP qx qy ax ay bx by' = false := by unfold crossP; rw [if_neg (by omega)]; exact decide_eq_false (by omega)
    rw [this]; rfl
  · cases crossP qx qy ax ay bx by'
    · rfl
    · simp only [if_true]
      by_cases h' : by' < ay
      · rw [if_pos h', if_neg (by omega)]
      · rw [if_neg h', if_pos (by omega)]; rfl
theorem signed_up {ax ay bx by' px py qx qy : Int} (hy : ay ≤ by') (hpq : py ≤ qy) (hn : meetB ax ay bx by' px py qx qy = false) :
    sE ax ay px py qx qy - sE bx by' px py qx qy = gE ax ay bx by' qx qy - gE ax ay bx by' px py := by
  unfold sE gE crossP gIn
  simp only [if_neg (show ¬ qy < py by omega), if_pos hy, decide_eq_true_eq]
  by_cases h1 : py ≤ ay
  · by_cases h2 : ay < qy
    · by_cases h3 : qy ≤ by'
      · have := par01 hn h1 h2 h3
        (repeat' split) <;> omega
      · have := par02 hn hy h1 (by omega)
        (repeat' split) <;> omega
    · (repeat' split) <;> omega
  · by_cases h2 : py ≤ by'
    · by_cases h3 : by' < qy
      · have := par12 hn (by omega) h2 h3
        (repeat' split) <;> omega
      · have := par11 hn (by omega) hpq (by omega)
        (repeat' split) <;> omega
    · (repeat' split) <;> omega
theorem signed_edge1 {ax ay bx by' px py qx qy : Int} (hy : ay ≤ by') (hn : meetB ax ay bx by' px py qx qy = false) :
    sE ax ay px py qx qy - sE bx by' px py qx qy = gE ax ay bx by' qx qy - gE ax ay bx by' px py := by
  rcases Int.le_total py qy with h | h
  · exact signed_up hy h hn
  · have := signed_up hy h (by rw [meet_swap2]; exact hn)
    rw [sE_flip ax ay px py, sE_flip bx by' px py]; omega
theorem gE_swap {ax ay bx by' px py : Int} (h : ay ≠ by') : gE ax ay bx by' px py = - gE bx by' ax ay px py := by
  unfold gE
  by_cases h' : ay ≤ by'
  · simp only [if_pos h', if_neg (show ¬ by' ≤ ay by omega)]; omega
  · simp only [if_neg h', if_pos (show by' ≤ ay by omega)]
theorem gE_flat {ax ay bx px py : Int} : gE ax ay bx ay px py = 0 := by
  unfold gE gIn
  rw [if_pos (by omega), decide_eq_false (by omega)]; rfl
theorem signed_edge {ax ay bx by' px py qx qy : Int} (hn : meetB ax ay bx by' px py qx qy = false) :
    sE ax ay px py qx qy - sE bx by' px py qx qy = gE ax ay bx by' qx qy - gE ax ay bx by' px py := by
  rcases Int.le_total ay by' with h | h
  · exact signed_edge1 h hn
  · have := signed_edge1 h (by rw [meet_swap1]; exact hn)
    by_cases e : ay = by'
    · subst e
      rw [gE_flat, gE_flat] at this ⊢; omega
    · rw [gE_swap (ax := ax) e, gE_swap (ax := ax) e]; omega
theorem gE_col {ax ay bx by' px py : Int} (h : crossI ax ay bx by' px py = 0) : gE ax ay bx by' px py = 0 := by
  have h' : crossI bx by' ax ay px py = 0 := by unfold crossI at h ⊢; grind
  unfold gE gIn
  rw [h, h', decide_eq_false (by omega), decide_eq_false (by omega)]
  split <;> rfl
theorem sE_col {qx qy ax ay bx by' : Int} (h : crossI ax ay bx by' qx qy = 0) : sE qx qy ax ay bx by' = 0 := by
  have h' : crossI bx by' ax ay qx qy = 0 := by unfold crossI at h ⊢; grind
  unfold sE crossP
  rw [h, h', decide_eq_false (p := by' ≤ qy ∧ qy < ay ∧ (0 : Int) < 0) (by omega), decide_eq_false (p := ay ≤ qy ∧ qy < by' ∧ (0 : Int) < 0) (by omega)]
  split <;> rfl

/-! ### Corners -/
def tau (ax ay bx by' cx cy : Int) : Int := - gE ax ay bx by' cx cy + sE ax ay bx by' cx cy
theorem cross_cyc (ax ay bx by' cx cy : Int) : crossI bx by' cx cy ax ay = crossI ax ay bx by' cx cy ∧ crossI cx cy ax ay bx by' = crossI ax ay bx by' cx cy ∧ crossI bx by' ax ay cx cy = - crossI ax ay bx by' cx cy ∧ crossI ax ay cx cy bx by' = - crossI ax ay bx by' cx cy ∧ crossI cx cy bx by' ax ay = - crossI ax ay bx by' cx cy := by
  unfold crossI
  refine ⟨?_, ?_, ?_, ?_, ?_⟩ <;> grind
theorem sE_eq (qx qy ax ay bx by' : Int) : sE qx qy ax ay bx by' = if by' < ay then (if by' ≤ qy ∧ qy < ay ∧ 0 < crossI bx by' ax ay qx qy then -1 else 0) else (if ay ≤ qy ∧ qy < by' ∧ 0 < crossI ax ay bx by' qx qy then 1 else 0) := by
  unfold sE crossP
  by_cases h : by' < ay
  · simp only [if_pos h, decide_eq_true_eq]
  · simp only [if_neg h, decide_eq_true_eq]
theorem sign_mul {u v k : Int} (h : k = u * v) : (0 < u → 0 < v → 0 < k) ∧ (0 < u → v < 0 → k < 0) ∧ (u < 0 → 0 < v → k < 0) ∧ (u < 0 → v < 0 → 0 < k) ∧ (u = 0 → k = 0) ∧ (v = 0 → k = 0) := by
  subst h
  exact ⟨Int.mul_pos, Int.mul_neg_of_pos_of_neg, Int.mul_neg_of_neg_of_pos, fun h1 h2 => by have := Int.mul_pos (show 0 < -u by omega) (show 0 < -v by omega); rw [Int.neg_mul_neg] at this; exact this, fun h => by rw [h, Int.zero_mul], fun h => by rw [h, Int.mul_zero]⟩
theorem corner {ax ay bx by' cx cy : Int} (h : crossI ax ay bx by' cx cy ≠ 0) : upE bx by' cx cy - tau cx cy bx by' ax ay = upE ax ay bx by' + tau ax ay bx by' cx cy := by
  obtain ⟨e1, e2, e3, e4, e5⟩ := cross_cyc ax ay bx by' cx cy
  unfold tau gE gIn upE
  simp only [sE_eq, decide_eq_true_eq, e1, e2, e3, e4, e5]
  have f1 : ay = by' → crossI ax ay bx by' cx cy = (bx - ax) * (cy - ay) := fun h => by unfold crossI; grind
  have f2 : by' = cy → crossI ax ay bx by' cx cy = (by' - ay) * (bx - cx) := fun h => by unfold crossI; grind
  have f3 : ay = cy → crossI ax ay bx by' cx cy = (by' - ay) * (ax - cx) := fun h => by unfold crossI; grind
  clear e1 e2 e3 e4 e5
  generalize crossI ax ay bx by' cx cy = k at *
  rcases Int.lt_trichotomy ay by' with h1 | h1 | h1
  · rcases Int.lt_trichotomy by' cy with h2 | h2 | h2
    · clear f1 f2 f3
      grind
    · have := sign_mul (f2 h2)
      clear f1 f2 f3
      grind
    · rcases Int.lt_trichotomy ay cy with h3 | h3 | h3
      · clear f1 f2 f3
        grind
      · have := sign_mul (f3 h3)
        clear f1 f2 f3
        grind
      · clear f1 f2 f3
        grind
  · have := sign_mul (f1 h1)
    clear f1 f2 f3
    grind
  · rcases Int.lt_trichotomy by' cy with h2 | h2 | h2
    · rcases Int.lt_trichotomy ay cy with h3 | h3 | h3
      · clear f1 f2 f3
        grind
      · have := sign_mul (f3 h3)
        clear f1 f2 f3
        grind
      · clear f1 f2 f3
        grind
    · have := sign_mul (f2 h2)
      clear f1 f2 f3
      grind
    · clear f1 f2 f3
      grind
end Go.Proofs.YtcjaembdcfppfaaGreat
/- Plane geometry, no program: along the border of a simple polygon the winding number beside it is one number. -/
namespace Go.Proofs.YtcjaembdcfppfaaGreat
open Go.RowKit

theorem mul_sign {k u s v : Int} (hk : 0 < k) (hs : 0 < s) (h : k * u = s * v) : (0 < u ↔ 0 < v) ∧ (u < 0 ↔ v < 0) := by
  have p1 : 0 < u → 0 < k * u := Int.mul_pos hk
  have p2 : 0 < v → 0 < s * v := Int.mul_pos hs
  have n1 : u < 0 → k * u < 0 := Int.mul_neg_of_pos_of_neg hk
  have n2 : v < 0 → s * v < 0 := Int.mul_neg_of_pos_of_neg hs
  have z1 : u = 0 → k * u = 0 := fun e => by rw [e, Int.mul_zero]
  have z2 : v = 0 → s * v = 0 := fun e => by rw [e, Int.mul_zero]
  omega
theorem side_no_meet {ax ay bx by' cx cy dx dy : Int} (h : (0 < crossI cx cy dx dy ax ay ∧ 0 < crossI cx cy dx dy bx by') ∨ (crossI cx cy dx dy ax ay < 0 ∧ crossI cx cy dx dy bx by' < 0)) : meetB ax ay bx by' cx cy dx dy = false := by
  cases hm : meetB ax ay bx by' cx cy dx dy with
  | false => rfl
  | true =>
    obtain ⟨k, x, y, hk, ⟨s, s0, s1, e1, e2⟩, t, t0, t1, f1, f2⟩ := common_of_meet hm
    have E : (k - s) * crossI cx cy dx dy ax ay + s * crossI cx cy dx dy bx by' = 0 := by unfold crossI; grind
    generalize crossI cx cy dx dy ax ay = g at *
    generalize crossI cx cy dx dy bx by' = d at *
    rcases h with ⟨h1, h2⟩ | ⟨h1, h2⟩
    · have q1 := Int.mul_nonneg (show 0 ≤ k - s by omega) (show 0 ≤ g by omega)
      have q2 := Int.mul_nonneg s0 (show 0 ≤ d by omega)
      have z1 : (k - s) * g = 0 := by omega
      have z2 : s * d = 0 := by omega
      have := Int.mul_eq_zero.mp z1
      have := Int.mul_eq_zero.mp z2
      omega
    · have q1 := Int.mul_nonneg (show 0 ≤ k - s by omega) (show 0 ≤ -g by omega)
      have q2 := Int.mul_nonneg s0 (show 0 ≤ -d by omega)
      rw [Int.mul_neg] at q1 q2
      have z1 : (k - s) * g = 0 := by omega
      have z2 : s * d = 0 := by omega
      have := Int.mul_eq_zero.mp z1
      have := Int.mul_eq_zero.mp z2
      omega
def On' (k s ax ay bx by' x y : Int) : Prop := k * x = k * ax + s * (bx - ax) ∧ k * y = k * ay + s * (by' - ay)
theorem on_rev {k s ax ay bx by' x y : Int} (h : On' k s ax ay bx by' x y) : On' k (k - s) bx by' ax ay x y := by
  obtain ⟨h1, h2⟩ := h
  exact ⟨by grind, by grind⟩
theorem tau_indep {k s ax ay bx by' cx cy x y : Int} (hk : 0 < k) (hs : 0 ≤ s) (hsk : s < k) (ho : On' k s ax ay bx by' x y) (hc : crossI ax ay bx by' cx cy ≠ 0) : tau x y bx by' cx cy = tau ax ay bx by' cx cy := by
  obtain ⟨ex, ey⟩ := ho
  obtain ⟨c1, c2, c3, c4, c5⟩ := cross_cyc ax ay bx by' cx cy
  obtain ⟨d1, d2, d3, d4, d5⟩ := cross_cyc x y bx by' cx cy
  obtain ⟨b1, b2, b3, b4, b5⟩ := cross_cyc ax ay x y cx cy
  have k1 : k * crossI x y bx by' cx cy = (k - s) * crossI ax ay bx by' cx cy := by unfold crossI; grind
  have k2 : k * crossI ax ay x y cx cy = s * crossI ax ay bx by' cx cy := by unfold crossI; grind
  have k3 : crossI ax ay x y bx by' = 0 := by
    have : k * crossI ax ay x y bx by' = 0 := by unfold crossI; grind
    rcases Int.mul_eq_zero.mp this with h | h
    · omega
    · exact h
  have s1 := mul_sign hk (show 0 < k - s by omega) k1
  have hn : meetB ax ay x y bx by' cx cy = false := side_no_meet (by rw [c1, d1]; omega)
  have h1 := signed_edge hn
  rw [gE_col k3] at h1
  have h2 : gE ax ay bx by' cx cy = gE ax ay x y cx cy + gE x y bx by' cx cy := by
    by_cases hs0 : s = 0
    · subst hs0
      have : x = ax ∧ y = ay := by
        constructor
        · exact Int.eq_of_mul_eq_mul_left (show k ≠ 0 by omega) (by grind)
        · exact Int.eq_of_mul_eq_mul_left (show k ≠ 0 by omega) (by grind)
      obtain ⟨rfl, rfl⟩ := this
      rw [gE_flat]; omega
    · have s2 := mul_sign hk (show 0 < s by omega) k2
      have y1 := mul_sign (k := k) (u := y - ay) (s := s) (v := by' - ay) hk (by omega) (by grind)
      have y2 := mul_sign (k := k) (u := by' - y) (s := k - s) (v := by' - ay) hk (by omega) (by grind)
      unfold gE gIn
      simp only [decide_eq_true_eq, c3, d3, b3]
      generalize crossI ax ay bx by' cx cy = u at *
      generalize crossI x y bx by' cx cy = v at *
      generalize crossI ax ay x y cx cy = w at *
      clear ex ey k1 k2 k3 hn h1 c1 c2 c3 c4 c5 d1 d2 d3 d4 d5 b1 b2 b3 b4 b5
      (repeat' split) <;> omega
  unfold tau
  omega

/-! ### Polygons -/
section
variable (X Y : Nat → Int) (n : Nat)
def wind (qx qy : Int) : Int := sumZ (fun k => sE qx qy (X k) (Y k) (X (nxt n k)) (Y (nxt n k))) n
structure Simple : Prop where
  three : 3 ≤ n
  apart : ∀ i k, i < n → k < n → k ≠ i → k ≠ nxt n i → i ≠ nxt n k → meetB (X i) (Y i) (X (nxt n i)) (Y (nxt n i)) (X k) (Y k) (X (nxt n k)) (Y (nxt n k)) = false
  bend : ∀ i, i < n → crossI (X i) (Y i) (X (nxt n i)) (Y (nxt n i)) (X (nxt n (nxt n i))) (Y (nxt n (nxt n i))) ≠ 0
end
section
variable {X Y : Nat → Int} {n : Nat}
theorem nxt_ne {i : Nat} (hn : 3 ≤ n) (hi : i < n) : nxt n i ≠ i ∧ nxt n (nxt n i) ≠ i := by unfold nxt; split <;> split <;> omega
theorem nxt_inj {i k : Nat} (hi : i < n) (hk : k < n) (h : nxt n i = nxt n k) : i = k := by unfold nxt at h; split at h <;> split at h <;> omega
theorem wind_diff {x y vx vy : Int} (hn : 0 < n) : wind X Y n x y - wind X Y n vx vy =
    sumZ (fun k => (sE x y (X k) (Y k) (X (nxt n k)) (Y (nxt n k)) - sE vx vy (X k) (Y k) (X (nxt n k)) (Y (nxt n k))) - (gE x y vx vy (X (nxt n k)) (Y (nxt n k)) - gE x y vx vy (X k) (Y k))) n := by
  rw [sumZ_sub, sumZ_sub, sumZ_tele (fun k => gE x y vx vy (X k) (Y k)) hn]
  unfold wind; omega
theorem cross_same {a b c d : Int} : crossI a b c d a b = 0 ∧ crossI a b c d c d = 0 ∧ crossI a b a b c d = 0 := by unfold crossI; refine ⟨?_, ?_, ?_⟩ <;> grind
theorem on_cross {k s ax ay bx by' x y : Int} (hk : 0 < k) (ho : On' k s ax ay bx by' x y) : crossI ax ay bx by' x y = 0 ∧ crossI x y bx by' ax ay = 0 ∧ crossI x y ax ay bx by' = 0 := by
  obtain ⟨ex, ey⟩ := ho
  have z : ∀ u : Int, k * u = 0 → u = 0 := fun u h => by
    rcases Int.mul_eq_zero.mp h with h | h
    · omega
    · exact h
  refine ⟨z _ ?_, z _ ?_, z _ ?_⟩ <;> (unfold crossI; grind)
theorem on_seg {k s ax ay bx by' x y : Int} (hs : 0 ≤ s) (hsk : s ≤ k) (ho : On' k s ax ay bx by' x y) : Seg ax ay bx by' k (k * x) (k * y) := ⟨s, hs, hsk, ho.1, ho.2⟩
theorem meet_part {ax ay bx by' x y px py qx qy k s : Int} (hk : 0 < k) (hs : 0 ≤ s) (hsk : s ≤ k) (ho : On' k s ax ay bx by' x y) (hm : meetB ax ay bx by' px py qx qy = false) : meetB x y bx by' px py qx qy = false := by
  cases h : meetB x y bx by' px py qx qy with
  | false => rfl
  | true =>
    obtain ⟨m, u, v, hm0, ⟨t, t0, t1, e1, e2⟩, h2⟩ := common_of_meet h
    obtain ⟨o1, o2⟩ := ho
    have : meetB ax ay bx by' px py qx qy = true := by
      refine meet_of_common ⟨m * k, u * k, v * k, Int.mul_pos hm0 hk, ⟨(m - t) * s + t * k, ?_, ?_, ?_, ?_⟩, seg_scale h2 (by omega)⟩
      · exact Int.add_nonneg (Int.mul_nonneg (by omega) hs) (Int.mul_nonneg t0 (by omega))
      · have := Int.mul_le_mul_of_nonneg_left hsk (show 0 ≤ m - t by omega)
        grind
      · grind
      · grind
    rw [this] at hm
    exact absurd hm (by decide)
theorem wind_end (hp : Simple X Y n) {j : Nat} (hj : j < n) {k s x y : Int} (hs : 0 < s) (hsk : s < k) (ho : On' k s (X j) (Y j) (X (nxt n j)) (Y (nxt n j)) x y) :
    wind X Y n x y = wind X Y n (X (nxt n j)) (Y (nxt n j)) + tau x y (X (nxt n j)) (Y (nxt n j)) (X (nxt n (nxt n j))) (Y (nxt n (nxt n j))) := by
  have hn := hp.three
  have hj' := nxt_lt hj
  obtain ⟨z1, z2, z3⟩ := on_cross (by omega) ho
  have hd := wind_diff (X := X) (Y := Y) (n := n) (x := x) (y := y) (vx := X (nxt n j)) (vy := Y (nxt n j)) (by omega)
  rw [sumZ_two (i := j) (j := nxt n j) (by have := nxt_ne hn hj; omega) n hj hj'] at hd
  · rw [sE_col z1, sE_col cross_same.2.1, gE_col cross_same.2.1, gE_col z2, sE_col cross_same.1] at hd
    unfold tau
    omega
  · intro i hi n1 n2
    have hm : meetB x y (X (nxt n j)) (Y (nxt n j)) (X i) (Y i) (X (nxt n i)) (Y (nxt n i)) = false := by
      by_cases hpr : nxt n i = j
      · have hb := hp.bend i hi
        rw [hpr] at hb ⊢
        refine side_no_meet ?_
        have e : k * crossI (X i) (Y i) (X j) (Y j) x y = s * crossI (X i) (Y i) (X j) (Y j) (X (nxt n j)) (Y (nxt n j)) := by
          obtain ⟨o1, o2⟩ := ho
          unfold crossI; grind
        have := mul_sign (by omega) hs e
        omega
      · exact meet_part (by omega) (by omega) (by omega) ho (hp.apart j i hj hi n1 n2 (fun h => hpr h.symm))
    have := signed_edge hm
    omega
theorem wind_start (hp : Simple X Y n) {j p : Nat} (hj : j < n) (hpn : p < n) (hpj : nxt n p = j) {k s x y : Int} (hs : 0 < s) (hsk : s < k) (ho : On' k s (X j) (Y j) (X (nxt n j)) (Y (nxt n j)) x y) :
    wind X Y n x y = wind X Y n (X j) (Y j) - tau x y (X j) (Y j) (X p) (Y p) := by
  have hn := hp.three
  have hj' := nxt_lt hj
  obtain ⟨z1, z2, z3⟩ := on_cross (by omega) ho
  have hne := nxt_ne hn hpn
  rw [hpj] at hne
  have hd := wind_diff (X := X) (Y := Y) (n := n) (x := x) (y := y) (vx := X j) (vy := Y j) (by omega)
  rw [sumZ_two (i := j) (j := p) hne.1 n hj hpn] at hd
  · have z4 : crossI x y (X j) (Y j) (X j) (Y j) = 0 := cross_same.2.1
    rw [sE_col z1, sE_col cross_same.1, gE_col z4, gE_col z3, hpj, gE_col z4, sE_col (qx := X j) (qy := Y j) cross_same.2.1] at hd
    unfold tau
    rw [sE_flip x y (X j) (Y j) (X p) (Y p)]
    omega
  · intro i hi n1 n2
    have hm : meetB x y (X j) (Y j) (X i) (Y i) (X (nxt n i)) (Y (nxt n i)) = false := by
      by_cases hnx : i = nxt n j
      · have hb := hp.bend j hj
        subst hnx
        refine side_no_meet ?_
        have e : k * crossI (X (nxt n j)) (Y (nxt n j)) (X (nxt n (nxt n j))) (Y (nxt n (nxt n j))) x y = (k - s) * crossI (X (nxt n j)) (Y (nxt n j)) (X (nxt n (nxt n j))) (Y (nxt n (nxt n j))) (X j) (Y j) := by
          obtain ⟨o1, o2⟩ := ho
          unfold crossI; grind
        have := mul_sign (by omega) (show 0 < k - s by omega) e
        have hc := cross_cyc (X j) (Y j) (X (nxt n j)) (Y (nxt n j)) (X (nxt n (nxt n j))) (Y (nxt n (nxt n j)))
        omega
      · have h1 : ¬ (j = nxt n i) := fun h => n2 (nxt_inj hi hpn (by rw [hpj]; exact h.symm))
        exact meet_part (by omega) (by omega) (by omega) (on_rev ho) (by rw [meet_swap1]; exact hp.apart j i hj hi n1 hnx h1)
    have := signed_edge hm
    omega
def side (X Y : Nat → Int) (n i : Nat) : Int := wind X Y n (X (nxt n i)) (Y (nxt n i)) + upE (X i) (Y i) (X (nxt n i)) (Y (nxt n i)) + tau (X i) (Y i) (X (nxt n i)) (Y (nxt n i)) (X (nxt n (nxt n i))) (Y (nxt n (nxt n i)))
theorem wind_edge (hp : Simple X Y n) {j : Nat} (hj : j < n) {k s x y : Int} (hs : 0 < s) (hsk : s < k) (ho : On' k s (X j) (Y j) (X (nxt n j)) (Y (nxt n j)) x y) : wind X Y n x y + upE (X j) (Y j) (X (nxt n j)) (Y (nxt n j)) = side X Y n j := by
  have h1 := wind_end hp hj hs hsk ho
  have h2 := tau_indep (by omega) (by omega) hsk ho (hp.bend j hj)
  unfold side
  omega
theorem side_next (hp : Simple X Y n) (he : ∀ k, k < n → 2 ∣ X k ∧ 2 ∣ Y k) {i : Nat} (hi : i < n) : side X Y n i = side X Y n (nxt n i) := by
  have hj := nxt_lt hi
  have hl := nxt_lt hj
  obtain ⟨a, ha⟩ := (he _ hj).1
  obtain ⟨b, hb⟩ := (he _ hj).2
  obtain ⟨c, hc⟩ := (he _ hl).1
  obtain ⟨d, hd⟩ := (he _ hl).2
  have ho : On' 2 1 (X (nxt n i)) (Y (nxt n i)) (X (nxt n (nxt n i))) (Y (nxt n (nxt n i))) (a + c) (b + d) := ⟨by omega, by omega⟩
  have h1 := wind_edge hp hj (by omega) (by omega) ho
  have h2 := wind_start hp hj hi rfl (by omega) (by omega) ho
  have hbend := hp.bend i hi
  have hc' := cross_cyc (X i) (Y i) (X (nxt n i)) (Y (nxt n i)) (X (nxt n (nxt n i))) (Y (nxt n (nxt n i)))
  have h3 := tau_indep (cx := X i) (cy := Y i) (by omega) (by omega) (by omega) (on_rev ho) (by omega)
  have h4 := corner hbend
  unfold side at h1 ⊢
  omega
theorem side_const (hp : Simple X Y n) (he : ∀ k, k < n → 2 ∣ X k ∧ 2 ∣ Y k) : ∀ i, i < n → side X Y n i = side X Y n 0
  | 0, _ => rfl
  | i + 1, h => by
    have := side_next hp he (show i < n by omega)
    rw [show nxt n i = i + 1 by unfold nxt; rw [if_neg (by omega)]] at this
    rw [← this, side_const hp he i (by omega)]
end
end Go.Proofs.YtcjaembdcfppfaaGreat
/- Plane geometry, no program: the winding number of a simple polygon is -1, 0 or 1. -/
namespace Go.Proofs.YtcjaembdcfppfaaGreat
open Go.RowKit

theorem exists_min (P : Nat → Prop) (f : Nat → Int) : ∀ n, (∃ k, k < n ∧ P k) → ∃ k, k < n ∧ P k ∧ ∀ i, i < n → P i → f k ≤ f i
  | 0, h => by obtain ⟨k, hk, _⟩ := h; omega
  | n + 1, h => by
    by_cases h' : ∃ k, k < n ∧ P k
    · obtain ⟨k, hk, hp, hm⟩ := exists_min P f n h'
      by_cases hn : P n ∧ f n < f k
      · refine ⟨n, by omega, hn.1, fun i hi hpi => ?_⟩
        by_cases e : i = n
        · subst e; exact Int.le_refl _
        · have := hm i (by omega) hpi; omega
      · refine ⟨k, by omega, hp, fun i hi hpi => ?_⟩
        by_cases e : i = n
        · subst e
          rcases Int.lt_or_le (f i) (f k) with q | q
          · exact absurd ⟨hpi, q⟩ hn
          · exact q
        · exact hm i (by omega) hpi
    · obtain ⟨k, hk, hp⟩ := h
      have e : k = n := by
        by_cases e : k = n
        · exact e
        · exact absurd ⟨k, by omega, hp⟩ h'
      subst e
      refine ⟨k, by omega, hp, fun i hi hpi => ?_⟩
      by_cases e : i = k
      · subst e; exact Int.le_refl _
      · exact absurd ⟨i, by omega, hpi⟩ h'
section
variable {X Y : Nat → Int} {n : Nat}
def Cr (Y : Nat → Int) (n : Nat) (h : Int) (k : Nat) : Prop := (Y k < h ∧ h < Y (nxt n k)) ∨ (Y (nxt n k) < h ∧ h < Y k)
theorem cr_on {h x : Int} {k : Nat} (hc : Cr Y n h k) (hx : crossI (X k) (Y k) (X (nxt n k)) (Y (nxt n k)) x h = 0) : ∃ m s, 0 < s ∧ s < m ∧ On' m s (X k) (Y k) (X (nxt n k)) (Y (nxt n k)) x h := by
  unfold crossI at hx
  rcases hc with hc | hc
  · exact ⟨Y (nxt n k) - Y k, h - Y k, by omega, by omega, by grind, by grind⟩
  · exact ⟨Y k - Y (nxt n k), Y k - h, by omega, by omega, by grind, by grind⟩
theorem sE_level {h x q : Int} {k : Nat} (hc : Cr Y n h k) (hx : crossI (X k) (Y k) (X (nxt n k)) (Y (nxt n k)) x h = 0) :
    sE q h (X k) (Y k) (X (nxt n k)) (Y (nxt n k)) = if q < x then (if Y (nxt n k) < Y k then -1 else 1) else 0 := by
  rw [sE_eq]
  rcases hc with hc | hc
  · have e : crossI (X k) (Y k) (X (nxt n k)) (Y (nxt n k)) q h = (Y (nxt n k) - Y k) * (x - q) := by unfold crossI at hx ⊢; grind
    have hs := sign_mul e
    rw [if_neg (show ¬ Y (nxt n k) < Y k by omega), if_neg (show ¬ Y (nxt n k) < Y k by omega)]
    generalize crossI (X k) (Y k) (X (nxt n k)) (Y (nxt n k)) q h = u at *
    (repeat' split) <;> omega
  · have e : crossI (X (nxt n k)) (Y (nxt n k)) (X k) (Y k) q h = (Y k - Y (nxt n k)) * (x - q) := by unfold crossI at hx ⊢; grind
    have hs := sign_mul e
    rw [if_pos (show Y (nxt n k) < Y k by omega), if_pos (show Y (nxt n k) < Y k by omega)]
    generalize crossI (X (nxt n k)) (Y (nxt n k)) (X k) (Y k) q h = u at *
    (repeat' split) <;> omega
theorem sE_no {h q : Int} {k : Nat} (hg : Y k ≠ h ∧ Y (nxt n k) ≠ h) (hc : ¬ Cr Y n h k) : sE q h (X k) (Y k) (X (nxt n k)) (Y (nxt n k)) = 0 := by
  rw [sE_eq]
  unfold Cr at hc
  (repeat' split) <;> omega
theorem cr_ne (hp : Simple X Y n) {h x : Int} {j k : Nat} (hj : j < n) (hk : k < n) (hjk : k ≠ j) (cj : Cr Y n h j) (ck : Cr Y n h k)
    (xj : crossI (X j) (Y j) (X (nxt n j)) (Y (nxt n j)) x h = 0) (xk : crossI (X k) (Y k) (X (nxt n k)) (Y (nxt n k)) x h = 0) : False := by
  have adj : ∀ {a b : Nat}, a < n → nxt n a = b → Cr Y n h a → crossI (X a) (Y a) (X (nxt n a)) (Y (nxt n a)) x h = 0 → crossI (X b) (Y b) (X (nxt n b)) (Y (nxt n b)) x h = 0 → False := by
    intro a b ha hab ca xa xb
    obtain ⟨m, s, s0, s1, o1, o2⟩ := cr_on ca xa
    have hb := hp.bend a ha
    subst hab
    have e : m * crossI (X (nxt n a)) (Y (nxt n a)) (X (nxt n (nxt n a))) (Y (nxt n (nxt n a))) x h = (m - s) * crossI (X (nxt n a)) (Y (nxt n a)) (X (nxt n (nxt n a))) (Y (nxt n (nxt n a))) (X a) (Y a) := by unfold crossI; grind
    have hc := cross_cyc (X a) (Y a) (X (nxt n a)) (Y (nxt n a)) (X (nxt n (nxt n a))) (Y (nxt n (nxt n a)))
    have hs := mul_sign (by omega) (show 0 < m - s by omega) e
    omega
  by_cases h1 : k = nxt n j
  · exact adj hj h1.symm cj xj xk
  by_cases h2 : j = nxt n k
  · exact adj hk h2.symm ck xk xj
  have hm := hp.apart j k hj hk hjk h1 h2
  obtain ⟨m, s, s0, s1, o⟩ := cr_on cj xj
  obtain ⟨m', s', s0', s1', o'⟩ := cr_on ck xk
  have g1 := seg_scale (m := m') (on_seg (by omega) (by omega) o) (by omega)
  have g2 := seg_scale (m := m) (on_seg (by omega) (by omega) o') (by omega)
  have : meetB (X j) (Y j) (X (nxt n j)) (Y (nxt n j)) (X k) (Y k) (X (nxt n k)) (Y (nxt n k)) = true := by
    refine meet_of_common ⟨m * m', m * x * m', m * h * m', Int.mul_pos (by omega) (by omega), g1, ?_⟩
    rw [show m' * m = m * m' by grind, show m' * x * m = m * x * m' by grind, show m' * h * m = m * h * m' by grind] at g2
    exact g2
  rw [this] at hm
  exact absurd hm (by decide)
theorem wind_core (hp : Simple X Y n) (he : ∀ k, k < n → 2 ∣ X k ∧ 2 ∣ Y k) {q h : Int} (hg : ∀ k, k < n → Y k ≠ h) (xs : Nat → Int) (hx : ∀ k, k < n → Cr Y n h k → crossI (X k) (Y k) (X (nxt n k)) (Y (nxt n k)) (xs k) h = 0) :
    -1 ≤ wind X Y n q h ∧ wind X Y n q h ≤ 1 := by
  have hS : ∀ {p : Int} {k : Nat}, k < n → Cr Y n h k → sE p h (X k) (Y k) (X (nxt n k)) (Y (nxt n k)) = if p < xs k then (if Y (nxt n k) < Y k then -1 else 1) else 0 := fun hk hc => sE_level hc (hx _ hk hc)
  have hN : ∀ {p : Int} {k : Nat}, k < n → ¬ Cr Y n h k → sE p h (X k) (Y k) (X (nxt n k)) (Y (nxt n k)) = 0 := fun hk hc => sE_no ⟨hg _ hk, hg _ (nxt_lt hk)⟩ hc
  by_cases hex : ∃ k, k < n ∧ (Cr Y n h k ∧ q < xs k)
  · obtain ⟨i, hi, ⟨ci, qi⟩, mi⟩ := exists_min (fun k => Cr Y n h k ∧ q < xs k) xs n hex
    obtain ⟨m, hm, ⟨cm, qm⟩, mm⟩ := exists_min (fun k => Cr Y n h k ∧ q < xs k) (fun k => - xs k) n hex
    have e1 : wind X Y n q h - wind X Y n (xs i) h = if Y (nxt n i) < Y i then -1 else 1 := by
      unfold wind
      rw [← sumZ_sub, sumZ_one (i := i) n hi]
      · rw [hS hi ci, hS hi ci, if_pos qi, if_neg (show ¬ xs i < xs i by omega)]; omega
      · intro k hk hki
        by_cases ck : Cr Y n h k
        · rw [hS hk ck, hS hk ck]
          have hne : xs k ≠ xs i := fun e => cr_ne hp hi hk hki ci ck (hx i hi ci) (by rw [← e]; exact hx k hk ck)
          by_cases c1 : q < xs k
          · have := mi k hk ⟨ck, c1⟩
            rw [if_pos c1, if_pos (show xs i < xs k by omega)]; omega
          · rw [if_neg c1, if_neg (show ¬ xs i < xs k by omega)]; rfl
        · rw [hN hk ck, hN hk ck]; rfl
    have e2 : wind X Y n (xs m) h = 0 := by
      refine sumZ_zero n (fun k hk => ?_)
      by_cases ck : Cr Y n h k
      · rw [hS hk ck]
        by_cases c1 : q < xs k
        · have := mm k hk ⟨ck, c1⟩
          rw [if_neg (by omega)]
        · rw [if_neg (by omega)]
      · exact hN hk ck
    obtain ⟨a, s, s0, s1, o⟩ := cr_on ci (hx i hi ci)
    obtain ⟨a', s', s0', s1', o'⟩ := cr_on cm (hx m hm cm)
    have w1 := wind_edge hp hi s0 s1 o
    have w2 := wind_edge hp hm s0' s1' o'
    rw [side_const hp he i hi] at w1
    rw [side_const hp he m hm] at w2
    have hu : ∀ k, Cr Y n h k → upE (X k) (Y k) (X (nxt n k)) (Y (nxt n k)) = if Y (nxt n k) < Y k then 0 else 1 := fun k hc => by
      unfold Cr at hc
      unfold upE
      rcases hc with hc | hc
      · rw [if_pos (by omega), if_neg (by omega)]
      · rw [if_neg (by omega), if_pos (by omega)]
    rw [hu i ci] at w1
    rw [hu m cm] at w2
    clear hu hS hN hex mi mm
    by_cases di : Y (nxt n i) < Y i
    · rw [if_pos di] at e1 w1
      by_cases dm : Y (nxt n m) < Y m
      · rw [if_pos dm] at w2; omega
      · rw [if_neg dm] at w2; omega
    · rw [if_neg di] at e1 w1
      by_cases dm : Y (nxt n m) < Y m
      · rw [if_pos dm] at w2; omega
      · rw [if_neg dm] at w2; omega
  · have : wind X Y n q h = 0 := by
      refine sumZ_zero n (fun k hk => ?_)
      by_cases ck : Cr Y n h k
      · rw [hS hk ck, if_neg (fun c => hex ⟨k, hk, ck, c⟩)]
      · exact hN hk ck
    omega

/-! ### Any simple polygon -/
def prodN (f : Nat → Int) : Nat → Int | 0 => 1 | n + 1 => prodN f n * f n
theorem prodN_pos {f : Nat → Int} (h : ∀ k, 0 < f k) : ∀ n, 0 < prodN f n
  | 0 => by show (0 : Int) < 1; decide
  | n + 1 => Int.mul_pos (prodN_pos h n) (h n)
theorem prodN_dvd {f : Nat → Int} : ∀ n k, k < n → f k ∣ prodN f n
  | 0, k, h => by omega
  | n + 1, k, h => by
    rw [prodN]
    by_cases e : k = n
    · subst e; exact Int.dvd_mul_left _ _
    · exact Int.dvd_trans (prodN_dvd n k (by omega)) (Int.dvd_mul_right _ _)
theorem common_scale {M : Int} (hM : 0 < M) {ax ay bx by' cx cy dx dy : Int} (h : meetB (M * ax) (M * ay) (M * bx) (M * by') (M * cx) (M * cy) (M * dx) (M * dy) = true) : meetB ax ay bx by' cx cy dx dy = true := by
  obtain ⟨k, x, y, hk, ⟨s, s0, s1, e1, e2⟩, t, t0, t1, f1, f2⟩ := common_of_meet h
  refine meet_of_common ⟨k, _, _, hk, ⟨s, s0, s1, rfl, rfl⟩, t, t0, t1, ?_, ?_⟩
  · exact Int.eq_of_mul_eq_mul_left (show M ≠ 0 by omega) (by grind)
  · exact Int.eq_of_mul_eq_mul_left (show M ≠ 0 by omega) (by grind)
theorem simple_scale {M : Int} (hM : 0 < M) (hp : Simple X Y n) : Simple (fun k => M * X k) (fun k => M * Y k) n where
  three := hp.three
  apart := fun i k hi hk h1 h2 h3 => by
    have := hp.apart i k hi hk h1 h2 h3
    cases h : meetB (M * X i) (M * Y i) (M * X (nxt n i)) (M * Y (nxt n i)) (M * X k) (M * Y k) (M * X (nxt n k)) (M * Y (nxt n k)) with
    | false => rfl
    | true => rw [common_scale hM h] at this; exact absurd this (by decide)
  bend := fun i hi => by
    have := hp.bend i hi
    have e : crossI (M * X i) (M * Y i) (M * X (nxt n i)) (M * Y (nxt n i)) (M * X (nxt n (nxt n i))) (M * Y (nxt n (nxt n i))) = M * M * crossI (X i) (Y i) (X (nxt n i)) (Y (nxt n i)) (X (nxt n (nxt n i))) (Y (nxt n (nxt n i))) := by unfold crossI; grind
    rw [e]
    exact fun h => (Int.mul_eq_zero.mp h).elim (fun h => by have := Int.mul_pos hM hM; omega) this
theorem level {K D a q : Int} (hK : 2 ≤ K) (hD : 0 < D) : (K * D * a ≤ K * D * q + D ↔ a ≤ q) ∧ (K * D * q + D < K * D * a ↔ q < a) := by
  have hM : D < K * D := by
    have := Int.mul_le_mul_of_nonneg_right hK (show 0 ≤ D by omega)
    omega
  have p : 0 < K * D := by omega
  constructor
  · constructor
    · intro h
      rcases Int.lt_or_le q a with c | c
      · have := Int.mul_le_mul_of_nonneg_left (show q + 1 ≤ a by omega) (show 0 ≤ K * D by omega)
        rw [Int.mul_add] at this; omega
      · exact c
    · intro h
      have := Int.mul_le_mul_of_nonneg_left h (show 0 ≤ K * D by omega)
      omega
  · constructor
    · intro h
      rcases Int.lt_or_le q a with c | c
      · exact c
      · have := Int.mul_le_mul_of_nonneg_left c (show 0 ≤ K * D by omega)
        omega
    · intro h
      have := Int.mul_le_mul_of_nonneg_left (show q + 1 ≤ a by omega) (show 0 ≤ K * D by omega)
      rw [Int.mul_add] at this; omega
theorem cross_shift {K D ax ay bx by' qx qy : Int} (hK : 2 ≤ K) (hD : 0 < D) (hb : -K < bx - ax ∧ bx - ax < K) (hc : crossI ax ay bx by' qx qy ≠ 0) :
    0 < crossI (K * D * ax) (K * D * ay) (K * D * bx) (K * D * by') (K * D * qx) (K * D * qy + D) ↔ 0 < crossI ax ay bx by' qx qy := by
  have e : crossI (K * D * ax) (K * D * ay) (K * D * bx) (K * D * by') (K * D * qx) (K * D * qy + D) = (K * D * D) * (K * crossI ax ay bx by' qx qy + (bx - ax)) := by unfold crossI; grind
  have p : 0 < K * D * D := Int.mul_pos (Int.mul_pos (by omega) hD) hD
  have hs := sign_mul e
  generalize crossI ax ay bx by' qx qy = u at *
  generalize crossI (K * D * ax) (K * D * ay) (K * D * bx) (K * D * by') (K * D * qx) (K * D * qy + D) = v at *
  rcases Int.lt_or_lt_of_ne hc with h | h
  · have := Int.mul_le_mul_of_nonneg_left (show u ≤ -1 by omega) (show 0 ≤ K by omega)
    omega
  · have := Int.mul_le_mul_of_nonneg_left (show 1 ≤ u by omega) (show 0 ≤ K by omega)
    omega
theorem sE_shift {K D ax ay bx by' qx qy : Int} (hK : 2 ≤ K) (hD : 0 < D) (hb : -K < bx - ax ∧ bx - ax < K) (hn : onB qx qy ax ay bx by' = false) :
    sE (K * D * qx) (K * D * qy + D) (K * D * ax) (K * D * ay) (K * D * bx) (K * D * by') = sE qx qy ax ay bx by' := by
  have hM : 0 < K * D := Int.mul_pos (by omega) hD
  have l1 := level (a := ay) (q := qy) hK hD
  have l2 := level (a := by') (q := qy) hK hD
  have e1 : K * D * by' < K * D * ay ↔ by' < ay := ⟨fun h => Int.lt_of_mul_lt_mul_left h (by omega), fun h => Int.mul_lt_mul_of_pos_left h hM⟩
  rw [sE_eq, sE_eq]
  by_cases h : by' < ay
  · rw [if_pos h, if_pos (e1.mpr h)]
    by_cases c : by' ≤ qy ∧ qy < ay
    · have hc : crossI bx by' ax ay qx qy ≠ 0 := fun z => by
        have z' : crossI ax ay bx by' qx qy = 0 := by unfold crossI at z ⊢; grind
        rw [on_of_y z' (by omega) (by omega) (by omega)] at hn; exact absurd hn (by decide)
      have := cross_shift hK hD (show -K < ax - bx ∧ ax - bx < K by omega) hc
      by_cases c1 : 0 < crossI bx by' ax ay qx qy
      · rw [if_pos ⟨by omega, by omega, this.mpr c1⟩, if_pos ⟨c.1, c.2, c1⟩]
      · rw [if_neg (fun g => c1 (this.mp g.2.2)), if_neg (fun g => c1 g.2.2)]
    · rw [if_neg (fun g => c ⟨l2.1.mp g.1, l1.2.mp g.2.1⟩), if_neg (fun g => c ⟨g.1, g.2.1⟩)]
  · rw [if_neg h, if_neg (fun g => h (e1.mp g))]
    by_cases c : ay ≤ qy ∧ qy < by'
    · have hc : crossI ax ay bx by' qx qy ≠ 0 := fun z => by
        rw [on_of_y z (by omega) (by omega) (by omega)] at hn; exact absurd hn (by decide)
      have := cross_shift hK hD hb hc
      by_cases c1 : 0 < crossI ax ay bx by' qx qy
      · rw [if_pos ⟨by omega, by omega, this.mpr c1⟩, if_pos ⟨c.1, c.2, c1⟩]
      · rw [if_neg (fun g => c1 (this.mp g.2.2)), if_neg (fun g => c1 g.2.2)]
    · rw [if_neg (fun g => c ⟨l1.1.mp g.1, l2.2.mp g.2.1⟩), if_neg (fun g => c ⟨g.1, g.2.1⟩)]
theorem wind_le (hp : Simple X Y n) {K : Int} (hK : 2 ≤ K) (hb : ∀ i k, i < n → k < n → -K < X i - X k ∧ X i - X k < K) {qx qy : Int} (hq : ∀ k, k < n → onB qx qy (X k) (Y k) (X (nxt n k)) (Y (nxt n k)) = false) :
    -1 ≤ wind X Y n qx qy ∧ wind X Y n qx qy ≤ 1 := by
  obtain ⟨P, hP⟩ : ∃ P, prodN (fun k => max 1 (max (Y (nxt n k) - Y k) (Y k - Y (nxt n k)))) n = P := ⟨_, rfl⟩
  have hP0 : 0 < P := by rw [← hP]; exact prodN_pos (fun k => by omega) n
  have hdv : ∀ k, k < n → Y (nxt n k) ≠ Y k → ∃ e, 2 * P = (Y (nxt n k) - Y k) * e := by
    intro k hk hne
    obtain ⟨e, he⟩ := prodN_dvd (f := fun k => max 1 (max (Y (nxt n k) - Y k) (Y k - Y (nxt n k)))) n k hk
    rw [hP] at he
    rcases Int.lt_or_le (Y k) (Y (nxt n k)) with h | h
    · exact ⟨2 * e, by rw [he, show max 1 (max (Y (nxt n k) - Y k) (Y k - Y (nxt n k))) = Y (nxt n k) - Y k by omega]; grind⟩
    · exact ⟨-(2 * e), by rw [he, show max 1 (max (Y (nxt n k) - Y k) (Y k - Y (nxt n k))) = Y k - Y (nxt n k) by omega]; grind⟩
  have hD : 0 < 2 * P := by omega
  have hM : 0 < K * (2 * P) := Int.mul_pos (by omega) hD
  have hw : wind (fun k => K * (2 * P) * X k) (fun k => K * (2 * P) * Y k) n (K * (2 * P) * qx) (K * (2 * P) * qy + 2 * P) = wind X Y n qx qy :=
    sumZ_congr n (fun k hk => sE_shift hK hD (hb _ _ (nxt_lt hk) hk) (hq k hk))
  rw [← hw]
  have hlev : ∀ k, K * (2 * P) * Y k ≠ K * (2 * P) * qy + 2 * P := fun k h => by
    have h1 := (level (a := Y k) (q := qy) hK hD).1.mp (by omega)
    have := Int.mul_le_mul_of_nonneg_left h1 (show 0 ≤ K * (2 * P) by omega)
    omega
  have hxs : ∀ k, ∃ x, k < n → Cr (fun k => K * (2 * P) * Y k) n (K * (2 * P) * qy + 2 * P) k → crossI (K * (2 * P) * X k) (K * (2 * P) * Y k) (K * (2 * P) * X (nxt n k)) (K * (2 * P) * Y (nxt n k)) x (K * (2 * P) * qy + 2 * P) = 0 := by
    intro k
    by_cases hk : k < n
    · by_cases hne : Y (nxt n k) = Y k
      · refine ⟨0, fun _ hc => ?_⟩
        simp only [Cr, hne] at hc
        omega
      · obtain ⟨e, he⟩ := hdv k hk hne
        refine ⟨K * (2 * P) * X k + (X (nxt n k) - X k) * e * (K * (qy - Y k) + 1), fun _ _ => ?_⟩
        generalize 2 * P = D at *
        unfold crossI
        grind
    · exact ⟨0, fun h => absurd h hk⟩
  have hxs' := fun k => Classical.choose_spec (hxs k)
  exact wind_core (simple_scale hM hp) (fun k _ => ⟨⟨K * P * X k, by grind⟩, ⟨K * P * Y k, by grind⟩⟩) (fun k _ => hlev k) (fun k => Classical.choose (hxs k)) (fun k hk hc => hxs' k hk hc)
end
end Go.Proofs.YtcjaembdcfppfaaGreat
/- Plane geometry, no program: two polygons whose edges do not meet, and a place inside of both. -/
namespace Go.Proofs.YtcjaembdcfppfaaGreat
open Go.RowKit
section
variable {X Y : Nat → Int} {n : Nat}
theorem wind_const (hn : 0 < n) {x y u v : Int} (h : ∀ k, k < n → meetB x y u v (X k) (Y k) (X (nxt n k)) (Y (nxt n k)) = false) : wind X Y n x y = wind X Y n u v := by
  have hd := wind_diff (X := X) (Y := Y) (n := n) (x := x) (y := y) (vx := u) (vy := v) hn
  rw [sumZ_zero n (fun k hk => by have := signed_edge (h k hk); omega)] at hd
  omega
theorem wind_cross {q h : Int} (hg : ∀ k, k < n → Y k ≠ h) {xs : Nat → Int} (hx : ∀ k, k < n → Cr Y n h k → crossI (X k) (Y k) (X (nxt n k)) (Y (nxt n k)) (xs k) h = 0) (hw : wind X Y n q h ≠ 0) :
    ∃ k, k < n ∧ (Cr Y n h k ∧ q < xs k) ∧ ∀ i, i < n → (Cr Y n h i ∧ q < xs i) → xs k ≤ xs i := by
  by_cases hex : ∃ k, k < n ∧ (Cr Y n h k ∧ q < xs k)
  · exact exists_min (fun k => Cr Y n h k ∧ q < xs k) xs n hex
  · refine absurd (sumZ_zero n (fun k hk => ?_)) hw
    by_cases ck : Cr Y n h k
    · rw [sE_level ck (hx _ hk ck), if_neg (fun c => hex ⟨k, hk, ck, c⟩)]
    · exact sE_no ⟨hg _ hk, hg _ (nxt_lt hk)⟩ ck
theorem level_meet {q x h z : Int} {k : Nat} (hg : Y k ≠ h ∧ Y (nxt n k) ≠ h) (hz : Cr Y n h k → crossI (X k) (Y k) (X (nxt n k)) (Y (nxt n k)) z h = 0) (hm : meetB q h x h (X k) (Y k) (X (nxt n k)) (Y (nxt n k)) = true) :
    Cr Y n h k ∧ min q x ≤ z ∧ z ≤ max q x := by
  obtain ⟨m, u, v, hm0, ⟨s, s0, s1, e1, e2⟩, h2⟩ := common_of_meet hm
  have hv : v = m * h := by rw [e2, Int.sub_self]; omega
  have hu1 := seg_le (show Seg q h x h m u v from ⟨s, s0, s1, e1, e2⟩) (Int.le_max_left q x) (Int.le_max_right q x)
  have hu2 := seg_ge (show Seg q h x h m u v from ⟨s, s0, s1, e1, e2⟩) (Int.min_le_left q x) (Int.min_le_right q x)
  have y1 := seg_le (seg_flip h2) (Int.le_max_left (Y k) (Y (nxt n k))) (Int.le_max_right (Y k) (Y (nxt n k)))
  have y2 := seg_ge (seg_flip h2) (Int.min_le_left (Y k) (Y (nxt n k))) (Int.min_le_right (Y k) (Y (nxt n k)))
  rw [hv] at y1 y2
  have y1' := Int.le_of_mul_le_mul_left y1 hm0
  have y2' := Int.le_of_mul_le_mul_left y2 hm0
  have hc : Cr Y n h k := by unfold Cr; omega
  refine ⟨hc, ?_⟩
  have hz' := hz hc
  obtain ⟨t, t0, t1, f1, f2⟩ := h2
  have key : (Y (nxt n k) - Y k) * (m * z) = (Y (nxt n k) - Y k) * u := by
    unfold crossI at hz'
    have g1 : m * h = m * Y k + t * (Y (nxt n k) - Y k) := by rw [← hv]; exact f2
    have g2 : (Y (nxt n k) - Y k) * (z - X k) = (X (nxt n k) - X k) * (h - Y k) := by grind
    rw [f1]
    grind
  have hne : Y (nxt n k) - Y k ≠ 0 := by unfold Cr at hc; omega
  have hzu : m * z = u := Int.eq_of_mul_eq_mul_left hne key
  rw [← hzu] at hu1 hu2
  exact ⟨Int.le_of_mul_le_mul_left hu2 hm0, Int.le_of_mul_le_mul_left hu1 hm0⟩
theorem sE_scale {M x y ax ay bx by' : Int} (hM : 0 < M) : sE (M * x) (M * y) (M * ax) (M * ay) (M * bx) (M * by') = sE x y ax ay bx by' := by
  have l : ∀ u v : Int, M * u < M * v ↔ u < v := fun u v => ⟨fun h => Int.lt_of_mul_lt_mul_left h (by omega), fun h => Int.mul_lt_mul_of_pos_left h hM⟩
  have l' : ∀ u v : Int, M * u ≤ M * v ↔ u ≤ v := fun u v => by rw [← Int.not_lt, ← Int.not_lt, l]
  have c1 : crossI (M * bx) (M * by') (M * ax) (M * ay) (M * x) (M * y) = (M * M) * crossI bx by' ax ay x y := by unfold crossI; grind
  have c2 : crossI (M * ax) (M * ay) (M * bx) (M * by') (M * x) (M * y) = (M * M) * crossI ax ay bx by' x y := by unfold crossI; grind
  have hMM := Int.mul_pos hM hM
  have p : ∀ u : Int, 0 < M * M * u ↔ 0 < u := fun u => ⟨fun h => by
    rcases Int.lt_or_le 0 u with g | g
    · exact g
    · have := Int.mul_nonneg (show 0 ≤ M * M by omega) (show 0 ≤ -u by omega)
      rw [Int.mul_neg] at this; omega, fun h => Int.mul_pos hMM h⟩
  rw [sE_eq, sE_eq, c1, c2]
  simp only [l, l', p]
theorem wind_scale {M x y : Int} (hM : 0 < M) : wind (fun k => M * X k) (fun k => M * Y k) n (M * x) (M * y) = wind X Y n x y := sumZ_congr n (fun _ _ => sE_scale hM)
end
theorem shift_off {K D ax ay bx by' qx qy : Int} (hK : 2 ≤ K) (hD : 0 < D) (hb : -K < bx - ax ∧ bx - ax < K) (hn : onB qx qy ax ay bx by' = false)
    (hc : (K * D * ay < K * D * qy + D ∧ K * D * qy + D < K * D * by') ∨ (K * D * by' < K * D * qy + D ∧ K * D * qy + D < K * D * ay)) :
    crossI (K * D * ax) (K * D * ay) (K * D * bx) (K * D * by') (K * D * qx) (K * D * qy + D) ≠ 0 := by
  have l1 := level (a := ay) (q := qy) hK hD
  have l2 := level (a := by') (q := qy) hK hD
  have hne : crossI ax ay bx by' qx qy ≠ 0 := fun z => by
    rw [on_of_y z (by omega) (by omega) (by omega)] at hn; exact absurd hn (by decide)
  have e : crossI (K * D * ax) (K * D * ay) (K * D * bx) (K * D * by') (K * D * qx) (K * D * qy + D) = (K * D * D) * (K * crossI ax ay bx by' qx qy + (bx - ax)) := by unfold crossI; grind
  have p : 0 < K * D * D := Int.mul_pos (Int.mul_pos (by omega) hD) hD
  rw [e]
  intro hz
  rcases Int.mul_eq_zero.mp hz with h | h
  · omega
  · generalize crossI ax ay bx by' qx qy = u at *
    rcases Int.lt_or_lt_of_ne hne with g | g
    · have := Int.mul_le_mul_of_nonneg_left (show u ≤ -1 by omega) (show 0 ≤ K by omega)
      omega
    · have := Int.mul_le_mul_of_nonneg_left (show 1 ≤ u by omega) (show 0 ≤ K by omega)
      omega
theorem meet_comm2 {ax ay bx by' cx cy dx dy : Int} : meetB cx cy dx dy ax ay bx by' = meetB ax ay bx by' cx cy dx dy := by
  rw [Bool.eq_iff_iff, meet_iff, meet_iff]
  exact ⟨fun ⟨k, x, y, h1, h2, h3⟩ => ⟨k, x, y, h1, h3, h2⟩, fun ⟨k, x, y, h1, h2, h3⟩ => ⟨k, x, y, h1, h3, h2⟩⟩
theorem near_in {A B : Nat → Int} {n : Nat} {A' B' : Nat → Int} {m : Nat} {q h xi : Int} (hm : 0 < m) (hg : ∀ k, k < m → B' k ≠ h) {ts : Nat → Int} (ht : ∀ k, k < m → Cr B' m h k → crossI (A' k) (B' k) (A' (nxt m k)) (B' (nxt m k)) (ts k) h = 0)
    {i : Nat} (ci : Cr B n h i) (hx : crossI (A i) (B i) (A (nxt n i)) (B (nxt n i)) xi h = 0) (hq : q < xi) (hmin : ∀ k, k < m → Cr B' m h k → q < ts k → xi < ts k) (hoff : ∀ k, k < m → Cr B' m h k → ts k ≠ q)
    (H : ∀ k, k < m → meetB (A i) (B i) (A (nxt n i)) (B (nxt n i)) (A' k) (B' k) (A' (nxt m k)) (B' (nxt m k)) = false) : wind A' B' m q h = wind A' B' m (A i) (B i) := by
  have h1 : wind A' B' m q h = wind A' B' m xi h := wind_const hm (fun k hk => by
    cases hb : meetB q h xi h (A' k) (B' k) (A' (nxt m k)) (B' (nxt m k)) with
    | false => rfl
    | true =>
      obtain ⟨c, z1, z2⟩ := level_meet ⟨hg k hk, hg _ (nxt_lt hk)⟩ (ht k hk) hb
      have := hoff k hk c
      have := hmin k hk c (by omega)
      omega)
  obtain ⟨a, s, s0, s1, o⟩ := cr_on ci hx
  have h2 : wind A' B' m xi h = wind A' B' m (A i) (B i) := wind_const hm (fun k hk => meet_part (by omega) (by omega) (by omega) (on_rev o) (by rw [meet_swap1]; exact H k hk))
  rw [h1, h2]
theorem cross_points {X Y : Nat → Int} {n : Nat} (K D qy : Int) (hdv : ∀ k, k < n → Y (nxt n k) ≠ Y k → ∃ e, D = (Y (nxt n k) - Y k) * e) :
    ∃ xs : Nat → Int, ∀ k, k < n → Cr (fun k => K * D * Y k) n (K * D * qy + D) k → crossI (K * D * X k) (K * D * Y k) (K * D * X (nxt n k)) (K * D * Y (nxt n k)) (xs k) (K * D * qy + D) = 0 := by
  have hxs : ∀ k, ∃ x, k < n → Cr (fun k => K * D * Y k) n (K * D * qy + D) k → crossI (K * D * X k) (K * D * Y k) (K * D * X (nxt n k)) (K * D * Y (nxt n k)) x (K * D * qy + D) = 0 := by
    intro k
    by_cases hk : k < n
    · by_cases hne : Y (nxt n k) = Y k
      · refine ⟨0, fun _ hc => ?_⟩
        simp only [Cr, hne] at hc
        omega
      · obtain ⟨e, he⟩ := hdv k hk hne
        refine ⟨K * D * X k + (X (nxt n k) - X k) * e * (K * (qy - Y k) + 1), fun _ _ => ?_⟩
        unfold crossI
        grind
    · exact ⟨0, fun h => absurd h hk⟩
  exact ⟨fun k => Classical.choose (hxs k), fun k => Classical.choose_spec (hxs k)⟩
def hts (Y : Nat → Int) (n : Nat) : Int := prodN (fun k => max 1 (max (Y (nxt n k) - Y k) (Y k - Y (nxt n k)))) n
theorem hts_pos (Y : Nat → Int) (n : Nat) : 0 < hts Y n := prodN_pos (fun k => by omega) n
theorem hts_dvd (Y : Nat → Int) (n : Nat) {k : Nat} (hk : k < n) (hne : Y (nxt n k) ≠ Y k) : ∃ e, hts Y n = (Y (nxt n k) - Y k) * e := by
  obtain ⟨e, he⟩ := prodN_dvd (f := fun k => max 1 (max (Y (nxt n k) - Y k) (Y k - Y (nxt n k)))) n k hk
  unfold hts
  rw [he]
  rcases Int.lt_or_le (Y k) (Y (nxt n k)) with h | h
  · exact ⟨e, by rw [show max 1 (max (Y (nxt n k) - Y k) (Y k - Y (nxt n k))) = Y (nxt n k) - Y k by omega]⟩
  · exact ⟨-e, by rw [show max 1 (max (Y (nxt n k) - Y k) (Y k - Y (nxt n k))) = Y k - Y (nxt n k) by omega]; grind⟩
theorem both_in {X Y : Nat → Int} {n : Nat} {X' Y' : Nat → Int} {m : Nat} (hn : 0 < n) (hm : 0 < m) {K : Int} (hK : 2 ≤ K) (hb : ∀ i k, i < n → k < n → -K < X i - X k ∧ X i - X k < K) (hb' : ∀ i k, i < m → k < m → -K < X' i - X' k ∧ X' i - X' k < K)
    (H : ∀ i k, i < n → k < m → meetB (X i) (Y i) (X (nxt n i)) (Y (nxt n i)) (X' k) (Y' k) (X' (nxt m k)) (Y' (nxt m k)) = false) {x y : Int}
    (hq : ∀ k, k < n → onB x y (X k) (Y k) (X (nxt n k)) (Y (nxt n k)) = false) (hq' : ∀ k, k < m → onB x y (X' k) (Y' k) (X' (nxt m k)) (Y' (nxt m k)) = false)
    (hw : wind X Y n x y ≠ 0) (hw' : wind X' Y' m x y ≠ 0) : (∃ i, i < n ∧ wind X' Y' m (X i) (Y i) ≠ 0) ∨ ∃ k, k < m ∧ wind X Y n (X' k) (Y' k) ≠ 0 := by
  obtain ⟨D, hD, hdv, hdv'⟩ : ∃ D : Int, 0 < D ∧ (∀ k, k < n → Y (nxt n k) ≠ Y k → ∃ e, D = (Y (nxt n k) - Y k) * e) ∧ (∀ k, k < m → Y' (nxt m k) ≠ Y' k → ∃ e, D = (Y' (nxt m k) - Y' k) * e) := by
    refine ⟨hts Y n * hts Y' m, Int.mul_pos (hts_pos _ _) (hts_pos _ _), fun k hk hne => ?_, fun k hk hne => ?_⟩
    · obtain ⟨e, he⟩ := hts_dvd Y n hk hne
      exact ⟨e * hts Y' m, by rw [he, Int.mul_assoc]⟩
    · obtain ⟨e, he⟩ := hts_dvd Y' m hk hne
      exact ⟨e * hts Y n, by rw [he]; grind⟩
  have hM : 0 < K * D := Int.mul_pos (by omega) hD
  obtain ⟨xs, hxs⟩ := cross_points (X := X) K D y hdv
  obtain ⟨ts, hts'⟩ := cross_points (X := X') K D y hdv'
  have hgen : ∀ Z : Nat → Int, ∀ k : Nat, K * D * Z k ≠ K * D * y + D := fun Z k h => by
    have h1 := (level (a := Z k) (q := y) hK hD).1.mp (by omega)
    have := Int.mul_le_mul_of_nonneg_left h1 (show 0 ≤ K * D by omega)
    omega
  have w1 : wind (fun k => K * D * X k) (fun k => K * D * Y k) n (K * D * x) (K * D * y + D) = wind X Y n x y := sumZ_congr n (fun k hk => sE_shift hK hD (hb _ _ (nxt_lt hk) hk) (hq k hk))
  have w2 : wind (fun k => K * D * X' k) (fun k => K * D * Y' k) m (K * D * x) (K * D * y + D) = wind X' Y' m x y := sumZ_congr m (fun k hk => sE_shift hK hD (hb' _ _ (nxt_lt hk) hk) (hq' k hk))
  obtain ⟨i, hi, ⟨ci, qi⟩, mi⟩ := wind_cross (fun k _ => hgen Y k) hxs (by rw [w1]; exact hw)
  obtain ⟨j, hj, ⟨cj, qj⟩, mj⟩ := wind_cross (fun k _ => hgen Y' k) hts' (by rw [w2]; exact hw')
  have HS : ∀ i k, i < n → k < m → meetB (K * D * X i) (K * D * Y i) (K * D * X (nxt n i)) (K * D * Y (nxt n i)) (K * D * X' k) (K * D * Y' k) (K * D * X' (nxt m k)) (K * D * Y' (nxt m k)) = false := fun i k hi hk => by
    cases h : meetB (K * D * X i) (K * D * Y i) (K * D * X (nxt n i)) (K * D * Y (nxt n i)) (K * D * X' k) (K * D * Y' k) (K * D * X' (nxt m k)) (K * D * Y' (nxt m k)) with
    | false => rfl
    | true => have := H i k hi hk; rw [common_scale hM h] at this; exact absurd this (by decide)
  have off : ∀ k, k < n → Cr (fun k => K * D * Y k) n (K * D * y + D) k → xs k ≠ K * D * x := fun k hk hc e => by
    have h0 := hxs k hk hc
    rw [e] at h0
    exact shift_off hK hD (hb _ _ (nxt_lt hk) hk) (hq k hk) hc h0
  have off' : ∀ k, k < m → Cr (fun k => K * D * Y' k) m (K * D * y + D) k → ts k ≠ K * D * x := fun k hk hc e => by
    have h0 := hts' k hk hc
    rw [e] at h0
    exact shift_off hK hD (hb' _ _ (nxt_lt hk) hk) (hq' k hk) hc h0
  rcases Int.lt_trichotomy (xs i) (ts j) with c | c | c
  · left
    refine ⟨i, hi, ?_⟩
    have := near_in (A := fun k => K * D * X k) (B := fun k => K * D * Y k) (n := n) (A' := fun k => K * D * X' k) (B' := fun k => K * D * Y' k) hm (fun k _ => hgen Y' k) hts' ci (hxs i hi ci) qi (fun k hk hc hk' => by have := mj k hk ⟨hc, hk'⟩; omega) off' (fun k hk => HS i k hi hk)
    rw [w2] at this
    rw [← wind_scale (X := X') (Y := Y') (n := m) hM, ← this]
    exact hw'
  · exfalso
    obtain ⟨a, s, s0, s1, o⟩ := cr_on (X := fun k => K * D * X k) ci (hxs i hi ci)
    obtain ⟨a', s', s0', s1', o'⟩ := cr_on (X := fun k => K * D * X' k) cj (hts' j hj cj)
    have g1 := seg_scale (m := a') (on_seg (by omega) (by omega) o) (by omega)
    have g2 := seg_scale (m := a) (on_seg (by omega) (by omega) o') (by omega)
    have hh := HS i j hi hj
    have : meetB (K * D * X i) (K * D * Y i) (K * D * X (nxt n i)) (K * D * Y (nxt n i)) (K * D * X' j) (K * D * Y' j) (K * D * X' (nxt m j)) (K * D * Y' (nxt m j)) = true := by
      refine meet_of_common ⟨a * a', _, _, Int.mul_pos (by omega) (by omega), g1, ?_⟩
      rw [← c, show a' * a = a * a' by grind, show a' * xs i * a = a * xs i * a' by grind, show a' * (K * D * y + D) * a = a * (K * D * y + D) * a' by grind] at g2
      exact g2
    rw [this] at hh
    exact absurd hh (by decide)
  · right
    refine ⟨j, hj, ?_⟩
    have := near_in (A := fun k => K * D * X' k) (B := fun k => K * D * Y' k) (n := m) (A' := fun k => K * D * X k) (B' := fun k => K * D * Y k) hn (fun k _ => hgen Y k) hxs cj (hts' j hj cj) qj (fun k hk hc hk' => by have := mi k hk ⟨hc, hk'⟩; omega) off (fun k hk => by rw [meet_comm2]; exact HS k j hk hj)
    rw [w1] at this
    rw [← wind_scale (X := X) (Y := Y) (n := n) hM, ← this]
    exact hw
end Go.Proofs.YtcjaembdcfppfaaGreat
/- Plane geometry: valid polygons are simple; the place in one is its winding number (no program). -/
namespace Go.Proofs.YtcjaembdcfppfaaGreat
open Go.RowKit
def lessB (a b x y : Int) : Bool := decide (a < x ∨ (a = x ∧ b < y))
theorem plN_iff {r : Rows} : ∀ (f i : Nat), plN r f i = true ↔ ∀ k, i ≤ k → k < i + f → placeB (lg r (k : Int) 0) (lg r (k : Int) 1) = true
  | 0, i => ⟨fun _ k h1 h2 => by omega, fun _ => rfl⟩
  | f + 1, i => by
    rw [plN, Bool.and_eq_true, plN_iff f (i + 1)]
    constructor
    · rintro ⟨h1, h2⟩ k g1 g2
      by_cases e : k = i
      · subst e; exact h1
      · exact h2 k (by omega) (by omega)
    · intro h
      exact ⟨h i (by omega) (by omega), fun k g1 g2 => h k (by omega) (by omega)⟩
theorem cornN_iff {r : Rows} : ∀ (f i : Nat), cornN r f i = true ↔ ∀ k, i ≤ k → k < i + f → cornOk r k = true
  | 0, i => ⟨fun _ k h1 h2 => by omega, fun _ => rfl⟩
  | f + 1, i => by
    rw [cornN, Bool.and_eq_true, cornN_iff f (i + 1)]
    constructor
    · rintro ⟨h1, h2⟩ k g1 g2
      by_cases e : k = i
      · subst e; exact h1
      · exact h2 k (by omega) (by omega)
    · intro h
      exact ⟨h i (by omega) (by omega), fun k g1 g2 => h k (by omega) (by omega)⟩
theorem order_less {a b x y : Int} : (0 ≤ orderI a b x y) ↔ ¬ lessB a b x y = true := by
  unfold lessB orderI
  rw [decide_eq_true_eq]
  (repeat' split) <;> omega
theorem cornOk_iff {r : Rows} (hpl : ∀ k : Nat, k < r.length → placeB (lg r k 0) (lg r k 1) = true) {i : Nat} (hi : i < r.length) :
    cornOk r i = true ↔ (0 < i → lessB (lg r 0 0) (lg r 0 1) (lg r i 0) (lg r i 1) = true) ∧ turnI (lg r (prv r.length i) 0) (lg r (prv r.length i) 1) (lg r i 0) (lg r i 1) (lg r (nxt r.length i) 0) (lg r (nxt r.length i) 1) ≠ 0 := by
  unfold cornOk
  rw [turnR_eq (hpl _ (prv_lt hi)) (hpl _ hi) (hpl _ (nxt_lt hi))]
  simp only [Bool.and_eq_true, Bool.not_eq_true', Bool.and_eq_false_imp, decide_eq_true_eq, decide_eq_false_iff_not, order_less, Decidable.not_not, ne_eq]
/-! ### The winding number -/
theorem meet_comm {ax ay bx by' cx cy dx dy : Int} : meetB cx cy dx dy ax ay bx by' = meetB ax ay bx by' cx cy dx dy := by
  rw [Bool.eq_iff_iff, meet_iff, meet_iff]
  exact ⟨fun ⟨k, x, y, h1, h2, h3⟩ => ⟨k, x, y, h1, h3, h2⟩, fun ⟨k, x, y, h1, h2, h3⟩ => ⟨k, x, y, h1, h3, h2⟩⟩
theorem rowN_spec {r : Rows} {i : Nat} : ∀ (f k : Nat), rowN r i f k = true → ∀ j, k ≤ j → j < k + f → pairOk r i j = true
  | 0, _, _, j, h1, h2 => by omega
  | f + 1, k, h, j, h1, h2 => by
    rw [rowN, Bool.and_eq_true] at h
    by_cases e : j = k
    · subst e; exact h.1
    · exact rowN_spec f (k + 1) h.2 j (by omega) (by omega)
theorem simpleN_spec {r : Rows} : ∀ (f i : Nat), simpleN r f i = true → ∀ a, i ≤ a → a < i + f → ∀ k, k < r.length → pairOk r a k = true
  | 0, _, _, a, h1, h2, _, _ => by omega
  | f + 1, i, h, a, h1, h2, k, hk => by
    rw [simpleN, Bool.and_eq_true] at h
    by_cases e : a = i
    · subst e; exact rowN_spec _ 0 h.1 k (by omega) (by omega)
    · exact simpleN_spec f (i + 1) h.2 a (by omega) (by omega) k hk
theorem poly_simple {r : Rows} (hr : polyB r = true) : Simple (cx r) (cy r) r.length := by
  have hl := polyB_len hr
  have hpl : ∀ k : Nat, k < r.length → placeB (lg r k 0) (lg r k 1) = true := fun k hk => polyB_pl hr hk
  have h := hr
  simp only [polyB, Bool.and_eq_true] at h
  obtain ⟨_, _, hco, hsi, _⟩ := h
  have key : ∀ i k, i < k → k < r.length → k ≠ nxt r.length i → i ≠ nxt r.length k → meetB (cx r i) (cy r i) (cx r (nxt r.length i)) (cy r (nxt r.length i)) (cx r k) (cy r k) (cx r (nxt r.length k)) (cy r (nxt r.length k)) = false := by
    intro i k hik hk h1 h2
    have h := simpleN_spec _ 0 hsi i (by omega) (by omega) k hk
    unfold pairOk at h
    have hno : ¬ (k ≤ i + 1 ∨ (i = 0 ∧ k + 1 = r.length)) := by
      unfold nxt at h1 h2
      split at h1 <;> split at h2 <;> omega
    rw [decide_eq_false hno, Bool.false_or, Bool.not_eq_true'] at h
    unfold meetE2 meetR at h
    rw [eight_eight, hpl i (by omega), hpl _ (nxt_lt (show i < r.length by omega)), hpl k hk, hpl _ (nxt_lt hk), meet_eight] at h
    exact h
  refine ⟨hl.1, fun i k hi hk hki h1 h2 => ?_, fun i hi => ?_⟩
  · rcases Nat.lt_or_ge i k with c | c
    · exact key i k c hk h1 h2
    · rw [← meet_comm]
      exact key k i (by omega) hi h2 h1
  · have hn := nxt_lt hi
    have := ((cornOk_iff hpl hn).mp ((cornN_iff _ _).mp hco _ (by omega) (by omega))).2
    rw [prv_nxt hi] at this
    exact fun z => this (sgn0.mpr z)
theorem poly_wind {r : Rows} (hr : polyB r = true) {x y : Int} (hq : ∀ k, k < r.length → onB x y (cx r k) (cy r k) (cx r (nxt r.length k)) (cy r (nxt r.length k)) = false) : -1 ≤ wind (cx r) (cy r) r.length x y ∧ wind (cx r) (cy r) r.length x y ≤ 1 :=
  wind_le (poly_simple hr) (K := 2000001) (by decide) (fun i k hi hk => by
    have h1 := placeB_iff.mp (polyB_pl hr hi)
    have h2 := placeB_iff.mp (polyB_pl hr hk)
    omega) hq
theorem par_sum {r : Rows} {x y : Int} : ∀ m, m ≤ r.length → ∀ b, (sumZ (fun k => sE x y (cx r k) (cy r k) (cx r (nxt r.length k)) (cy r (nxt r.length k))) m % 2 = if b then 1 else 0) → parN r x y r.length 0 = (b ^^ parN r x y (r.length - m) m)
  | 0, _, b, h => by
    cases b
    · simp
    · simp [sumZ] at h
  | m + 1, hm, b, h => by
    rw [sumZ] at h
    have e : parN r x y (r.length - m) m = (crE r x y m ^^ parN r x y (r.length - (m + 1)) (m + 1)) := by
      rw [show r.length - m = (r.length - (m + 1)) + 1 by omega]; rfl
    have hs : sE x y (cx r m) (cy r m) (cx r (nxt r.length m)) (cy r (nxt r.length m)) % 2 = if crE r x y m then 1 else 0 := by
      unfold sE crE
      cases crossP x y (cx r m) (cy r m) (cx r (nxt r.length m)) (cy r (nxt r.length m))
      · rfl
      · simp only [if_true]; split <;> rfl
    generalize sE x y (cx r m) (cy r m) (cx r (nxt r.length m)) (cy r (nxt r.length m)) = u at *
    have ih := par_sum (r := r) (x := x) (y := y) m (by omega) (b ^^ crE r x y m)
    rw [ih, e]
    · cases b <;> cases crE r x y m <;> cases parN r x y (r.length - (m + 1)) (m + 1) <;> rfl
    · revert h hs
      cases b <;> cases crE r x y m <;> simp <;> omega
theorem place_wind {r : Rows} (hr : polyB r = true) {x y : Int} (hq : placeB x y = true) (hon : ∀ k, k < r.length → onB x y (cx r k) (cy r k) (cx r (nxt r.length k)) (cy r (nxt r.length k)) = false) :
    placeN r x y r.length 0 false = if wind (cx r) (cy r) r.length x y = 0 then -1 else 1 := by
  have hw := poly_wind hr hon
  rw [placeN_eq hr hq _ _ _ (by omega), onN_false _ _ (fun k _ hk => hon k (by omega))]
  have hp := par_sum (r := r) (x := x) (y := y) r.length (by omega)
  have ew : sumZ (fun k => sE x y (cx r k) (cy r k) (cx r (nxt r.length k)) (cy r (nxt r.length k))) r.length = wind (cx r) (cy r) r.length x y := rfl
  rw [ew, Nat.sub_self] at hp
  simp only [parN, Bool.xor_false, Bool.false_eq_true, if_false, Bool.false_xor] at hp ⊢
  by_cases h0 : wind (cx r) (cy r) r.length x y = 0
  · rw [hp false (by rw [h0]; rfl), if_pos h0]; rfl
  · rw [hp true (by rw [if_pos rfl]; omega), if_neg h0]; rfl
end Go.Proofs.YtcjaembdcfppfaaGreat
