/- MX, merged: Qm, Qn, Qo. -/
import Derived.Test.YtglepdhapakmbaaLCovers
import Derived.Test.YtglepdhapakmbaaMY
set_option linter.unusedSimpArgs false
set_option linter.unusedVariables false
/- Chapter 07: a segment whose points all lie in a polygon passes poly's has. -/
namespace Go.Proofs.Ytglepdhapakmbaa
open Go.RowKit
/-- All points of a segment lie in a polygon. -/
def SegIn (X Y : Nat → Int) (n : Nat) (ax ay bx b : Int) : Prop := ∀ K x y, 0 < K → Seg ax ay bx b K x y → InP (mulP K X) (mulP K Y) n x y
theorem segin_swap {X Y : Nat → Int} {n : Nat} {ax ay bx b : Int} (h : SegIn X Y n ax ay bx b) : SegIn X Y n bx b ax ay := fun K x y hK hs => h K x y hK (seg_swap hs)
theorem segin_at {X Y : Nat → Int} {n : Nat} {ax ay bx b px py : Int} (h : SegIn X Y n ax ay bx b) (hp : onB px py ax ay bx b = true) : InP X Y n px py := by
  obtain ⟨k, hk, hs⟩ := onB_iff.mp hp
  exact (InP_mul hk).mp (h k _ _ hk hs)
/-- From a point of the segment a little towards its end. -/
theorem segin_to {X Y : Nat → Int} {n : Nat} {ax ay bx b px py M : Int} (h : SegIn X Y n ax ay bx b) (hp : onB px py ax ay bx b = true) (hM : 0 < M) : InP (mulP M X) (mulP M Y) n (M * px + (bx - px)) (M * py + (b - py)) := by
  obtain ⟨k, hk, s, s0, s1, e1, e2⟩ := onB_iff.mp hp
  have h1 := h (M * k) (k * (M * px + (bx - px))) (k * (M * py + (b - py))) (Int.mul_pos hM hk) ⟨M * s + (k - s), by
      have := Int.mul_nonneg (show 0 ≤ M by omega) s0
      omega, by
      have := Int.mul_le_mul_of_nonneg_left s1 (show 0 ≤ M - 1 by omega)
      have e : M * k - (M * s + (k - s)) = (M - 1) * k - (M - 1) * s := by grind
      omega, by
      have e : k * (M * px + (bx - px)) = (M - 1) * (k * px) + k * bx := by grind
      rw [e, e1]; grind, by
      have e : k * (M * py + (b - py)) = (M - 1) * (k * py) + k * b := by grind
      rw [e, e2]; grind⟩
  have e : mulP (M * k) X = mulP k (mulP M X) := by rw [mulP_mulP, Int.mul_comm]
  have e' : mulP (M * k) Y = mulP k (mulP M Y) := by rw [mulP_mulP, Int.mul_comm]
  rw [e, e'] at h1
  exact (InP_mul hk).mp h1
theorem leE_none {r : Rows} {x y tx ty : Int} : ∀ (f i : Nat), (∀ k, i ≤ k → k < i + f → onE r x y k = true → 0 ≤ turnR [.i (lg r k 0), .i (lg r k 1), .i (lg r (nxt r.length k) 0), .i (lg r (nxt r.length k) 1), .i tx, .i ty]) → leE r x y tx ty f i = true
  | 0, i, _ => rfl
  | f + 1, i, h => by
    rw [leE]
    by_cases e : onE r x y i = true
    · rw [if_pos e, decide_eq_true_eq]
      exact h i (by omega) (by omega) e
    · rw [if_neg e]
      exact leE_none f (i + 1) (fun k g1 g2 => h k (by omega) (by omega))
theorem leN_all {r : Rows} {x y tx ty : Int} : ∀ (f i : Nat), (∀ k, i ≤ k → k < i + f → (x = lg r k 0 ∧ y = lg r k 1) → opB r k tx ty = true) → ((∀ k, i ≤ k → k < i + f → ¬ (x = lg r k 0 ∧ y = lg r k 1)) → leE r x y tx ty r.length 0 = true) → leN r x y tx ty f i = true
  | 0, i, _, h => h (fun k h1 h2 => by omega)
  | f + 1, i, h, g => by
    rw [leN]
    by_cases c : x = lg r i 0 ∧ y = lg r i 1
    · rw [if_pos c]; exact h i (by omega) (by omega) c
    · rw [if_neg c]
      refine leN_all f (i + 1) (fun k g1 g2 => h k (by omega) (by omega)) (fun hno => g (fun k g1 g2 => ?_))
      by_cases e : k = i
      · subst e; exact c
      · exact hno k (by omega) (by omega)
section
variable {r : Rows}
theorem lead_in (hr : polyB r = true) {ax ay bx b : Int} (ha : placeB ax ay = true) (hb : placeB bx b = true) (h : SegIn (cx r) (cy r) r.length ax ay bx b) : leN r ax ay bx b r.length 0 = true := by
  have hs := poly_simple hr
  have hA := poly_area hr
  refine leN_all _ 0 (fun k _ hk hc => ?_) (fun hno => leE_none _ 0 (fun k _ hk ho => ?_))
  · have hk' : k < r.length := by omega
    rw [op_iff hr hk' hb]
    obtain ⟨N, hN, near⟩ := near_corner hs hA (prv_lt hk') hk' (nxt_prv hk') bx b
    rcases Classical.em (OpI (cx r) (cy r) r.length (prv r.length k) k bx b) with q | q
    · exact q
    · refine absurd ?_ ((near N (Int.le_refl _)).2 q)
      have e1 : cx r k = ax := hc.1.symm
      have e2 : cy r k = ay := hc.2.symm
      rw [e1, e2]
      exact segin_to h (on_self ..) hN
  · have hk' : k < r.length := by omega
    rw [onE_eq hr ha hk'] at ho
    have t1 : turnR [.i (lg r k 0), .i (lg r k 1), .i (lg r (nxt r.length k) 0), .i (lg r (nxt r.length k) 1), .i bx, .i b] = sgn (crossI (cx r k) (cy r k) (cx r (nxt r.length k)) (cy r (nxt r.length k)) bx b) := turnR_eq (polyB_pl hr hk') (polyB_pl hr (nxt_lt hk')) hb
    rw [t1, sgn_nn7]
    have l0 := on_line ho
    obtain ⟨m, hm, s, s0, s1, e1, e2⟩ := onB_iff.mp ho
    have sn0 : s ≠ 0 := fun h => by
      subst h
      exact hno k (by omega) hk ⟨(Int.eq_of_mul_eq_mul_left (show m ≠ 0 by omega) (show m * ax = m * cx r k by omega)), (Int.eq_of_mul_eq_mul_left (show m ≠ 0 by omega) (show m * ay = m * cy r k by omega))⟩
    have snk : s ≠ m := fun h => by
      subst h
      exact hno (nxt r.length k) (by omega) (by have := nxt_lt hk'; omega) ⟨(Int.eq_of_mul_eq_mul_left (show s ≠ 0 by omega) (show s * ax = s * cx r (nxt r.length k) by grind)), (Int.eq_of_mul_eq_mul_left (show s ≠ 0 by omega) (show s * ay = s * cy r (nxt r.length k) by grind))⟩
    obtain ⟨N, hN, near⟩ := near_edge hs hA hk' (show 0 < s by omega) (show s < m by omega) ⟨e1, e2⟩ (bx - ax) (b - ay)
    have ec : crossI (cx r k) (cy r k) (cx r (nxt r.length k)) (cy r (nxt r.length k)) bx b = (cx r (nxt r.length k) - cx r k) * (b - ay) - (cy r (nxt r.length k) - cy r k) * (bx - ax) := by unfold crossI at l0 ⊢; grind
    rw [ec]
    rcases Int.lt_or_le ((cx r (nxt r.length k) - cx r k) * (b - ay) - (cy r (nxt r.length k) - cy r k) * (bx - ax)) 0 with q | q
    · exfalso
      have := (near N (Int.le_refl _)).1 (by omega)
      rw [if_neg (by omega)] at this
      rcases segin_to h (on_self ax ay bx b) hN with g | g
      · exact this.2 g
      · exact g this.1
    · exact q
/-- A segment with all points in the polygon passes. -/
theorem ph_of_in (hr : polyB r = true) {ax ay bx b : Int} (ha : placeB ax ay = true) (hb : placeB bx b = true) (h : SegIn (cx r) (cy r) r.length ax ay bx b) : phB r ax ay bx b = true := by
  have hs := poly_simple hr
  have hA := poly_area hr
  have h' := segin_swap h
  have ob : onB bx b ax ay bx b = true := onB_swap (on_self bx b ax ay)
  have p1 : 0 ≤ placeN r ax ay r.length 0 false := (place_in hr ha).mpr (segin_at h (on_self ..))
  have p2 : 0 ≤ placeN r bx b r.length 0 false := (place_in hr hb).mpr (segin_at h ob)
  unfold phB
  rw [decide_eq_true p1, decide_eq_true p2, lead_in hr ha hb h, lead_in hr hb ha h', phN_true _ 0 (fun k _ hk => ?_)]
  · rfl
  have hk' : k < r.length := by omega
  have hn' := nxt_lt hk'
  have h3 := polyB_pl hr hk'
  have h4 := polyB_pl hr hn'
  have t1 : tur ax ay bx b (lg r k 0) (lg r k 1) = sgn (crossI ax ay bx b (cx r k) (cy r k)) := turnR_eq ha hb h3
  have t2 : tur ax ay bx b (lg r (nxt r.length k) 0) (lg r (nxt r.length k) 1) = sgn (crossI ax ay bx b (cx r (nxt r.length k)) (cy r (nxt r.length k))) := turnR_eq ha hb h4
  have t3 : tur (lg r k 0) (lg r k 1) (lg r (nxt r.length k) 0) (lg r (nxt r.length k) 1) ax ay = sgn (crossI (cx r k) (cy r k) (cx r (nxt r.length k)) (cy r (nxt r.length k)) ax ay) := turnR_eq h3 h4 ha
  have t4 : tur (lg r k 0) (lg r k 1) (lg r (nxt r.length k) 0) (lg r (nxt r.length k) 1) bx b = sgn (crossI (cx r k) (cy r k) (cx r (nxt r.length k)) (cy r (nxt r.length k)) bx b) := turnR_eq h3 h4 hb
  have hpc : phC r ax ay bx b k = false := by
    rw [phC, decide_eq_false_iff_not, t1, t2, t3, t4, sgn_mul, sgn_mul]
    intro hc
    have hmt : meetB ax ay bx b (cx r k) (cy r k) (cx r (nxt r.length k)) (cy r (nxt r.length k)) = true := by
      cases q : meetB ax ay bx b (cx r k) (cy r k) (cx r (nxt r.length k)) (cy r (nxt r.length k)) with
      | true => rfl
      | false => exact (no_proper q hc).elim
    obtain ⟨K, x, y, hK, ⟨s, s0, s1, e1, e2⟩, t, t0, t1, f1, f2⟩ := common_of_meet hmt
    have E1 : (K - t) * crossI ax ay bx b (cx r k) (cy r k) + t * crossI ax ay bx b (cx r (nxt r.length k)) (cy r (nxt r.length k)) = 0 := by
      have a1 : (bx - ax) * (y - K * ay) - (b - ay) * (x - K * ax) = 0 := by rw [e1, e2]; grind
      have a2 : (bx - ax) * (y - K * ay) - (b - ay) * (x - K * ax) = (K - t) * crossI ax ay bx b (cx r k) (cy r k) + t * crossI ax ay bx b (cx r (nxt r.length k)) (cy r (nxt r.length k)) := by rw [f1, f2]; unfold crossI; grind
      omega
    have E2 : (K - s) * crossI (cx r k) (cy r k) (cx r (nxt r.length k)) (cy r (nxt r.length k)) ax ay + s * crossI (cx r k) (cy r k) (cx r (nxt r.length k)) (cy r (nxt r.length k)) bx b = 0 := by
      have a1 : (cx r (nxt r.length k) - cx r k) * (y - K * cy r k) - (cy r (nxt r.length k) - cy r k) * (x - K * cx r k) = (K - s) * crossI (cx r k) (cy r k) (cx r (nxt r.length k)) (cy r (nxt r.length k)) ax ay + s * crossI (cx r k) (cy r k) (cx r (nxt r.length k)) (cy r (nxt r.length k)) bx b := by rw [e1, e2]; unfold crossI; grind
      have a2 : (cx r (nxt r.length k) - cx r k) * (y - K * cy r k) - (cy r (nxt r.length k) - cy r k) * (x - K * cx r k) = 0 := by rw [f1, f2]; grind
      omega
    have tn0 : t ≠ 0 := fun h => by subst h; rw [Int.zero_mul, Int.add_zero, Int.sub_zero] at E1; rcases Int.mul_eq_zero.mp E1 with q | q <;> omega
    have tnK : t ≠ K := fun h => by subst h; rw [Int.sub_self, Int.zero_mul, Int.zero_add] at E1; rcases Int.mul_eq_zero.mp E1 with q | q <;> omega
    have sn0 : s ≠ 0 := fun h => by subst h; rw [Int.zero_mul, Int.add_zero, Int.sub_zero] at E2; rcases Int.mul_eq_zero.mp E2 with q | q <;> omega
    have snK : s ≠ K := fun h => by subst h; rw [Int.sub_self, Int.zero_mul, Int.zero_add] at E2; rcases Int.mul_eq_zero.mp E2 with q | q <;> omega
    -- the side of the edge on which the segment goes on
    have side : ∀ ux uy vx vy : Int, SegIn (cx r) (cy r) r.length ux uy vx vy → (∃ s, 0 < s ∧ s < K ∧ x = K * ux + s * (vx - ux) ∧ y = K * uy + s * (vy - uy)) → crossI (cx r k) (cy r k) (cx r (nxt r.length k)) (cy r (nxt r.length k)) vx vy - crossI (cx r k) (cy r k) (cx r (nxt r.length k)) (cy r (nxt r.length k)) ux uy < 0 → False := fun ux uy vx vy hin hx hneg => by
      obtain ⟨s, s0, s1, e1, e2⟩ := hx
      have ho : On' K t (mulP K (cx r) k) (mulP K (cy r) k) (mulP K (cx r) (nxt r.length k)) (mulP K (cy r) (nxt r.length k)) x y := by
        unfold mulP
        exact ⟨by rw [f1]; grind, by rw [f2]; grind⟩
      obtain ⟨N, hN, near⟩ := near_edge (simple_mul hK hs) (area2_mul hK hA) hk' (show 0 < t by omega) (show t < K by omega) ho (vx - ux) (vy - uy)
      have ec : (mulP K (cx r) (nxt r.length k) - mulP K (cx r) k) * (vy - uy) - (mulP K (cy r) (nxt r.length k) - mulP K (cy r) k) * (vx - ux) = K * (crossI (cx r k) (cy r k) (cx r (nxt r.length k)) (cy r (nxt r.length k)) vx vy - crossI (cx r k) (cy r k) (cx r (nxt r.length k)) (cy r (nxt r.length k)) ux uy) := by unfold mulP crossI; grind
      have hlt : (mulP K (cx r) (nxt r.length k) - mulP K (cx r) k) * (vy - uy) - (mulP K (cy r) (nxt r.length k) - mulP K (cy r) k) * (vx - ux) < 0 := by
        rw [ec]; exact Int.mul_neg_of_pos_of_neg hK hneg
      have := (near N (Int.le_refl _)).1 (by omega)
      rw [if_neg (by omega)] at this
      have hi := hin (N * K) (N * x + (vx - ux)) (N * y + (vy - uy)) (Int.mul_pos hN hK) ⟨N * s + 1, by
          have := Int.mul_nonneg (show 0 ≤ N by omega) (show 0 ≤ s by omega); omega, by
          have := Int.mul_le_mul_of_nonneg_left (show s + 1 ≤ K by omega) (show 0 ≤ N by omega)
          rw [Int.mul_add] at this; omega, by rw [e1]; grind, by rw [e2]; grind⟩
      rw [← mulP_mulP, ← mulP_mulP] at hi
      rcases hi with g | g
      · exact this.2 g
      · exact g this.1
    rcases hc.2 with q | q
    · refine side bx b ax ay h' ⟨K - s, by omega, by omega, by rw [e1]; grind, by rw [e2]; grind⟩ (by omega)
    · refine side ax ay bx b h ⟨s, by omega, by omega, e1, e2⟩ (by omega)
  have hon : onR [.i (lg r k 0), .i (lg r k 1), .i ax, .i ay, .i bx, .i b] = onB (cx r k) (cy r k) ax ay bx b := onR_eq h3 ha hb
  rw [phI, hpc, hon]
  cases q : onB (cx r k) (cy r k) ax ay bx b with
  | false => simp
  | true =>
    have op : ∀ tx ty, placeB tx ty = true → (∀ M, 0 < M → InP (mulP M (cx r)) (mulP M (cy r)) r.length (M * cx r k + (tx - cx r k)) (M * cy r k + (ty - cy r k))) → opB r k tx ty = true := fun tx ty ht hin => by
      rw [op_iff hr hk' ht]
      obtain ⟨N, hN, near⟩ := near_corner hs hA (prv_lt hk') hk' (nxt_prv hk') tx ty
      rcases Classical.em (OpI (cx r) (cy r) r.length (prv r.length k) k tx ty) with g | g
      · exact g
      · exact absurd (hin N hN) ((near N (Int.le_refl _)).2 g)
    rw [op ax ay ha (fun M hM => segin_to h' (onB_swap q) hM), op bx b hb (fun M hM => segin_to h q hM)]
    simp
end
theorem ho_of_edges {p q : Rows} (hp : polyB p = true) (hq : polyB q = true) (h : EdgesIn (cx p) (cy p) p.length (cx q) (cy q) q.length) : hoX p q = true :=
  hoN_true _ 0 (fun k _ hk => ph_of_in hp (polyB_pl hq (by omega)) (polyB_pl hq (nxt_lt (by omega))) (h k (by omega)))
end Go.Proofs.Ytglepdhapakmbaa
/- Chapter 07: holding is transitive: discs and polygons. -/
namespace Go.Proofs.Ytglepdhapakmbaa
open Go.RowKit
/-- No point of an edge is less than d from c. -/
def Off (X Y : Nat → Int) (n : Nat) (cx cy d : Int) : Prop := ∀ k, k < n → ∀ K x y, 0 < K → Seg (X k) (Y k) (X (nxt n k)) (Y (nxt n k)) K x y → (K * d) * (K * d) ≤ (K * cx - x) * (K * cx - x) + (K * cy - y) * (K * cy - y)
theorem apart_of {px py ax ay bx b d : Int} (h : ∀ K x y, 0 < K → Seg ax ay bx b K x y → (K * d) * (K * d) ≤ (K * px - x) * (K * px - x) + (K * py - y) * (K * py - y)) : apartB px py ax ay bx b d = true := by
  unfold apartB
  have h1 := h 1 (1 * ax) (1 * ay) (by omega) (seg_start _ _ _ _ (by omega))
  have h2 := h 1 (1 * bx) (1 * b) (by omega) (seg_end _ _ _ _ (by omega))
  simp only [Int.one_mul] at h1 h2
  split
  · rw [decide_eq_true_eq]; unfold dist2; exact h1
  · split
    · rw [decide_eq_true_eq]; unfold dist2; exact h2
    · rename_i f1 f2
      rw [decide_eq_true_eq]
      have hl := lagrange (bx - ax) (b - ay) (px - ax) (py - ay)
      have hL : 0 < dist2 ax ay bx b := by omega
      have h3 := h (dist2 ax ay bx b) (dist2 ax ay bx b * ax + dotI ax ay bx b px py * (bx - ax)) (dist2 ax ay bx b * ay + dotI ax ay bx b px py * (b - ay)) hL ⟨dotI ax ay bx b px py, by omega, by omega, rfl, rfl⟩
      have e : (dist2 ax ay bx b * px - (dist2 ax ay bx b * ax + dotI ax ay bx b px py * (bx - ax))) * (dist2 ax ay bx b * px - (dist2 ax ay bx b * ax + dotI ax ay bx b px py * (bx - ax))) + (dist2 ax ay bx b * py - (dist2 ax ay bx b * ay + dotI ax ay bx b px py * (b - ay))) * (dist2 ax ay bx b * py - (dist2 ax ay bx b * ay + dotI ax ay bx b px py * (b - ay))) = dist2 ax ay bx b * (crossI ax ay bx b px py * crossI ax ay bx b px py) := by
        unfold dist2 dotI crossI; grind
      rw [e] at h3
      have e2 : dist2 ax ay bx b * d * (dist2 ax ay bx b * d) = dist2 ax ay bx b * (d * d * dist2 ax ay bx b) := by grind
      rw [e2] at h3
      exact Int.le_of_mul_le_mul_left h3 hL
theorem dis_iff {r : Rows} (hr : polyB r = true) {x y d : Int} (hq : placeB x y = true) (hd : 0 ≤ d ∧ d ≤ 3000000) : disX r x y d = 1 ↔ InP (cx r) (cy r) r.length x y ∧ Off (cx r) (cy r) r.length x y d := by
  rw [disX_one, place_in hr hq, apaN_iff]
  constructor
  · rintro ⟨h1, h2⟩
    refine ⟨h1, fun k hk K u v hK hs => ?_⟩
    have := h2 k (by omega) (by omega)
    rw [apartI_eq hr hq hd hk] at this
    exact apart_seg hK hs this
  · rintro ⟨h1, h2⟩
    refine ⟨h1, fun k _ hk => ?_⟩
    rw [apartI_eq hr hq hd (by omega)]
    exact apart_of (h2 k (by omega))
section
variable {X Y : Nat → Int} {n : Nat}
/-- A polygon about a disc has its points. -/
theorem disc_in (hn : 0 < n) {x y d K u v : Int} (hc : InP X Y n x y) (ho : Off X Y n x y d) (hK : 0 < K) (hl : (K * x - u) * (K * x - u) + (K * y - v) * (K * y - v) ≤ (K * d) * (K * d)) : InP (mulP K X) (mulP K Y) n u v := by
  by_cases hO : OnP (mulP K X) (mulP K Y) n u v
  · exact .inl hO
  have hc' : InP (mulP K X) (mulP K Y) n (K * x) (K * y) := (InP_mul hK).mpr hc
  by_cases hne : K * x = u ∧ K * y = v
  · rw [← hne.1, ← hne.2]; exact hc'
  have hfree : ∀ k, k < n → meetB (K * x) (K * y) u v (mulP K X k) (mulP K Y k) (mulP K X (nxt n k)) (mulP K Y (nxt n k)) = false := fun k hk => by
    cases hm : meetB (K * x) (K * y) u v (mulP K X k) (mulP K Y k) (mulP K X (nxt n k)) (mulP K Y (nxt n k)) with
    | false => rfl
    | true =>
      exfalso
      obtain ⟨L, p, q, hL, ⟨s, s0, s1, e1, e2⟩, g⟩ := common_of_meet hm
      have h3 := ho k hk (L * K) p q (Int.mul_pos hL hK) (seg_mul g hK)
      have e3 : (L * K * x - p) * (L * K * x - p) + (L * K * y - q) * (L * K * y - q) = s * s * ((K * x - u) * (K * x - u) + (K * y - v) * (K * y - v)) := by rw [e1, e2]; grind
      rw [e3] at h3
      have hpos : 0 < (K * x - u) * (K * x - u) + (K * y - v) * (K * y - v) := by
        have := len_ne (ax := u) (ay := v) (bx := K * x) (b := K * y) (fun h => hne ⟨h.1.symm, h.2.symm⟩)
        exact this
      have e4 : L * K * d * (L * K * d) = L * L * (K * d * (K * d)) := by grind
      rw [e4] at h3
      generalize (K * x - u) * (K * x - u) + (K * y - v) * (K * y - v) = R at *
      generalize K * d * (K * d) = Q at *
      have h4 := Int.mul_le_mul_of_nonneg_left hl (show 0 ≤ L * L from Int.mul_nonneg (by omega) (by omega))
      have hsL : s = L := by
        rcases Int.lt_or_le s L with c | c
        · exfalso
          have q1 : s * s < L * L := by
            have a1 := Int.mul_le_mul_of_nonneg_left (show s ≤ L by omega) s0
            have a2 := Int.mul_lt_mul_of_pos_right c hL
            omega
          have q2 := Int.mul_lt_mul_of_pos_right q1 hpos
          omega
        · omega
      subst hsL
      refine hO ⟨k, hk, onB_iff.mpr ⟨s, hL, ?_⟩⟩
      rw [show s * u = p by rw [e1]; grind, show s * v = q by rw [e2]; grind]
      exact g
  rcases hc' with ⟨k, hk, hon⟩ | h1
  · exact (ne_tf (no_on (hfree k hk)).1 hon).elim
  · rw [wind_const hn hfree] at h1; exact .inr h1
/-- A disc has a segment of which it has the ends. -/
theorem seg_disc {ax ay bx b x y r K u v : Int} (h1 : dist2 x y ax ay ≤ r * r) (h2 : dist2 x y bx b ≤ r * r) (hK : 0 < K) (hs : Seg ax ay bx b K u v) : (K * x - u) * (K * x - u) + (K * y - v) * (K * y - v) ≤ (K * r) * (K * r) := by
  obtain ⟨s, s0, s1, rfl, rfl⟩ := hs
  unfold dist2 at h1 h2
  have e : K * ((K - s) * ((ax - x) * (ax - x) + (ay - y) * (ay - y)) + s * ((bx - x) * (bx - x) + (b - y) * (b - y))) - ((K * x - (K * ax + s * (bx - ax))) * (K * x - (K * ax + s * (bx - ax))) + (K * y - (K * ay + s * (b - ay))) * (K * y - (K * ay + s * (b - ay)))) = s * (K - s) * ((bx - ax) * (bx - ax) + (b - ay) * (b - ay)) := by grind
  have a1 := Int.mul_nonneg (Int.mul_nonneg s0 (show 0 ≤ K - s by omega)) (Int.add_nonneg (sq_nn (bx - ax)) (sq_nn (b - ay)))
  have a2 := Int.mul_le_mul_of_nonneg_left h1 (show 0 ≤ K - s by omega)
  have a3 := Int.mul_le_mul_of_nonneg_left h2 s0
  have a4 := Int.mul_le_mul_of_nonneg_left (show (K - s) * ((ax - x) * (ax - x) + (ay - y) * (ay - y)) + s * ((bx - x) * (bx - x) + (b - y) * (b - y)) ≤ (K - s) * (r * r) + s * (r * r) by omega) (show 0 ≤ K by omega)
  have e2 : K * ((K - s) * (r * r) + s * (r * r)) = K * r * (K * r) := by grind
  omega
/-- The triangle's inequality, with a point that is less far. -/
theorem triangle_lt {ux uy vx vy a b : Int} (ha : 0 ≤ a) (hb : 0 ≤ b) (hu : ux * ux + uy * uy < a * a) (hv : vx * vx + vy * vy ≤ b * b) : (ux + vx) * (ux + vx) + (uy + vy) * (uy + vy) < (a + b) * (a + b) := by
  have h0 := Int.mul_le_mul (show ux * ux + uy * uy ≤ a * a by omega) hv (Int.add_nonneg (sq_nn vx) (sq_nn vy)) (sq_nn a)
  have h1 := sq_nn (ux * vy - uy * vx)
  have h2 : ux * vx + uy * vy ≤ a * b := sq_le7 (Int.mul_nonneg ha hb) (by grind)
  grind
theorem off_disc {x2 y2 r2 x3 y3 r3 : Int} (h3 : 0 ≤ r3) (hle : r3 ≤ r2) (hl : dist2 x3 y3 x2 y2 ≤ (r2 - r3) * (r2 - r3)) (ho : Off X Y n x2 y2 r2) : Off X Y n x3 y3 r3 := fun k hk K x y hK hs => by
  have h := ho k hk K x y hK hs
  rcases Int.lt_or_le ((K * x3 - x) * (K * x3 - x) + (K * y3 - y) * (K * y3 - y)) ((K * r3) * (K * r3)) with q | q
  · exfalso
    unfold dist2 at hl
    have hv : (K * (x2 - x3)) * (K * (x2 - x3)) + (K * (y2 - y3)) * (K * (y2 - y3)) ≤ (K * (r2 - r3)) * (K * (r2 - r3)) := by
      have := Int.mul_le_mul_of_nonneg_left hl (show 0 ≤ K * K from Int.mul_nonneg (by omega) (by omega))
      grind
    have ht := triangle_lt (a := K * r3) (b := K * (r2 - r3)) (Int.mul_nonneg (by omega) h3) (Int.mul_nonneg (by omega) (by omega)) q hv
    have e1 : K * x3 - x + K * (x2 - x3) = K * x2 - x := by grind
    have e2 : K * y3 - y + K * (y2 - y3) = K * y2 - y := by grind
    have e3 : K * r3 + K * (r2 - r3) = K * r2 := by grind
    rw [e1, e2, e3] at ht
    omega
  · exact q
/-- A polygon within a disc, about a disc. -/
theorem disc_disc (hn : 0 < n) {x1 y1 r1 x3 y3 r3 : Int} (hr1 : 0 ≤ r1) (hr3 : 0 ≤ r3) (hc : ∀ k, k < n → dist2 x1 y1 (X k) (Y k) ≤ r1 * r1) (hin : InP X Y n x3 y3) (ho : Off X Y n x3 y3 r3) : r3 ≤ r1 ∧ dist2 x3 y3 x1 y1 ≤ (r1 - r3) * (r1 - r3) := by
  -- a point of an edge behind x3, seen from x1
  have ray : ∀ vx vy : Int, ¬ (vx = 0 ∧ vy = 0) → ∃ K t, 0 < K ∧ 0 ≤ t ∧ (K * r3) * (K * r3) ≤ t * t * (vx * vx + vy * vy) ∧ (K * (x3 - x1) + t * vx) * (K * (x3 - x1) + t * vx) + (K * (y3 - y1) + t * vy) * (K * (y3 - y1) + t * vy) ≤ (K * r1) * (K * r1) := fun vx vy hv => by
    obtain ⟨a1, L1, hb1⟩ := all_bound X n
    obtain ⟨a2, L2, hb2⟩ := all_bound Y n
    obtain ⟨T, hT⟩ : ∃ T : Int, T = max x3 (-x3) + max y3 (-y3) + max a1 (-a1) + L1 + (max a2 (-a2) + L2) + 1 := ⟨_, rfl⟩
    have mv : ∀ v : Int, 0 < v → T ≤ T * v := fun v hv => by
      have := Int.mul_le_mul_of_nonneg_left (show 1 ≤ v by omega) (show 0 ≤ T by omega)
      omega
    have mvn : ∀ v : Int, v < 0 → T * v ≤ -T := fun v hv => by
      have := Int.mul_le_mul_of_nonneg_left (show v ≤ -1 by omega) (show 0 ≤ T by omega)
      omega
    have hfar : wind X Y n (x3 + T * vx) (y3 + T * vy) = 0 := by
      rcases Int.lt_trichotomy vx 0 with q | q | q
      · have := mvn vx q
        exact (left_out hn (fun k hk => by have := hb1 k hk; omega)).2
      · rcases Int.lt_trichotomy vy 0 with w | w | w
        · have := mvn vy w
          refine sumZ_zero n (fun k hk => ?_)
          have := hb2 k hk
          have := hb2 _ (nxt_lt hk)
          rw [sE_eq]
          (repeat' split) <;> omega
        · exact absurd ⟨q, w⟩ hv
        · have := mv vy w
          refine sumZ_zero n (fun k hk => ?_)
          have := hb2 k hk
          have := hb2 _ (nxt_lt hk)
          rw [sE_eq]
          (repeat' split) <;> omega
      · have := mv vx q
        exact sumZ_zero n (fun k hk => sE_right (by have := hb1 k hk; omega) (by have := hb1 _ (nxt_lt hk); omega))
    have hex : ∃ k, k < n ∧ meetB x3 y3 (x3 + T * vx) (y3 + T * vy) (X k) (Y k) (X (nxt n k)) (Y (nxt n k)) = true := by
      rcases Classical.em (∃ k, k < n ∧ meetB x3 y3 (x3 + T * vx) (y3 + T * vy) (X k) (Y k) (X (nxt n k)) (Y (nxt n k)) = true) with g | g
      · exact g
      · exfalso
        have hf : ∀ k, k < n → meetB x3 y3 (x3 + T * vx) (y3 + T * vy) (X k) (Y k) (X (nxt n k)) (Y (nxt n k)) = false := fun k hk => by
          cases q : meetB x3 y3 (x3 + T * vx) (y3 + T * vy) (X k) (Y k) (X (nxt n k)) (Y (nxt n k)) with
          | false => rfl
          | true => exact (g ⟨k, hk, q⟩).elim
        rcases hin with ⟨k, hk, hon⟩ | h1
        · exact ne_tf (no_on (hf k hk)).1 hon
        · rw [wind_const hn hf, hfar] at h1; exact h1 rfl
    obtain ⟨k, hk, hm⟩ := hex
    obtain ⟨K, x, y, hK, ⟨s, s0, s1, e1, e2⟩, g⟩ := common_of_meet hm
    have g1 := ho k hk K x y hK g
    have g2 := seg_disc (hc k hk) (hc _ (nxt_lt hk)) hK g
    refine ⟨K, s * T, hK, Int.mul_nonneg s0 (by omega), ?_, ?_⟩
    · have : (K * x3 - x) * (K * x3 - x) + (K * y3 - y) * (K * y3 - y) = s * T * (s * T) * (vx * vx + vy * vy) := by rw [e1, e2]; grind
      omega
    · have : (K * x1 - x) * (K * x1 - x) + (K * y1 - y) * (K * y1 - y) = (K * (x3 - x1) + s * T * vx) * (K * (x3 - x1) + s * T * vx) + (K * (y3 - y1) + s * T * vy) * (K * (y3 - y1) + s * T * vy) := by rw [e1, e2]; grind
      omega
  have sqK : ∀ K a b : Int, 0 < K → 0 ≤ b → (K * a) * (K * a) ≤ (K * b) * (K * b) → a ≤ b := fun K a b hK hb h => by
    have := sq_le7 (Int.mul_nonneg (show 0 ≤ K by omega) hb) h
    exact Int.le_of_mul_le_mul_left this hK
  by_cases hv : x3 - x1 = 0 ∧ y3 - y1 = 0
  · obtain ⟨K, t, hK, ht, h1, h2⟩ := ray 1 0 (by omega)
    rw [hv.1, hv.2] at h2
    have hle : r3 ≤ r1 := sqK K r3 r1 hK hr1 (by grind)
    refine ⟨hle, ?_⟩
    unfold dist2
    rw [show x1 - x3 = 0 by omega, show y1 - y3 = 0 by omega]
    have := sq_nn (r1 - r3)
    omega
  · obtain ⟨K, t, hK, ht, h1, h2⟩ := ray (x3 - x1) (y3 - y1) hv
    have hV : dist2 x3 y3 x1 y1 = (x3 - x1) * (x3 - x1) + (y3 - y1) * (y3 - y1) := by unfold dist2; grind
    have e2 : (K * (x3 - x1) + t * (x3 - x1)) * (K * (x3 - x1) + t * (x3 - x1)) + (K * (y3 - y1) + t * (y3 - y1)) * (K * (y3 - y1) + t * (y3 - y1)) = (K + t) * (K + t) * ((x3 - x1) * (x3 - x1) + (y3 - y1) * (y3 - y1)) := by grind
    rw [e2] at h2
    rw [hV]
    have hV0 : 0 ≤ (x3 - x1) * (x3 - x1) + (y3 - y1) * (y3 - y1) := Int.add_nonneg (sq_nn _) (sq_nn _)
    generalize (x3 - x1) * (x3 - x1) + (y3 - y1) * (y3 - y1) = V at *
    have q0 : t * t * V ≤ (K + t) * (K + t) * V := Int.mul_le_mul_of_nonneg_right (Int.mul_le_mul (by omega) (by omega) ht (by omega)) hV0
    have hle : r3 ≤ r1 := sqK K r3 r1 hK hr1 (by omega)
    refine ⟨hle, ?_⟩
    rcases Int.lt_or_le ((r1 - r3) * (r1 - r3)) V with q | q
    · exfalso
      have hKK := Int.mul_pos hK hK
      have a1 := Int.mul_lt_mul_of_pos_left q hKK
      -- K t V is at least K K (r1 - r3) r3
      have a2 : (K * (r1 - r3) * (K * r3)) * (K * (r1 - r3) * (K * r3)) ≤ (K * t * V) * (K * t * V) := by
        have b1 : (K * (r1 - r3)) * (K * (r1 - r3)) ≤ K * K * V := by
          have : K * (r1 - r3) * (K * (r1 - r3)) = K * K * ((r1 - r3) * (r1 - r3)) := by grind
          omega
        have b2 := Int.mul_le_mul b1 h1 (sq_nn _) (Int.mul_nonneg (by omega) hV0)
        have c1 : (K * (r1 - r3) * (K * r3)) * (K * (r1 - r3) * (K * r3)) = K * (r1 - r3) * (K * (r1 - r3)) * (K * r3 * (K * r3)) := by grind
        have c2 : (K * t * V) * (K * t * V) = K * K * V * (t * t * V) := by grind
        omega
      have a3 : K * (r1 - r3) * (K * r3) ≤ K * t * V := sq_le7 (Int.mul_nonneg (Int.mul_nonneg (by omega) ht) hV0) a2
      have e5 : (K + t) * (K + t) * V = K * K * V + 2 * (K * t * V) + t * t * V := by grind
      have e6 : K * r1 * (K * r1) = K * K * ((r1 - r3) * (r1 - r3)) + 2 * (K * (r1 - r3) * (K * r3)) + K * r3 * (K * r3) := by grind
      omega
    · exact q
end
end Go.Proofs.Ytglepdhapakmbaa
/- Chapter 07: the law FeatureHolds. -/
namespace Go.Proofs.Ytglepdhapakmbaa
open Go.RowKit
theorem strict_near {p q R : Int} (h : p * p + q * q < R) (u v : Int) : ∃ N : Int, 0 < N ∧ ∀ M, N ≤ M → (M * p - u) * (M * p - u) + (M * q - v) * (M * q - v) < M * M * R := by
  have hs : 0 ≤ u * u + v * v := Int.add_nonneg (sq_nn u) (sq_nn v)
  refine ⟨2 * max (p * u + q * v) (-(p * u + q * v)) + (u * u + v * v) + 1, by omega, fun M hM => ?_⟩
  have hM0 : 0 < M := by omega
  have e : (M * p - u) * (M * p - u) + (M * q - v) * (M * q - v) = M * M * (p * p + q * q) + M * (-2 * (p * u + q * v)) + (u * u + v * v) := by grind
  rw [e]
  generalize p * p + q * q = Q at *
  generalize p * u + q * v = W at *
  generalize u * u + v * v = S at *
  have h1 := Int.mul_le_mul_of_nonneg_left (show Q + 1 ≤ R by omega) (show 0 ≤ M * M from Int.mul_nonneg (by omega) (by omega))
  have h2 := Int.mul_le_mul_of_nonneg_left (show -2 * W + S + 1 ≤ M by omega) (show 0 ≤ M by omega)
  have h3 := Int.mul_le_mul_of_nonneg_left (show 1 ≤ M by omega) hs
  have e2 : M * (-2 * W + S + 1) = M * (-2 * W) + S * M + M := by grind
  rw [Int.mul_add] at h1
  omega
section
variable {X Y : Nat → Int} {n : Nat} {A B : Nat → Int} {m : Nat}
theorem off_inner (hp : Simple X Y n) (ha : 0 < area2 X Y n) (hf : First X Y n) (hm : 0 < m) (hE : EdgesIn X Y n A B m) {cx0 cy0 d : Int} (hc : InP A B m cx0 cy0) (ho : Off A B m cx0 cy0 d) {k : Nat} (hk : k < n) {K s x y : Int} (hK : 0 < K)
    (hs : 0 < s) {L : Int} (hsL : s < L) (hon : On' L s (mulP K X k) (mulP K Y k) (mulP K X (nxt n k)) (mulP K Y (nxt n k)) x y) (hlt : (K * cx0 - x) * (K * cx0 - x) + (K * cy0 - y) * (K * cy0 - y) < (K * d) * (K * d)) : False := by
  obtain ⟨N1, hN1, near⟩ := near_edge (simple_mul hK hp) (area2_mul hK ha) hk hs hsL hon (Y (nxt n k) - Y k) (-(X (nxt n k) - X k))
  obtain ⟨N2, hN2, strict⟩ := strict_near hlt (Y (nxt n k) - Y k) (-(X (nxt n k) - X k))
  have hM : 0 < max N1 N2 := by omega
  have h1 := near (max N1 N2) (by omega)
  have h2 := strict (max N1 N2) (by omega)
  generalize max N1 N2 = M at *
  have hl := len_ne (edge_ne hp hk)
  have hcr : (mulP K X (nxt n k) - mulP K X k) * -(X (nxt n k) - X k) - (mulP K Y (nxt n k) - mulP K Y k) * (Y (nxt n k) - Y k) < 0 := by
    have e : (mulP K X (nxt n k) - mulP K X k) * -(X (nxt n k) - X k) - (mulP K Y (nxt n k) - mulP K Y k) * (Y (nxt n k) - Y k) = K * -((X (nxt n k) - X k) * (X (nxt n k) - X k) + (Y (nxt n k) - Y k) * (Y (nxt n k) - Y k)) := by unfold mulP; grind
    rw [e]
    exact Int.mul_neg_of_pos_of_neg hK (by omega)
  have h3 := h1.1 (by omega)
  rw [if_neg (by omega)] at h3
  have hMK := Int.mul_pos hM hK
  have hq : InP (mulP (M * K) A) (mulP (M * K) B) m (M * x + (Y (nxt n k) - Y k)) (M * y + -(X (nxt n k) - X k)) := disc_in hm hc ho hMK (by
    have e1 : (M * K * cx0 - (M * x + (Y (nxt n k) - Y k))) = M * (K * cx0 - x) - (Y (nxt n k) - Y k) := by grind
    have e2 : (M * K * cy0 - (M * y + -(X (nxt n k) - X k))) = M * (K * cy0 - y) - -(X (nxt n k) - X k) := by grind
    have e3 : M * K * d * (M * K * d) = M * M * (K * d * (K * d)) := by grind
    rw [e1, e2, e3]
    omega)
  have hfm : First (mulP (M * K) X) (mulP (M * K) Y) n := fun i hi => by
    unfold mulP
    rcases hf i hi with g | ⟨g1, g2⟩
    · exact .inl (Int.mul_lt_mul_of_pos_left g hMK)
    · exact .inr ⟨by rw [g1], Int.mul_le_mul_of_nonneg_left g2 (by omega)⟩
  have hp' := inside (simple_mul hMK hp) (area2_mul hMK ha) hfm hm (edges_mul hE hMK) hq
  rw [← mulP_mulP, ← mulP_mulP] at hp'
  rcases hp' with g | g
  · exact h3.2 g
  · exact g h3.1
/-- A disc in a polygon in a polygon. -/
theorem off_sub (hp : Simple X Y n) (ha : 0 < area2 X Y n) (hf : First X Y n) (hm : 0 < m) (hE : EdgesIn X Y n A B m) {cx0 cy0 d : Int} (hc : InP A B m cx0 cy0) (ho : Off A B m cx0 cy0 d) : Off X Y n cx0 cy0 d := fun k hk K x y hK hs => by
  rcases Int.lt_or_le ((K * cx0 - x) * (K * cx0 - x) + (K * cy0 - y) * (K * cy0 - y)) ((K * d) * (K * d)) with q | q
  · exfalso
    obtain ⟨t, t0, t1, e1, e2⟩ := hs
    -- at an end: a little inward
    have ends : ∀ u v : Int, (∀ M : Int, 2 ≤ M → ∃ s L, 0 < s ∧ s < L ∧ On' L s (mulP (M * K) X k) (mulP (M * K) Y k) (mulP (M * K) X (nxt n k)) (mulP (M * K) Y (nxt n k)) (M * x + u) (M * y + v)) → False := fun u v hin => by
      obtain ⟨N, hN, strict⟩ := strict_near q u v
      obtain ⟨s, L, s0, sL, hon⟩ := hin (max N 2) (by omega)
      have hst := strict (max N 2) (by omega)
      have hM : 0 < max N 2 := by omega
      generalize max N 2 = M at *
      refine off_inner hp ha hf hm hE hc ho hk (Int.mul_pos hM hK) s0 sL hon ?_
      have g1 : (M * K * cx0 - (M * x + u)) = M * (K * cx0 - x) - u := by grind
      have g2 : (M * K * cy0 - (M * y + v)) = M * (K * cy0 - y) - v := by grind
      have g3 : M * K * d * (M * K * d) = M * M * (K * d * (K * d)) := by grind
      rw [g1, g2, g3]
      omega
    by_cases h0 : t = 0
    · subst h0
      refine ends (X (nxt n k) - X k) (Y (nxt n k) - Y k) (fun M hM => ⟨1, M * K, by omega, ?_, ?_⟩)
      · have := Int.mul_le_mul_of_nonneg_left (show 1 ≤ K by omega) (show 0 ≤ M by omega)
        omega
      · unfold mulP
        exact ⟨by rw [e1]; grind, by rw [e2]; grind⟩
    · by_cases hK' : t = K
      · subst hK'
        refine ends (-(X (nxt n k) - X k)) (-(Y (nxt n k) - Y k)) (fun M hM => ⟨M * t - 1, M * t, ?_, by omega, ?_⟩)
        · have := Int.mul_le_mul_of_nonneg_left (show 1 ≤ t by omega) (show 0 ≤ M by omega)
          omega
        · unfold mulP
          exact ⟨by rw [e1]; grind, by rw [e2]; grind⟩
      · refine off_inner hp ha hf hm hE hc ho hk hK (show 0 < t by omega) (show t < K by omega) ?_ q
        unfold mulP
        exact ⟨by rw [e1]; grind, by rw [e2]; grind⟩
  · exact q
/-- Edges in a polygon in a polygon. -/
theorem edges_trans {C D : Nat → Int} {l : Nat} (hp : Simple X Y n) (ha : 0 < area2 X Y n) (hf : First X Y n) (hm : 0 < m) (h1 : EdgesIn X Y n A B m) (h2 : EdgesIn A B m C D l) : EdgesIn X Y n C D l := fun i hi K x y hK hs => by
  have hq := h2 i hi K x y hK hs
  have hfm : First (mulP K X) (mulP K Y) n := fun i hi => by
    unfold mulP
    rcases hf i hi with g | ⟨g1, g2⟩
    · exact .inl (Int.mul_lt_mul_of_pos_left g hK)
    · exact .inr ⟨by rw [g1], Int.mul_le_mul_of_nonneg_left g2 (by omega)⟩
  exact inside (simple_mul hK hp) (area2_mul hK ha) hfm hm (edges_mul h1 hK) hq
end
end Go.Proofs.Ytglepdhapakmbaa
