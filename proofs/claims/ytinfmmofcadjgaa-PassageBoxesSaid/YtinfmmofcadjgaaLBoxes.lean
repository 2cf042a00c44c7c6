/- LBoxes, merged: Lb, Lx. -/
import Derived.Test.YtinfmmofcadjgaaLZones
set_option linter.unusedSimpArgs false
set_option linter.unusedVariables false
/- Chapter 38: the law PassageBoxes: what it says of boxes. -/
namespace Go.Proofs.Ytinfmmofcadjgaa
open Go.RowKit
theorem con_iff {r : Rows} {a b c d off : Int} : ∀ (f j : Nat), conFrom r a b c d off f j = true ↔ ∃ i : Nat, j ≤ i ∧ i < j + f ∧ legCon r i a b c d off = true
  | 0, j => by
    rw [conFrom]
    constructor
    · intro h; cases h
    · rintro ⟨i, h1, h2, _⟩; omega
  | f + 1, j => by
    rw [conFrom, Bool.or_eq_true, con_iff f (j + 1)]
    constructor
    · rintro (h | ⟨i, h1, h2, h3⟩)
      · exact ⟨j, by omega, by omega, h⟩
      · exact ⟨i, by omega, by omega, h3⟩
    · rintro ⟨i, h1, h2, h3⟩
      by_cases e : i = j
      · subst e; exact .inl h3
      · exact .inr ⟨i, by omega, by omega, h3⟩
/-- What is at most off from an edge of a box is at most off from a greater box's border, or begins in it. -/
theorem clo_more {ax ay bx by' cx cy dx dy a b c d r : Int} (hab : a ≤ b) (hcd : c ≤ d) (h : Clo ax ay bx by' cx cy dx dy r) (h1 : a ≤ min cx dx) (h2 : max cx dx ≤ b) (h3 : c ≤ min cy dy) (h4 : max cy dy ≤ d) :
    (a ≤ ax ∧ ax ≤ b ∧ c ≤ ay ∧ ay ≤ d) ∨ CloBox ax ay bx by' a b c d r := by
  obtain ⟨k, x, y, u, v, hk, hs, ht, hq⟩ := h
  exact box_near hk hab hcd hs (seg_ge ht (by omega) (by omega)) (seg_le ht (by omega) (by omega)) (seg_ge (seg_flip ht) (by omega) (by omega)) (seg_le (seg_flip ht) (by omega) (by omega)) hq
theorem legCon_more {r : Rows} {k a b c d e f g h off : Int} (hl : legB r k = true) (hb : boxB a b c d = true) (hm : boxB e f g h = true) (ho : 0 ≤ off ∧ off ≤ 100000) (hw : e ≤ a ∧ b ≤ f ∧ g ≤ c ∧ d ≤ h)
    (hc : legCon r k a b c d off = true) : legCon r k e f g h off = true := by
  rw [legCon_iff hl hb ho] at hc
  rw [legCon_iff hl hm ho]
  obtain ⟨_, _, _, _, q1, q2⟩ := boxB_places hb
  obtain ⟨_, _, _, _, q3, q4⟩ := boxB_places hm
  rcases hc with hc | hc | hc | hc | hc
  · left; omega
  all_goals exact clo_more q3 q4 hc (by omega) (by omega) (by omega) (by omega)
theorem boxes_more {a b c : Int} {r : Rows} {x y z w e f g h k : Int} (h0 : conE (pkb a b c r x y z w k) = 0) (h1 : uniE [.i x, .i y, .i z, .i w, .i e, .i f, .i g, .i h] = 0) (h2 : withinR [.i x, .i y, .i z, .i w, .i e, .i f, .i g, .i h] = true) :
    conE (pkb a b c r e f g h k) = 0 ∧ (conR (pkb a b c r x y z w k) = true → conR (pkb a b c r e f g h k) = true) := by
  rw [withinR_oct, Bool.and_eq_true, Bool.and_eq_true, decide_eq_true_eq] at h2
  obtain ⟨⟨hb, hm⟩, hw⟩ := h2
  have hO : conO (pkb a b c r x y z w k) = true := by
    rw [conE_pkb] at h0
    cases q : conO (pkb a b c r x y z w k)
    · rw [q] at h0; exact absurd h0 (by decide)
    · rfl
  have hO' : conO (pkb a b c r e f g h k) = true := by
    rw [conO_pkb] at hO ⊢
    rw [hb] at hO
    rw [hm]
    exact hO
  refine ⟨by rw [conE_pkb, hO']; rfl, fun hc => ?_⟩
  rw [conR_pkb, Bool.and_eq_true, con_iff] at hc
  obtain ⟨_, i, i1, i2, i3⟩ := hc
  rw [conR_pkb, Bool.and_eq_true, con_iff]
  rw [conO_pkb, Bool.and_eq_true, Bool.and_eq_true, decide_eq_true_eq] at hO
  obtain ⟨p1, p2, p3, p4⟩ := psgB_iff hO.1.1
  exact ⟨hO', i, i1, i2, legCon_more (p4 i (by omega)) hb hm (by omega) hw i3⟩
theorem boxes_earlier {a b c : Int} {r : Rows} {x y z w k l : Int} (h1 : conE (pkb a b c r x y z w l) = 0) (hkl : l ≤ k) (hc : conR (pkb a b c r x y z w k) = true) : conR (pkb a b c r x y z w l) = true := by
  have hO' : conO (pkb a b c r x y z w l) = true := by
    rw [conE_pkb] at h1
    cases q : conO (pkb a b c r x y z w l)
    · rw [q] at h1; exact absurd h1 (by decide)
    · rfl
  rw [conR_pkb, Bool.and_eq_true, con_iff] at hc
  obtain ⟨hO, i, i1, i2, i3⟩ := hc
  rw [conR_pkb, Bool.and_eq_true, con_iff]
  rw [conO_pkb, Bool.and_eq_true, Bool.and_eq_true, decide_eq_true_eq] at hO
  have hO2 := hO'
  rw [conO_pkb, Bool.and_eq_true, Bool.and_eq_true, decide_eq_true_eq] at hO2
  exact ⟨hO', i, by omega, by omega, i3⟩

/-! ### The polygon of a box -/
def rect (a b c d : Int) : Rows := [[.i a, .i c], [.i b, .i c], [.i b, .i d], [.i a, .i d]]
section
variable {a b c d : Int}
theorem rect_len : (rect a b c d).length = 4 := rfl
theorem rect_c : cx (rect a b c d) 0 = a ∧ cx (rect a b c d) 1 = b ∧ cx (rect a b c d) 2 = b ∧ cx (rect a b c d) 3 = a ∧ cy (rect a b c d) 0 = c ∧ cy (rect a b c d) 1 = c ∧ cy (rect a b c d) 2 = d ∧ cy (rect a b c d) 3 = d := ⟨rfl, rfl, rfl, rfl, rfl, rfl, rfl, rfl⟩
theorem sep_y {px py qx qy rx ry sx sy : Int} (h : max py qy < min ry sy ∨ max ry sy < min py qy) : meetB px py qx qy rx ry sx sy = false := by
  cases hm : meetB px py qx qy rx ry sx sy with
  | false => rfl
  | true =>
    obtain ⟨k, x, y, hk, h1, h2⟩ := common_of_meet hm
    have y1 := seg_le (seg_flip h1) (Int.le_max_left py qy) (Int.le_max_right py qy)
    have y2 := seg_ge (seg_flip h1) (Int.min_le_left py qy) (Int.min_le_right py qy)
    have y3 := seg_le (seg_flip h2) (Int.le_max_left ry sy) (Int.le_max_right ry sy)
    have y4 := seg_ge (seg_flip h2) (Int.min_le_left ry sy) (Int.min_le_right ry sy)
    have q1 := Int.le_of_mul_le_mul_left (Int.le_trans y2 y3) hk
    have q2 := Int.le_of_mul_le_mul_left (Int.le_trans y4 y1) hk
    omega
theorem sep_x {px py qx qy rx ry sx sy : Int} (h : max px qx < min rx sx ∨ max rx sx < min px qx) : meetB px py qx qy rx ry sx sy = false := by
  cases hm : meetB px py qx qy rx ry sx sy with
  | false => rfl
  | true =>
    obtain ⟨k, x, y, hk, h1, h2⟩ := common_of_meet hm
    have y1 := seg_le h1 (Int.le_max_left px qx) (Int.le_max_right px qx)
    have y2 := seg_ge h1 (Int.min_le_left px qx) (Int.min_le_right px qx)
    have y3 := seg_le h2 (Int.le_max_left rx sx) (Int.le_max_right rx sx)
    have y4 := seg_ge h2 (Int.min_le_left rx sx) (Int.min_le_right rx sx)
    have q1 := Int.le_of_mul_le_mul_left (Int.le_trans y2 y3) hk
    have q2 := Int.le_of_mul_le_mul_left (Int.le_trans y4 y1) hk
    omega
theorem rect_poly (hb : boxB a b c d = true) (h1 : a < b) (h2 : c < d) : polyB (rect a b c d) = true := by
  obtain ⟨p1, p2, p3, p4, _⟩ := boxB_places hb
  rw [boxB_t] at hb
  have hA : (1 : Int) ≤ (b - a) * (d - c) := Int.mul_pos (show 0 < b - a by omega) (show 0 < d - c by omega)
  have t1 : turnR [.i a, .i d, .i a, .i c, .i b, .i c] ≠ 0 := by
    rw [turnR_eq p1 p2 p3]; unfold turnI; rw [ne_eq, sgn0]; unfold crossI; grind
  have t2 : turnR [.i a, .i c, .i b, .i c, .i b, .i d] ≠ 0 := by
    rw [turnR_eq p2 p3 p4]; unfold turnI; rw [ne_eq, sgn0]; unfold crossI; grind
  have t3 : turnR [.i b, .i c, .i b, .i d, .i a, .i d] ≠ 0 := by
    rw [turnR_eq p3 p4 p1]; unfold turnI; rw [ne_eq, sgn0]; unfold crossI; grind
  have t4 : turnR [.i b, .i d, .i a, .i d, .i a, .i c] ≠ 0 := by
    rw [turnR_eq p4 p1 p2]; unfold turnI; rw [ne_eq, sgn0]; unfold crossI; grind
  have o1 : orderI a c b c < 0 := by unfold orderI; rw [if_pos h1]; decide
  have o2 : orderI a c b d < 0 := by unfold orderI; rw [if_pos h1]; decide
  have o3 : orderI a c a d < 0 := by unfold orderI; rw [if_neg (by omega), if_neg (by omega), if_pos h2]; decide
  have m1 : meetR [.i a, .i c, .i b, .i c, .i b, .i d, .i a, .i d] = false := by
    unfold meetR; rw [show meetL [.i a, .i c, .i b, .i c, .i b, .i d, .i a, .i d] = meetB a c b c b d a d from rfl, sep_y (by omega), Bool.and_false]
  have m2 : meetR [.i b, .i c, .i b, .i d, .i a, .i d, .i a, .i c] = false := by
    unfold meetR; rw [show meetL [.i b, .i c, .i b, .i d, .i a, .i d, .i a, .i c] = meetB b c b d a d a c from rfl, sep_x (by omega), Bool.and_false]
  have c0 : cornOk (rect a b c d) 0 = true := by
    show (!(decide (0 < 0) && _) && !decide (turnR [.i a, .i d, .i a, .i c, .i b, .i c] = 0)) = true
    rw [decide_eq_false t1]; rfl
  have c1 : cornOk (rect a b c d) 1 = true := by
    show (!(decide (0 < 1) && decide (0 ≤ orderI a c b c)) && !decide (turnR [.i a, .i c, .i b, .i c, .i b, .i d] = 0)) = true
    rw [decide_eq_false t2, decide_eq_false (p := 0 ≤ orderI a c b c) (by omega)]; rfl
  have c2 : cornOk (rect a b c d) 2 = true := by
    show (!(decide (0 < 2) && decide (0 ≤ orderI a c b d)) && !decide (turnR [.i b, .i c, .i b, .i d, .i a, .i d] = 0)) = true
    rw [decide_eq_false t3, decide_eq_false (p := 0 ≤ orderI a c b d) (by omega)]; rfl
  have c3 : cornOk (rect a b c d) 3 = true := by
    show (!(decide (0 < 3) && decide (0 ≤ orderI a c a d)) && !decide (turnR [.i b, .i d, .i a, .i d, .i a, .i c] = 0)) = true
    rw [decide_eq_false t4, decide_eq_false (p := 0 ≤ orderI a c a d) (by omega)]; rfl
  have s : simpleN (rect a b c d) 4 0 = true := by
    have e02 : meetE2 (rect a b c d) 0 2 = false := m1
    have e13 : meetE2 (rect a b c d) 1 3 = false := m2
    have k02 : pairOk (rect a b c d) 0 2 = true := by unfold pairOk; rw [e02, Bool.not_false, Bool.or_true]
    have k13 : pairOk (rect a b c d) 1 3 = true := by unfold pairOk; rw [e13, Bool.not_false, Bool.or_true]
    have others : ∀ i k, (k ≤ i + 1 ∨ (i = 0 ∧ k + 1 = 4)) → pairOk (rect a b c d) i k = true := fun i k h => by
      unfold pairOk; rw [decide_eq_true (show k ≤ i + 1 ∨ (i = 0 ∧ k + 1 = (rect a b c d).length) from h)]; rfl
    simp only [simpleN, rowN, rect_len, k02, k13, others 0 0 (by omega), others 0 1 (by omega), others 0 3 (by omega), others 1 0 (by omega), others 1 1 (by omega), others 1 2 (by omega), others 2 0 (by omega), others 2 1 (by omega), others 2 2 (by omega), others 2 3 (by omega), others 3 0 (by omega), others 3 1 (by omega), others 3 2 (by omega), others 3 3 (by omega), Bool.and_self, Bool.and_true]
  have w : ∀ {u v : Int}, -1000000 ≤ u ∧ u ≤ 1000000 → -1000000 ≤ v ∧ v ≤ 1000000 → -1000000000000 ≤ u * v ∧ u * v ≤ 1000000000000 := fun h1 h2 => by
    have := mul_abs (A := 1000000) (B := 1000000) h1.1 h1.2 h2.1 h2.2; omega
  have ba : -1000000 ≤ a ∧ a ≤ 1000000 := by omega
  have bb : -1000000 ≤ b ∧ b ≤ 1000000 := by omega
  have bc : -1000000 ≤ c ∧ c ≤ 1000000 := by omega
  have bd : -1000000 ≤ d ∧ d ≤ 1000000 := by omega
  have q1 := w ba bc
  have q2 := w bc bb
  have q3 := w bb bd
  have q4 := w bc bb
  have q5 := w bd ba
  have q6 := w bb bc
  have q7 := w ba bd
  have q8 := w bd bb
  have q9 := w bc ba
  have t : 0 < twiceN (rect a b c d) 4 0 0 := by
    show 0 < IntKind.i64.wrap (IntKind.i64.wrap (IntKind.i64.wrap (IntKind.i64.wrap (0 + IntKind.i64.wrap (IntKind.i64.wrap (a * c) - IntKind.i64.wrap (c * b))) + IntKind.i64.wrap (IntKind.i64.wrap (b * d) - IntKind.i64.wrap (c * b))) + IntKind.i64.wrap (IntKind.i64.wrap (b * d) - IntKind.i64.wrap (d * a))) + IntKind.i64.wrap (IntKind.i64.wrap (a * c) - IntKind.i64.wrap (d * a)))
    rw [wrap_in (a * c) (by omega) (by omega), wrap_in (c * b) (by omega) (by omega), wrap_in (b * d) (by omega) (by omega), wrap_in (d * a) (by omega) (by omega),
      wrap_in (a * c - c * b) (by omega) (by omega), wrap_in (b * d - c * b) (by omega) (by omega), wrap_in (b * d - d * a) (by omega) (by omega), wrap_in (a * c - d * a) (by omega) (by omega),
      wrap_in (0 + (a * c - c * b)) (by omega) (by omega), wrap_in (0 + (a * c - c * b) + (b * d - c * b)) (by omega) (by omega), wrap_in (0 + (a * c - c * b) + (b * d - c * b) + (b * d - d * a)) (by omega) (by omega), wrap_in _ (by omega) (by omega)]
    grind
  unfold polyB
  rw [rect_len, s, decide_eq_true t]
  have pl : plN (rect a b c d) 4 0 = true := by
    show (placeB a c && (placeB b c && (placeB b d && (placeB a d && true)))) = true
    rw [p1, p2, p3, p4]; rfl
  have co : cornN (rect a b c d) 4 0 = true := by
    show (cornOk (rect a b c d) 0 && (cornOk (rect a b c d) 1 && (cornOk (rect a b c d) 2 && (cornOk (rect a b c d) 3 && true)))) = true
    rw [c0, c1, c2, c3]; rfl
  rw [pl, co]
  rfl
theorem rect_in (hb : boxB a b c d = true) (h1 : a < b) (h2 : c < d) {x y : Int} (hq : placeB x y = true) : 0 ≤ placeN (rect a b c d) x y 4 0 false ↔ (a ≤ x ∧ x ≤ b ∧ c ≤ y ∧ y ≤ d) := by
  have hp := rect_poly hb h1 h2
  constructor
  · intro h
    have := in_box hp hq (a := a) (b := b) (c := c) (d := d) (fun k hk => by
      obtain ⟨e0, e1, e2, e3, f0, f1, f2, f3⟩ := @rect_c a b c d
      have hk' : k = 0 ∨ k = 1 ∨ k = 2 ∨ k = 3 := by rw [rect_len] at hk; omega
      rcases hk' with rfl | rfl | rfl | rfl
      · rw [e0, f0]; omega
      · rw [e1, f1]; omega
      · rw [e2, f2]; omega
      · rw [e3, f3]; omega) h
    omega
  · intro h
    rw [placeN_eq hp hq 4 0 false rfl]
    cases ho : onN (rect a b c d) x y 4 0 with
    | true => simp
    | false =>
      have ho' : (onB x y a c b c || (onB x y b c b d || (onB x y b d a d || (onB x y a d a c || false)))) = false := ho
      simp only [Bool.or_eq_false_iff] at ho'
      obtain ⟨n1, n2, n3, n4, _⟩ := ho'
      have y1 : y ≠ c := fun e => by
        rw [on_of_x (by subst e; unfold crossI; grind) (by omega) (by omega) (by omega)] at n1; exact absurd n1 (by decide)
      have x1 : x ≠ b := fun e => by
        rw [on_of_y (by subst e; unfold crossI; grind) (by omega) (by omega) (by omega)] at n2; exact absurd n2 (by decide)
      have y2 : y ≠ d := fun e => by
        rw [on_of_x (by subst e; unfold crossI; grind) (by omega) (by omega) (by omega)] at n3; exact absurd n3 (by decide)
      have x2 : x ≠ a := fun e => by
        rw [on_of_y (by subst e; unfold crossI; grind) (by omega) (by omega) (by omega)] at n4; exact absurd n4 (by decide)
      have e0 : crossP x y a c b c = false := by unfold crossP; rw [if_neg (by omega)]; exact decide_eq_false (by omega)
      have e1 : crossP x y b c b d = true := by
        unfold crossP; rw [if_neg (by omega)]
        have := Int.mul_pos (show 0 < d - c by omega) (show 0 < b - x by omega)
        exact decide_eq_true ⟨by omega, by omega, by unfold crossI; grind⟩
      have e2 : crossP x y b d a d = false := by unfold crossP; rw [if_neg (by omega)]; exact decide_eq_false (by omega)
      have e3 : crossP x y a d a c = false := by
        unfold crossP; rw [if_pos (by omega)]
        have := Int.mul_pos (show 0 < d - c by omega) (show 0 < x - a by omega)
        exact decide_eq_false (fun g => by have := g.2.2; unfold crossI at this; grind)
      have : parN (rect a b c d) x y 4 0 = (crossP x y a c b c ^^ (crossP x y b c b d ^^ (crossP x y b d a d ^^ (crossP x y a d a c ^^ false)))) := rfl
      rw [this, e0, e1, e2, e3]
      decide
end
/-- A ship can be near the area of a box exactly if the box concerns it. -/
theorem near_rect {r : Rows} {k off a b c d : Int} (hl : legB r k = true) (ho : 0 ≤ off ∧ off ≤ 100000) (hb : boxB a b c d = true) (h1 : a < b) (h2 : c < d) : nearX r k off 3 0 0 0 (rect a b c d) = legCon r k a b c d off := by
  obtain ⟨l1, l2⟩ := leg_places hl
  have e : besN r (rect a b c d) k off 4 0 = (closeR [.i (lg r k 0), .i (lg r k 1), .i (lg r k 2), .i (lg r k 3), .i a, .i d, .i a, .i c, .i off] || (closeR [.i (lg r k 0), .i (lg r k 1), .i (lg r k 2), .i (lg r k 3), .i a, .i c, .i b, .i c, .i off] || (closeR [.i (lg r k 0), .i (lg r k 1), .i (lg r k 2), .i (lg r k 3), .i b, .i c, .i b, .i d, .i off] || (closeR [.i (lg r k 0), .i (lg r k 1), .i (lg r k 2), .i (lg r k 3), .i b, .i d, .i a, .i d, .i off] || false)))) := rfl
  have hw : withinR [.i (lg r k 0), .i (lg r k 0), .i (lg r k 1), .i (lg r k 1), .i a, .i b, .i c, .i d] = decide (a ≤ lg r k 0 ∧ lg r k 0 ≤ b ∧ c ≤ lg r k 1 ∧ lg r k 1 ≤ d) := by
    rw [withinR_oct, hb, show boxB (lg r k 0) (lg r k 0) (lg r k 1) (lg r k 1) = true by rw [boxB_t]; rw [placeB_iff] at l1; omega]
    rfl
  unfold nearX legCon
  rw [if_neg (by decide), if_pos (by decide), rect_len, e, hw, (pinR_eq (rect_poly hb h1 h2) l1).1, rect_len, Bool.or_false]
  congr 1
  exact decide_eq_decide.mpr (rect_in hb h1 h2 l1)
end Go.Proofs.Ytinfmmofcadjgaa
/- Chapter 38: the law PassageBoxes. -/
namespace Go.Proofs.Ytinfmmofcadjgaa
open Go.RowKit
theorem KGb31 (W : World) (ds l : List D) : (envOf KG W ds).fb 31 l = boxL l := by simp only [envOf, KG, KF, KE, KD, KC, KB, KA, K9, K8, K7, K6, K5, K]
theorem nearXE_area {r : Rows} {k off x y rad : Int} : nearXE r k off 3 x y rad = 0 := by rw [nearXE, if_pos (by decide)]
set_option maxHeartbeats 4000000 in
theorem gBoxesLaw : Gives Try.prog 7 [psg, bx, bx, it, it] (fun _ => .bool true) := by
  refine GivesIf.all (fn_gives KG (by kernel_rfl) (fun ρ h => ctLaw_ok (Sees.of h 80)) (by kernel_rfl) trBoxesLaw_is trBoxesLaw_low (by decide) (fun W vals ds hr _ => ?_))
  simp only [trBoxesLaw, TT.sat_ret, TT.sat_ite, TT.sat_ob, TT.sat_next, TT.sat_stuck, put_i, put_b, put_d, put_fi, put_fb, put_fd, Ob.ok, B.ev, E.ev, X.ev, AL.ev, cmp_t, cmp_f, arEv, V.plain, V2.plain, S.plain, S0.plain, V.val, V2.val, S.val, S0.val, bV, iV, List.all_cons, List.all_nil, Bool.and_true, Bool.and_self, envOf_i, envOf_b, envOf_d, List.map_cons, List.map_nil, true_and, Bool.not_eq_true', Bool.not_eq_false', Bool.not_not, Bool.and_eq_true, and_f, cell_lg, cell_lb, cell_lr, cmpP, val_i, val_b, val_d, aget, Nat.reduceBEq, beq_self_eq_true, Bool.false_eq_true, if_true, if_false, Nat.reduceLT, Nat.reduceSub, Nat.sub_self, Nat.lt_irrefl, KGi60, KGb60, KGb31, KGi36, KGb51, pkb_eq, box_four]
  have H1 := @boxes_more (iAt ds 0) (iAt ds 1) (iAt ds 2) (rAt ds 3) (iAt ds 4) (iAt ds 5) (iAt ds 6) (iAt ds 7) (iAt ds 8) (iAt ds 9) (iAt ds 10) (iAt ds 11) (iAt ds 12)
  have H2 := @boxes_earlier (iAt ds 0) (iAt ds 1) (iAt ds 2) (rAt ds 3) (iAt ds 4) (iAt ds 5) (iAt ds 6) (iAt ds 7) (iAt ds 12) (iAt ds 13)
  have H3 : conE (pkb (iAt ds 0) (iAt ds 1) (iAt ds 2) (rAt ds 3) (iAt ds 4) (iAt ds 5) (iAt ds 6) (iAt ds 7) (iAt ds 12)) ≠ 0 → conE (pkb (iAt ds 0) (iAt ds 1) (iAt ds 2) (rAt ds 3) (iAt ds 4) (iAt ds 5) (iAt ds 6) (iAt ds 7) (iAt ds 12)) = 1 ∧ conR (pkb (iAt ds 0) (iAt ds 1) (iAt ds 2) (rAt ds 3) (iAt ds 4) (iAt ds 5) (iAt ds 6) (iAt ds 7) (iAt ds 12)) = false := by
    intro h
    rw [conE_pkb] at h ⊢
    rw [conR_pkb]
    cases q : conO (pkb (iAt ds 0) (iAt ds 1) (iAt ds 2) (rAt ds 3) (iAt ds 4) (iAt ds 5) (iAt ds 6) (iAt ds 7) (iAt ds 12))
    · exact ⟨rfl, rfl⟩
    · rw [q] at h; exact absurd rfl h
  have H4 : conE (pkb (iAt ds 0) (iAt ds 1) (iAt ds 2) (rAt ds 3) (iAt ds 4) (iAt ds 5) (iAt ds 6) (iAt ds 7) (iAt ds 12)) = 0 → psgB (iAt ds 0) (iAt ds 1) (iAt ds 2) (rAt ds 3) = true ∧ boxB (iAt ds 4) (iAt ds 5) (iAt ds 6) (iAt ds 7) = true ∧ 0 ≤ iAt ds 12 ∧ iAt ds 12 ≤ ((rAt ds 3).length : Int) := by
    intro h
    rw [conE_pkb, conO_pkb] at h
    split at h
    · rename_i g
      simp only [Bool.and_eq_true, decide_eq_true_eq] at g
      exact ⟨g.1.1, g.1.2, g.2.1, g.2.2⟩
    · exact absurd h (by decide)
  generalize hc0 : conE (pkb (iAt ds 0) (iAt ds 1) (iAt ds 2) (rAt ds 3) (iAt ds 4) (iAt ds 5) (iAt ds 6) (iAt ds 7) (iAt ds 12)) = c0 at *
  generalize hb0 : conR (pkb (iAt ds 0) (iAt ds 1) (iAt ds 2) (rAt ds 3) (iAt ds 4) (iAt ds 5) (iAt ds 6) (iAt ds 7) (iAt ds 12)) = b0 at *
  generalize hc1 : conE (pkb (iAt ds 0) (iAt ds 1) (iAt ds 2) (rAt ds 3) (iAt ds 8) (iAt ds 9) (iAt ds 10) (iAt ds 11) (iAt ds 12)) = c1 at *
  generalize hb1 : conR (pkb (iAt ds 0) (iAt ds 1) (iAt ds 2) (rAt ds 3) (iAt ds 8) (iAt ds 9) (iAt ds 10) (iAt ds 11) (iAt ds 12)) = b1 at *
  generalize hc2 : conE (pkb (iAt ds 0) (iAt ds 1) (iAt ds 2) (rAt ds 3) (iAt ds 4) (iAt ds 5) (iAt ds 6) (iAt ds 7) (iAt ds 13)) = c2 at *
  generalize hb2 : conR (pkb (iAt ds 0) (iAt ds 1) (iAt ds 2) (rAt ds 3) (iAt ds 4) (iAt ds 5) (iAt ds 6) (iAt ds 7) (iAt ds 13)) = b2 at *
  refine ⟨fun _ => trivial, fun _ => ⟨fun h0 => ?_, fun h0 => ?_⟩⟩
  · obtain ⟨e1, e2⟩ := H3 h0
    subst e1 e2
    simp [cmpEv]
  have h0' : c0 = 0 := by first | exact h0 | exact Decidable.not_not.1 h0
  obtain ⟨hp, hb, k1, k2⟩ := H4 h0'
  refine ⟨fun hx => ?_, fun _ => ?_⟩
  · rw [hb] at hx; exact absurd hx (by decide)
  generalize hu : uniE [.i (iAt ds 4), .i (iAt ds 5), .i (iAt ds 6), .i (iAt ds 7), .i (iAt ds 8), .i (iAt ds 9), .i (iAt ds 10), .i (iAt ds 11)] = u at *
  generalize hwi : withinR [.i (iAt ds 4), .i (iAt ds 5), .i (iAt ds 6), .i (iAt ds 7), .i (iAt ds 8), .i (iAt ds 9), .i (iAt ds 10), .i (iAt ds 11)] = wi at *
  refine ⟨fun he => ?_, fun he => ⟨fun hf => ?_, fun hf => ?_⟩⟩
  · clear hr H3 H4
    (repeat' (first | (intro h; skip) | (refine And.intro ?_ ?_)))
    all_goals (first | trivial | grind)
  · clear hr H3 H4
    (repeat' (first | (intro h; skip) | (refine And.intro ?_ ?_)))
    all_goals (first | trivial | grind)
  · obtain ⟨p1, p2, p3, p4⟩ := psgB_iff hp
    obtain ⟨_, _, _, _, g1, g2⟩ := boxB_places hb
    obtain ⟨n, hn⟩ := Int.eq_ofNat_of_zero_le k1
    have hO : conO (pkb (iAt ds 0) (iAt ds 1) (iAt ds 2) (rAt ds 3) (iAt ds 4) (iAt ds 5) (iAt ds 6) (iAt ds 7) (iAt ds 12)) = true := by
      rw [conO_pkb, hp, hb, decide_eq_true ⟨k1, k2⟩]; rfl
    have hb0' : conFrom (rAt ds 3) (iAt ds 4) (iAt ds 5) (iAt ds 6) (iAt ds 7) (iAt ds 2) ((rAt ds 3).length - n) n = b0 := by
      rw [← hb0, conR_pkb, hO, hn, Int.toNat_natCast]; rfl
    have hpo := rect_poly hb (show iAt ds 4 < iAt ds 5 by omega) (show iAt ds 6 < iAt ds 7 by omega)
    have hfe : featB 1 3 0 0 0 (rect (iAt ds 4) (iAt ds 5) (iAt ds 6) (iAt ds 7)) 0 0 [] = true := featB_iff.mpr ⟨by omega, by omega, by omega, by omega, .inr (.inl ⟨.inl rfl, hpo, rfl, rfl, rfl, rfl⟩)⟩
    have N : ∀ j : Nat, j < (rAt ds 3).length → nearPR (pkf (iAt ds 0) (iAt ds 1) (iAt ds 2) (rAt ds 3) j 1 3 0 0 0 (rect (iAt ds 4) (iAt ds 5) (iAt ds 6) (iAt ds 7)) 0 0 []) = legCon (rAt ds 3) j (iAt ds 4) (iAt ds 5) (iAt ds 6) (iAt ds 7) (iAt ds 2) ∧ nearPE (pkf (iAt ds 0) (iAt ds 1) (iAt ds 2) (rAt ds 3) j 1 3 0 0 0 (rect (iAt ds 4) (iAt ds 5) (iAt ds 6) (iAt ds 7)) 0 0 []) = 0 := by
      intro j hj
      rw [nearPR_pkf, nearPE_pkf, nearPO_pkf, hp, hfe, decide_eq_true (show 0 ≤ (j : Int) ∧ (j : Int) < (rAt ds 3).length by omega), near_rect (p4 j hj) (by omega) hb (by omega) (by omega), nearXE_area]
      exact ⟨rfl, rfl⟩
    refine TT.sat_loop (fun v => v.b 0 = true ∧ ∃ j : Nat, v.i 2 = j ∧ j ≤ (rAt ds 3).length ∧ (v.b 1 || conFrom (rAt ds 3) (iAt ds 4) (iAt ds 5) (iAt ds 6) (iAt ds 7) (iAt ds 2) ((rAt ds 3).length - j) j) = b0) (fun v => (rAt ds 3).length - (v.i 2).toNat)
      ⟨by simp [val_b, aget, B.ev], n, by simpa [val_i, aget, E.ev, envOf_i] using hn, by omega, by rw [hb0']; simp [val_b, aget, B.ev]⟩ (fun v hv => ?_)
    obtain ⟨v0, j, j0, j1, j2⟩ := hv
    simp only [TT.sat_ret, TT.sat_ite, TT.sat_ob, TT.sat_next, TT.sat_stuck, put_i, put_b, put_d, put_fi, put_fb, put_fd, Ob.ok, B.ev, E.ev, X.ev, AL.ev, cmp_t, cmp_f, arEv, V.plain, V2.plain, S.plain, S0.plain, V.val, V2.val, S.val, S0.val, bV, iV, List.all_cons, List.all_nil, Bool.and_true, Bool.and_self, envOf_i, envOf_b, envOf_d, List.map_cons, List.map_nil, true_and, Bool.not_eq_true', Bool.not_eq_false', Bool.not_not, Bool.and_eq_true, and_f, cell_lg, cell_lb, cell_lr, cmpP, val_i, val_b, val_d, aget, Nat.reduceBEq, beq_self_eq_true, Bool.false_eq_true, if_true, if_false, Nat.reduceLT, Nat.reduceSub, Nat.sub_self, Nat.lt_irrefl, KGi60, KGb60, KGb31, KGi36, KGb51, KGb77, KGi77, pkb_eq, pkf_eq, box_four, v0, j0, hu, hwi, hc0, hb0, hc1, hb1, hc2, hb2]
    refine ⟨fun hc => ?_, fun hc => ?_⟩
    · have hj : j < (rAt ds 3).length := by omega
      obtain ⟨N1, N2⟩ := N j hj
      obtain ⟨f, hf'⟩ : ∃ f, (rAt ds 3).length - j = f + 1 := ⟨(rAt ds 3).length - j - 1, by omega⟩
      rw [hf', conFrom] at j2
      have M : (rAt ds 3).length - (IntKind.i64.wrap ((j : Int) + 1)).toNat < (rAt ds 3).length - (j : Int).toNat := by rw [wrap_in _ (by omega) (by omega)]; omega
      have hw : IntKind.i64.wrap ((j : Int) + 1) = ((j + 1 : Nat) : Int) := by rw [wrap_in _ (by omega) (by omega)]; rfl
      have hl : (rAt ds 3).length - (j + 1) = f := by omega
      simp only [rect] at N1 N2
      simp only [List.cons_append, List.nil_append, N1, N2]
      rw [hw]
      rw [hw] at M
      refine ⟨fun _ => ⟨fun q => ⟨⟨trivial, j + 1, rfl, by omega, ?_⟩, M⟩, fun q => ⟨⟨trivial, j + 1, rfl, by omega, ?_⟩, M⟩⟩, fun h => absurd h (by decide)⟩
      · rw [q] at j2; exact j2
      · rw [hl, ← j2, q]; rfl
    · rw [show (rAt ds 3).length - j = 0 by omega, conFrom, Bool.or_false] at j2
      simp only [j2]
      clear hr H3 H4 N hfe hpo hO hb0'
      (repeat' (first | (intro h; skip) | (refine And.intro ?_ ?_)))
      all_goals (first | trivial | grind)
end Go.Proofs.Ytinfmmofcadjgaa
