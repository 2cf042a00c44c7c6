/- NJ, merged: J1, J2, J3, J7. -/
import Derived.Test.YtcjaembdcfppfaaGreatNM
import Derived.Test.YtcjaembdcfppfaaGreatMT
set_option linter.unusedSimpArgs false
set_option linter.unusedVariables false
/- Chapter 11: a cell is a valid polygon, no program. -/
namespace Go.Proofs.YtcjaembdcfppfaaGreat
open Go.RowKit
section
variable {x y s : Int}
theorem rect_place (h : boxB x (x + s) y (y + s) = true) : ∀ k : Nat, k < (rectR x y s).length → placeB (lg (rectR x y s) k 0) (lg (rectR x y s) k 1) = true := fun k hk => by
  have hk : k < 4 := hk
  unfold boxB at h
  have h := of_decide_eq_true h
  have : k = 0 ∨ k = 1 ∨ k = 2 ∨ k = 3 := by omega
  rcases this with rfl | rfl | rfl | rfl
  · show placeB x y = true
    unfold placeB; exact decide_eq_true (by omega)
  · show placeB (x + s) y = true
    unfold placeB; exact decide_eq_true (by omega)
  · show placeB (x + s) (y + s) = true
    unfold placeB; exact decide_eq_true (by omega)
  · show placeB x (y + s) = true
    unfold placeB; exact decide_eq_true (by omega)
theorem sq_pos {s : Int} (hs : 1 ≤ s) : 0 < s * s := Int.mul_pos (by omega) (by omega)
theorem rect_corn (h : boxB x (x + s) y (y + s) = true) (hs : 1 ≤ s) : cornN (rectR x y s) 4 0 = true := by
  have hp := sq_pos hs
  refine (cornN_iff 4 0).2 fun k _ hk => ?_
  have hk : k < (rectR x y s).length := hk
  refine (cornOk_iff (rect_place h) hk).2 ?_
  have hk : k < 4 := hk
  have ne : ∀ a b c d e f : Int, crossI a b c d e f = s * s → turnI a b c d e f ≠ 0 := fun a b c d e f q => by
    unfold turnI
    rw [q, Ne, sgn0]
    omega
  have : k = 0 ∨ k = 1 ∨ k = 2 ∨ k = 3 := by omega
  rcases this with rfl | rfl | rfl | rfl
  · exact ⟨fun q => by omega, ne x (y + s) x y (x + s) y (by unfold crossI; grind)⟩
  · refine ⟨fun _ => ?_, ne x y (x + s) y (x + s) (y + s) (by unfold crossI; grind)⟩
    show lessB x y (x + s) y = true
    unfold lessB; exact decide_eq_true (by omega)
  · refine ⟨fun _ => ?_, ne (x + s) y (x + s) (y + s) x (y + s) (by unfold crossI; grind)⟩
    show lessB x y (x + s) (y + s) = true
    unfold lessB; exact decide_eq_true (by omega)
  · refine ⟨fun _ => ?_, ne (x + s) (y + s) x (y + s) x y (by unfold crossI; grind)⟩
    show lessB x y x (y + s) = true
    unfold lessB; exact decide_eq_true (by omega)
theorem no_meet_y {a b c d e f g h : Int} (h1 : b < f) (h2 : b < h) (h3 : d < f) (h4 : d < h) : meetB a b c d e f g h = false := by
  rw [Bool.eq_false_iff, Ne, meet_iff]
  rintro ⟨k, u, v, hk, q1, q2⟩
  have p1 := seg_le (seg_flip q1) (M := max b d) (by omega) (by omega)
  have p2 := seg_ge (seg_flip q2) (M := min f h) (by omega) (by omega)
  have : k * (max b d) < k * (min f h) := Int.mul_lt_mul_of_pos_left (by omega) hk
  omega
theorem no_meet_x {a b c d e f g h : Int} (h1 : e < a) (h2 : g < a) (h3 : e < c) (h4 : g < c) : meetB a b c d e f g h = false := by
  rw [Bool.eq_false_iff, Ne, meet_iff]
  rintro ⟨k, u, v, hk, q1, q2⟩
  have p1 := seg_ge q1 (M := min a c) (by omega) (by omega)
  have p2 := seg_le q2 (M := max e g) (by omega) (by omega)
  have : k * (max e g) < k * (min a c) := Int.mul_lt_mul_of_pos_left (by omega) hk
  omega
theorem meetR_false {a b c d e f g h : Int} (q : meetB a b c d e f g h = false) : meetR [.i a, .i b, .i c, .i d, .i e, .i f, .i g, .i h] = false := by
  have : meetR [.i a, .i b, .i c, .i d, .i e, .i f, .i g, .i h] = (eight [.i a, .i b, .i c, .i d, .i e, .i f, .i g, .i h] && meetB a b c d e f g h) := rfl
  rw [this, q, Bool.and_false]
theorem rect_simple (hs : 1 ≤ s) : simpleN (rectR x y s) 4 0 = true := by
  have e1 : ∀ i k, (k ≤ i + 1 ∨ (i = 0 ∧ k + 1 = 4)) → pairOk (rectR x y s) i k = true := fun i k q => by
    unfold pairOk
    have q : k ≤ i + 1 ∨ (i = 0 ∧ k + 1 = (rectR x y s).length) := q
    rw [decide_eq_true q, Bool.true_or]
  have m1 : meetE2 (rectR x y s) 0 2 = false := by
    show meetR [.i x, .i y, .i (x + s), .i y, .i (x + s), .i (y + s), .i x, .i (y + s)] = false
    exact meetR_false (no_meet_y (by omega) (by omega) (by omega) (by omega))
  have m2 : meetE2 (rectR x y s) 1 3 = false := by
    show meetR [.i (x + s), .i y, .i (x + s), .i (y + s), .i x, .i (y + s), .i x, .i y] = false
    exact meetR_false (no_meet_x (by omega) (by omega) (by omega) (by omega))
  have e2 : pairOk (rectR x y s) 0 2 = true := by unfold pairOk; rw [m1]; simp
  have e3 : pairOk (rectR x y s) 1 3 = true := by unfold pairOk; rw [m2]; simp
  have el : (rectR x y s).length = 4 := rfl
  simp only [simpleN, rowN, el]
  simp only [e2, e3, e1 0 0 (by omega), e1 0 1 (by omega), e1 0 3 (by omega), e1 1 0 (by omega), e1 1 1 (by omega), e1 1 2 (by omega), e1 2 0 (by omega), e1 2 1 (by omega), e1 2 2 (by omega), e1 2 3 (by omega), e1 3 0 (by omega), e1 3 1 (by omega), e1 3 2 (by omega), e1 3 3 (by omega), Bool.and_self, Nat.zero_add]
theorem rect_twice (h : boxB x (x + s) y (y + s) = true) (hs : 1 ≤ s) : twiceN (rectR x y s) 4 0 0 = 2 * (s * s) := by
  unfold boxB at h
  have h := of_decide_eq_true h
  have bd : ∀ a b : Int, -1000000 ≤ a → a ≤ 1000000 → -1000000 ≤ b → b ≤ 1000000 → -1000000000000 ≤ a * b ∧ a * b ≤ 1000000000000 := fun a b h1 h2 h3 h4 => by
    have := mul_abs (A := 1000000) (B := 1000000) h1 h2 h3 h4
    omega
  have b1 := bd x y (by omega) (by omega) (by omega) (by omega)
  have b2 := bd (x + s) y (by omega) (by omega) (by omega) (by omega)
  have b3 := bd (x + s) (y + s) (by omega) (by omega) (by omega) (by omega)
  have b4 := bd x (y + s) (by omega) (by omega) (by omega) (by omega)
  have c1 : y * (x + s) = (x + s) * y := Int.mul_comm _ _
  have c2 : y * x = x * y := Int.mul_comm _ _
  have c3 : (y + s) * x = x * (y + s) := Int.mul_comm _ _
  have c4 : (y + s) * (x + s) = (x + s) * (y + s) := Int.mul_comm _ _
  show IntKind.i64.wrap (IntKind.i64.wrap (IntKind.i64.wrap (IntKind.i64.wrap (0 + IntKind.i64.wrap (IntKind.i64.wrap (x * y) - IntKind.i64.wrap (y * (x + s)))) + IntKind.i64.wrap (IntKind.i64.wrap ((x + s) * (y + s)) - IntKind.i64.wrap (y * (x + s)))) + IntKind.i64.wrap (IntKind.i64.wrap ((x + s) * (y + s)) - IntKind.i64.wrap ((y + s) * x))) + IntKind.i64.wrap (IntKind.i64.wrap (x * y) - IntKind.i64.wrap ((y + s) * x))) = 2 * (s * s)
  rw [c1, c3]
  have r1 : (x + s) * (y + s) = x * y + x * s + s * y + s * s := by grind
  have r2 : (x + s) * y = x * y + s * y := by grind
  have r3 : x * (y + s) = x * y + x * s := by grind
  rw [wrap_in (x * y) (by omega) (by omega), wrap_in ((x + s) * y) (by omega) (by omega), wrap_in ((x + s) * (y + s)) (by omega) (by omega), wrap_in (x * (y + s)) (by omega) (by omega)]
  rw [wrap_in (x * y - (x + s) * y) (by omega) (by omega), wrap_in ((x + s) * (y + s) - (x + s) * y) (by omega) (by omega), wrap_in ((x + s) * (y + s) - x * (y + s)) (by omega) (by omega), wrap_in (x * y - x * (y + s)) (by omega) (by omega)]
  rw [wrap_in (0 + (x * y - (x + s) * y)) (by omega) (by omega), wrap_in (0 + (x * y - (x + s) * y) + ((x + s) * (y + s) - (x + s) * y)) (by omega) (by omega), wrap_in (0 + (x * y - (x + s) * y) + ((x + s) * (y + s) - (x + s) * y) + ((x + s) * (y + s) - x * (y + s))) (by omega) (by omega), wrap_in _ (by omega) (by omega)]
  omega
theorem rect_poly (h : boxB x (x + s) y (y + s) = true) (hs : 1 ≤ s) : polyB (rectR x y s) = true := by
  have el : (rectR x y s).length = 4 := rfl
  unfold polyB
  rw [el, rect_corn h hs, rect_simple hs, rect_twice h hs, (plN_iff 4 0).2 (fun k _ hk => rect_place h k (by rw [el]; omega))]
  have := sq_pos hs
  rw [decide_eq_true (by omega : 0 < 2 * (s * s))]
  rfl
end
end Go.Proofs.YtcjaembdcfppfaaGreat
/- Chapter 11: which places a cell has, no program. -/
namespace Go.Proofs.YtcjaembdcfppfaaGreat
open Go.RowKit
theorem on_h {u v a b y : Int} : onB u v a y b y = true ↔ min a b ≤ u ∧ u ≤ max a b ∧ v = y := by
  unfold onB
  rw [decide_eq_true_eq]
  constructor
  · rintro ⟨_, h1, h2, h3, h4⟩
    exact ⟨h1, h2, by omega⟩
  · rintro ⟨h1, h2, rfl⟩
    refine ⟨?_, h1, h2, by omega, by omega⟩
    unfold turnI crossI
    rw [sgn0]; grind
theorem on_v {u v x a b : Int} : onB u v x a x b = true ↔ u = x ∧ min a b ≤ v ∧ v ≤ max a b := by
  unfold onB
  rw [decide_eq_true_eq]
  constructor
  · rintro ⟨_, h1, h2, h3, h4⟩
    exact ⟨by omega, h3, h4⟩
  · rintro ⟨rfl, h1, h2⟩
    refine ⟨?_, by omega, by omega, h1, h2⟩
    unfold turnI crossI
    rw [sgn0]; grind
theorem cross_h {u v a b y : Int} : crossP u v a y b y = false := by
  unfold crossP
  rw [if_neg (by omega)]
  exact decide_eq_false (by omega)
theorem cross_up {u v x a b : Int} (h : a < b) : crossP u v x a x b = decide (a ≤ v ∧ v < b ∧ u < x) := by
  unfold crossP
  rw [if_neg (by omega)]
  refine decide_eq_decide.2 ?_
  unfold crossI
  have e : (x - x) * (v - a) - (b - a) * (u - x) = (x - u) * (b - a) := by grind
  rw [e]
  constructor
  · rintro ⟨h1, h2, h3⟩
    refine ⟨h1, h2, ?_⟩
    have := pos_of h3 (show 0 < b - a by omega)
    omega
  · rintro ⟨h1, h2, h3⟩
    exact ⟨h1, h2, Int.mul_pos (by omega) (by omega)⟩
theorem cross_down {u v x a b : Int} (h : b < a) : crossP u v x a x b = decide (b ≤ v ∧ v < a ∧ u < x) := by
  rw [crossP_swap, cross_up h]
theorem rect_in {x y s u v : Int} (h : boxB x (x + s) y (y + s) = true) (hs : 1 ≤ s) (hq : placeB u v = true) : 0 ≤ placeN (rectR x y s) u v (rectR x y s).length 0 false ↔ (x ≤ u ∧ u ≤ x + s) ∧ y ≤ v ∧ v ≤ y + s := by
  have hr := rect_poly h hs
  rw [placeN_eq hr hq _ 0 false (by rw [Nat.zero_add])]
  have eo : onN (rectR x y s) u v (rectR x y s).length 0 = (onB u v x y (x + s) y || (onB u v (x + s) y (x + s) (y + s) || (onB u v (x + s) (y + s) x (y + s) || (onB u v x (y + s) x y || false)))) := rfl
  have ep : parN (rectR x y s) u v (rectR x y s).length 0 = (crossP u v x y (x + s) y ^^ (crossP u v (x + s) y (x + s) (y + s) ^^ (crossP u v (x + s) (y + s) x (y + s) ^^ (crossP u v x (y + s) x y ^^ false)))) := rfl
  rw [ep, cross_h, cross_h, cross_up (by omega), cross_down (by omega)]
  by_cases o : onN (rectR x y s) u v (rectR x y s).length 0 = true
  · rw [if_pos o]
    rw [eo] at o
    simp only [Bool.or_eq_true, Bool.or_false, on_h, on_v] at o
    constructor
    · intro _; omega
    · intro _; omega
  · rw [if_neg o]
    rw [eo] at o
    simp only [Bool.or_eq_true, Bool.or_false, on_h, on_v] at o
    simp only [Bool.false_xor, Bool.xor_false]
    by_cases c1 : y ≤ v ∧ v < y + s ∧ u < x + s <;> by_cases c2 : y ≤ v ∧ v < y + s ∧ u < x
    · rw [decide_eq_true c1, decide_eq_true c2]; simp; omega
    · rw [decide_eq_true c1, decide_eq_false c2]; simp; omega
    · omega
    · rw [decide_eq_false c1, decide_eq_false c2]; simp; omega
end Go.Proofs.YtcjaembdcfppfaaGreat
/- Chapter 11: points of a box at rational places: leaving a box, sides of boxes, parts of sides. No program. -/
namespace Go.Proofs.YtcjaembdcfppfaaGreat
open Go.RowKit
theorem part_of {K X s u : Int} {k : Nat} (hK : 0 < K) (hs : 0 < s) (hk : 0 < k) (h1 : K * X ≤ u) (h2 : u ≤ K * (X + (k : Int) * s)) : ∃ a : Nat, a < k ∧ K * (X + (a : Int) * s) ≤ u ∧ u ≤ K * (X + (a : Int) * s + s) := by
  induction k with
  | zero => omega
  | succ n ih =>
    by_cases hn : n = 0
    · subst hn
      exact ⟨0, by omega, by simpa using h1, by simpa using h2⟩
    · by_cases g : u ≤ K * (X + (n : Int) * s)
      · obtain ⟨a, g1, g2, g3⟩ := ih (by omega) g
        exact ⟨a, by omega, g2, g3⟩
      · refine ⟨n, by omega, by omega, ?_⟩
        have : K * (X + ((n + 1 : Nat) : Int) * s) = K * (X + (n : Int) * s + s) := by
          rw [Int.natCast_add]; grind
        omega
end Go.Proofs.YtcjaembdcfppfaaGreat
/- Chapter 11: no place of a cell shows less than the cell. No program. -/
namespace Go.Proofs.YtcjaembdcfppfaaGreat
open Go.RowKit
section
variable {r : Rows} {px py : Int}
theorem no_spec : ∀ (f i : Nat) (m : Int), shoN r px py f i m ≤ m ∧ (∀ k : Nat, i ≤ k → k < i + f → covRow r k px py = true → shoN r px py f i m ≤ lg r k 6) ∧ (shoN r px py f i m = m ∨ ∃ k : Nat, i ≤ k ∧ k < i + f ∧ covRow r k px py = true ∧ shoN r px py f i m = lg r k 6)
  | 0, i, m => ⟨Int.le_refl _, fun k h1 h2 => by omega, .inl rfl⟩
  | f + 1, i, m => by
    rw [shoN]
    by_cases c : lg r i 6 < m ∧ covRow r i px py = true
    · rw [if_pos c]
      obtain ⟨h1, h2, h3⟩ := no_spec f (i + 1) (lg r i 6)
      refine ⟨by omega, fun k g1 g2 g3 => ?_, ?_⟩
      · by_cases e : k = i
        · subst e; exact h1
        · exact h2 k (by omega) (by omega) g3
      · rcases h3 with h3 | ⟨k, g1, g2, g3, g4⟩
        · exact .inr ⟨i, by omega, by omega, c.2, h3⟩
        · exact .inr ⟨k, by omega, by omega, g3, g4⟩
    · rw [if_neg c]
      obtain ⟨h1, h2, h3⟩ := no_spec f (i + 1) m
      refine ⟨h1, fun k g1 g2 g3 => ?_, ?_⟩
      · by_cases e : k = i
        · subst e
          have : ¬ lg r k 6 < m := fun q => c ⟨q, g3⟩
          omega
        · exact h2 k (by omega) (by omega) g3
      · rcases h3 with h3 | ⟨k, g1, g2, g3, g4⟩
        · exact .inl h3
        · exact .inr ⟨k, by omega, by omega, g3, g4⟩
end
theorem cov_tch {r : Rows} {f : Nat} {x y s px py : Int} (hf : featRow r f = true) (hb : boxB x (x + s) y (y + s) = true) (hs : 1 ≤ s) (hin : (x ≤ px ∧ px ≤ x + s) ∧ y ≤ py ∧ py ≤ y + s) (hc : covRow r f px py = true) : tchB r f (rectR x y s) = true := by
  have hR := rect_poly hb hs
  have hp : placeB px py = true := by
    unfold boxB at hb
    have hb := of_decide_eq_true hb
    unfold placeB
    exact decide_eq_true (by omega)
  have hpl := (rect_in hb hs hp).2 hin
  have hcell : featB 1 3 0 0 0 (rectR x y s) 0 0 [] = true := by
    rw [featB_iff]
    unfold featP
    exact ⟨by omega, by omega, by omega, by omega, .inr (.inl ⟨.inl rfl, hR, rfl, rfl, rfl, rfl⟩)⟩
  have h9 : two9 (args18 r f (rectR x y s)) = true := by
    have : two9 (args18 r f (rectR x y s)) = (featRow r f && featB 1 3 0 0 0 (rectR x y s) 0 0 []) := rfl
    rw [this, hf, hcell]; rfl
  have hT : tchB r f (rectR x y s) = touchX (lg r f 1) (lg r f 2) (lg r f 3) (lg r f 4) (lr r f 5) 3 0 0 0 (rectR x y s) := by
    unfold tchB feE feToR
    rw [h9]
    rfl
  rw [hT]
  have hq := featB_iff.mp hf
  obtain ⟨_, _, _, hrad, hk3⟩ := hq
  unfold covRow covX at hc
  unfold touchX
  by_cases k4 : lg r f 1 = 4
  · rw [if_pos k4] at hc; cases hc
  · rw [if_neg k4] at hc
    by_cases k3 : lg r f 1 = 3 ∨ lg r f 1 = 6
    · rw [if_pos k3] at hc
      have hP : polyB (lr r f 5) = true := by
        rcases hk3 with ⟨g, _⟩ | ⟨_, g, _⟩ | ⟨g, _⟩
        · omega
        · exact g
        · omega
      have hc := of_decide_eq_true hc
      rw [(pinR_eq hP hp).1] at hc
      simp only [k4, k3, if_true, show ¬ ((3 : Int) = 4) from by decide, or_self, if_false, true_or]
      exact tou_both hP hR hp hc.2 hpl
    · rw [if_neg k3] at hc
      have hP : placeB (lg r f 2) (lg r f 3) = true := by
        rcases hk3 with ⟨_, g, _⟩ | ⟨g, _⟩ | ⟨g, _⟩
        · exact g
        · omega
        · omega
      have hc := (Bool.and_eq_true_iff.1 hc).2
      rw [(nearR_eq hp hP hP (by omega)).1] at hc
      unfold nearB at hc
      rw [if_pos (by unfold dotI; simp)] at hc
      have hc := of_decide_eq_true hc
      simp only [k4, k3, if_true, show ¬ ((3 : Int) = 4) from by decide, or_self, if_false, true_or, decide_eq_true_eq]
      exact dis_touch hR hP hp (by omega) hc hpl
theorem nowhere {r : Rows} {x y s px py : Int} (hr : ∀ f, f < r.length → featRow r f = true) (hb : boxB x (x + s) y (y + s) = true) (hs : 1 ≤ s) (hin : (x ≤ px ∧ px ≤ x + s) ∧ y ≤ py ∧ py ≤ y + s) :
    mkD r (rectR x y s) r.length ≤ shoN r px py r.length 0 100000 := by
  obtain ⟨m1, m2, _⟩ := mkD_spec (r := r) (rectR x y s) r.length
  obtain ⟨_, _, n3⟩ := no_spec (r := r) (px := px) (py := py) r.length 0 100000
  rcases n3 with n3 | ⟨f, _, f2, f3, f4⟩
  · rw [n3]; exact m1
  · rw [f4]
    exact m2 f (by omega) (cov_tch (hr f (by omega)) hb hs hin f3)
end Go.Proofs.YtcjaembdcfppfaaGreat
