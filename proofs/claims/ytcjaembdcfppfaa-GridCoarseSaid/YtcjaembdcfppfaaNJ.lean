/- NJ, merged: J1, J2, J3, J4, J5. -/
import Derived.Test.YtcjaembdcfppfaaNM
import Derived.Test.YtcjaembdcfppfaaMT
set_option linter.unusedSimpArgs false
set_option linter.unusedVariables false
/- Chapter 11: a cell is a valid polygon, no program. -/
namespace Go.Proofs.Ytcjaembdcfppfaa
open Go.RowKit
section
variable {x y s : Int}
theorem rect_place (h : boxB x (x + s) y (y + s) = true) : ∀ k : Nat, k < (rectR x y s).length → placeB (lg (rectR x y s) k 0) (lg (rectR x y s) k 1) = true := fun k hk => by
  have hk : k < 4 := hk
  unfold boxB at h
  have h := of_decide_eq_true h
  have : k = 0 ∨ k = 1 ∨ k = 2 ∨ k = 3 := by omega
  rcases this with rfl | rfl | rfl | rfl
  · show placeB x y = true
    unfold placeB; exact decide_eq_true (by omega)
  · show placeB (x + s) y = true
    unfold placeB; exact decide_eq_true (by omega)
  · show placeB (x + s) (y + s) = true
    unfold placeB; exact decide_eq_true (by omega)
  · show placeB x (y + s) = true
    unfold placeB; exact decide_eq_true (by omega)
theorem sq_pos {s : Int} (hs : 1 ≤ s) : 0 < s * s := Int.mul_pos (by omega) (by omega)
theorem rect_corn (h : boxB x (x + s) y (y + s) = true) (hs : 1 ≤ s) : cornN (rectR x y s) 4 0 = true := by
  have hp := sq_pos hs
  refine (cornN_iff 4 0).2 fun k _ hk => ?_
  have hk : k < (rectR x y s).length := hk
  refine (cornOk_iff (rect_place h) hk).2 ?_
  have hk : k < 4 := hk
  have ne : ∀ a b c d e f : Int, crossI a b c d e f = s * s → turnI a b c d e f ≠ 0 := fun a b c d e f q => by
    unfold turnI
    rw [q, Ne, sgn0]
    omega
  have : k = 0 ∨ k = 1 ∨ k = 2 ∨ k = 3 := by omega
  rcases this with rfl | rfl | rfl | rfl
  · exact ⟨fun q => by omega, ne x (y + s) x y (x + s) y (by unfold crossI; grind)⟩
  · refine ⟨fun _ => ?_, ne x y (x + s) y (x + s) (y + s) (by unfold crossI; grind)⟩
    show lessB x y (x + s) y = true
    unfold lessB; exact decide_eq_true (by omega)
  · refine ⟨fun _ => ?_, ne (x + s) y (x + s) (y + s) x (y + s) (by unfold crossI; grind)⟩
    show lessB x y (x + s) (y + s) = true
    unfold lessB; exact decide_eq_true (by omega)
  · refine ⟨fun _ => ?_, ne (x + s) (y + s) x (y + s) x y (by unfold crossI; grind)⟩
    show lessB x y x (y + s) = true
    unfold lessB; exact decide_eq_true (by omega)
theorem no_meet_y {a b c d e f g h : Int} (h1 : b < f) (h2 : b < h) (h3 : d < f) (h4 : d < h) : meetB a b c d e f g h = false := by
  rw [Bool.eq_false_iff, Ne, meet_iff]
  rintro ⟨k, u, v, hk, q1, q2⟩
  have p1 := seg_le (seg_flip q1) (M := max b d) (by omega) (by omega)
  have p2 := seg_ge (seg_flip q2) (M := min f h) (by omega) (by omega)
  have : k * (max b d) < k * (min f h) := Int.mul_lt_mul_of_pos_left (by omega) hk
  omega
theorem no_meet_x {a b c d e f g h : Int} (h1 : e < a) (h2 : g < a) (h3 : e < c) (h4 : g < c) : meetB a b c d e f g h = false := by
  rw [Bool.eq_false_iff, Ne, meet_iff]
  rintro ⟨k, u, v, hk, q1, q2⟩
  have p1 := seg_ge q1 (M := min a c) (by omega) (by omega)
  have p2 := seg_le q2 (M := max e g) (by omega) (by omega)
  have : k * (max e g) < k * (min a c) := Int.mul_lt_mul_of_pos_left (by omega) hk
  omega
theorem meetR_false {a b c d e f g h : Int} (q : meetB a b c d e f g h = false) : meetR [.i a, .i b, .i c, .i d, .i e, .i f, .i g, .i h] = false := by
  have : meetR [.i a, .i b, .i c, .i d, .i e, .i f, .i g, .i h] = (eight [.i a, .i b, .i c, .i d, .i e, .i f, .i g, .i h] && meetB a b c d e f g h) := rfl
  rw [this, q, Bool.and_false]
theorem rect_simple (hs : 1 ≤ s) : simpleN (rectR x y s) 4 0 = true := by
  have e1 : ∀ i k, (k ≤ i + 1 ∨ (i = 0 ∧ k + 1 = 4)) → pairOk (rectR x y s) i k = true := fun i k q => by
    unfold pairOk
    have q : k ≤ i + 1 ∨ (i = 0 ∧ k + 1 = (rectR x y s).length) := q
    rw [decide_eq_true q, Bool.true_or]
  have m1 : meetE2 (rectR x y s) 0 2 = false := by
    show meetR [.i x, .i y, .i (x + s), .i y, .i (x + s), .i (y + s), .i x, .i (y + s)] = false
    exact meetR_false (no_meet_y (by omega) (by omega) (by omega) (by omega))
  have m2 : meetE2 (rectR x y s) 1 3 = false := by
    show meetR [.i (x + s), .i y, .i (x + s), .i (y + s), .i x, .i (y + s), .i x, .i y] = false
    exact meetR_false (no_meet_x (by omega) (by omega) (by omega) (by omega))
  have e2 : pairOk (rectR x y s) 0 2 = true := by unfold pairOk; rw [m1]; simp
  have e3 : pairOk (rectR x y s) 1 3 = true := by unfold pairOk; rw [m2]; simp
  have el : (rectR x y s).length = 4 := rfl
  simp only [simpleN, rowN, el]
  simp only [e2, e3, e1 0 0 (by omega), e1 0 1 (by omega), e1 0 3 (by omega), e1 1 0 (by omega), e1 1 1 (by omega), e1 1 2 (by omega), e1 2 0 (by omega), e1 2 1 (by omega), e1 2 2 (by omega), e1 2 3 (by omega), e1 3 0 (by omega), e1 3 1 (by omega), e1 3 2 (by omega), e1 3 3 (by omega), Bool.and_self, Nat.zero_add]
theorem rect_twice (h : boxB x (x + s) y (y + s) = true) (hs : 1 ≤ s) : twiceN (rectR x y s) 4 0 0 = 2 * (s * s) := by
  unfold boxB at h
  have h := of_decide_eq_true h
  have bd : ∀ a b : Int, -1000000 ≤ a → a ≤ 1000000 → -1000000 ≤ b → b ≤ 1000000 → -1000000000000 ≤ a * b ∧ a * b ≤ 1000000000000 := fun a b h1 h2 h3 h4 => by
    have := mul_abs (A := 1000000) (B := 1000000) h1 h2 h3 h4
    omega
  have b1 := bd x y (by omega) (by omega) (by omega) (by omega)
  have b2 := bd (x + s) y (by omega) (by omega) (by omega) (by omega)
  have b3 := bd (x + s) (y + s) (by omega) (by omega) (by omega) (by omega)
  have b4 := bd x (y + s) (by omega) (by omega) (by omega) (by omega)
  have c1 : y * (x + s) = (x + s) * y := Int.mul_comm _ _
  have c2 : y * x = x * y := Int.mul_comm _ _
  have c3 : (y + s) * x = x * (y + s) := Int.mul_comm _ _
  have c4 : (y + s) * (x + s) = (x + s) * (y + s) := Int.mul_comm _ _
  show IntKind.i64.wrap (IntKind.i64.wrap (IntKind.i64.wrap (IntKind.i64.wrap (0 + IntKind.i64.wrap (IntKind.i64.wrap (x * y) - IntKind.i64.wrap (y * (x + s)))) + IntKind.i64.wrap (IntKind.i64.wrap ((x + s) * (y + s)) - IntKind.i64.wrap (y * (x + s)))) + IntKind.i64.wrap (IntKind.i64.wrap ((x + s) * (y + s)) - IntKind.i64.wrap ((y + s) * x))) + IntKind.i64.wrap (IntKind.i64.wrap (x * y) - IntKind.i64.wrap ((y + s) * x))) = 2 * (s * s)
  rw [c1, c3]
  have r1 : (x + s) * (y + s) = x * y + x * s + s * y + s * s := by grind
  have r2 : (x + s) * y = x * y + s * y := by grind
  have r3 : x * (y + s) = x * y + x * s := by grind
  rw [wrap_in (x * y) (by omega) (by omega), wrap_in ((x + s) * y) (by omega) (by omega), wrap_in ((x + s) * (y + s)) (by omega) (by omega), wrap_in (x * (y + s)) (by omega) (by omega)]
  rw [wrap_in (x * y - (x + s) * y) (by omega) (by omega), wrap_in ((x + s) * (y + s) - (x + s) * y) (by omega) (by omega), wrap_in ((x + s) * (y + s) - x * (y + s)) (by omega) (by omega), wrap_in (x * y - x * (y + s)) (by omega) (by omega)]
  rw [wrap_in (0 + (x * y - (x + s) * y)) (by omega) (by omega), wrap_in (0 + (x * y - (x + s) * y) + ((x + s) * (y + s) - (x + s) * y)) (by omega) (by omega), wrap_in (0 + (x * y - (x + s) * y) + ((x + s) * (y + s) - (x + s) * y) + ((x + s) * (y + s) - x * (y + s))) (by omega) (by omega), wrap_in _ (by omega) (by omega)]
  omega
theorem rect_poly (h : boxB x (x + s) y (y + s) = true) (hs : 1 ≤ s) : polyB (rectR x y s) = true := by
  have el : (rectR x y s).length = 4 := rfl
  unfold polyB
  rw [el, rect_corn h hs, rect_simple hs, rect_twice h hs, (plN_iff 4 0).2 (fun k _ hk => rect_place h k (by rw [el]; omega))]
  have := sq_pos hs
  rw [decide_eq_true (by omega : 0 < 2 * (s * s))]
  rfl
end
end Go.Proofs.Ytcjaembdcfppfaa
/- Chapter 11: which places a cell has, no program. -/
namespace Go.Proofs.Ytcjaembdcfppfaa
open Go.RowKit
theorem on_h {u v a b y : Int} : onB u v a y b y = true ↔ min a b ≤ u ∧ u ≤ max a b ∧ v = y := by
  unfold onB
  rw [decide_eq_true_eq]
  constructor
  · rintro ⟨_, h1, h2, h3, h4⟩
    exact ⟨h1, h2, by omega⟩
  · rintro ⟨h1, h2, rfl⟩
    refine ⟨?_, h1, h2, by omega, by omega⟩
    unfold turnI crossI
    rw [sgn0]; grind
theorem on_v {u v x a b : Int} : onB u v x a x b = true ↔ u = x ∧ min a b ≤ v ∧ v ≤ max a b := by
  unfold onB
  rw [decide_eq_true_eq]
  constructor
  · rintro ⟨_, h1, h2, h3, h4⟩
    exact ⟨by omega, h3, h4⟩
  · rintro ⟨rfl, h1, h2⟩
    refine ⟨?_, by omega, by omega, h1, h2⟩
    unfold turnI crossI
    rw [sgn0]; grind
theorem cross_h {u v a b y : Int} : crossP u v a y b y = false := by
  unfold crossP
  rw [if_neg (by omega)]
  exact decide_eq_false (by omega)
theorem cross_up {u v x a b : Int} (h : a < b) : crossP u v x a x b = decide (a ≤ v ∧ v < b ∧ u < x) := by
  unfold crossP
  rw [if_neg (by omega)]
  refine decide_eq_decide.2 ?_
  unfold crossI
  have e : (x - x) * (v - a) - (b - a) * (u - x) = (x - u) * (b - a) := by grind
  rw [e]
  constructor
  · rintro ⟨h1, h2, h3⟩
    refine ⟨h1, h2, ?_⟩
    have := pos_of h3 (show 0 < b - a by omega)
    omega
  · rintro ⟨h1, h2, h3⟩
    exact ⟨h1, h2, Int.mul_pos (by omega) (by omega)⟩
theorem cross_down {u v x a b : Int} (h : b < a) : crossP u v x a x b = decide (b ≤ v ∧ v < a ∧ u < x) := by
  rw [crossP_swap, cross_up h]
theorem rect_in {x y s u v : Int} (h : boxB x (x + s) y (y + s) = true) (hs : 1 ≤ s) (hq : placeB u v = true) : 0 ≤ placeN (rectR x y s) u v (rectR x y s).length 0 false ↔ (x ≤ u ∧ u ≤ x + s) ∧ y ≤ v ∧ v ≤ y + s := by
  have hr := rect_poly h hs
  rw [placeN_eq hr hq _ 0 false (by rw [Nat.zero_add])]
  have eo : onN (rectR x y s) u v (rectR x y s).length 0 = (onB u v x y (x + s) y || (onB u v (x + s) y (x + s) (y + s) || (onB u v (x + s) (y + s) x (y + s) || (onB u v x (y + s) x y || false)))) := rfl
  have ep : parN (rectR x y s) u v (rectR x y s).length 0 = (crossP u v x y (x + s) y ^^ (crossP u v (x + s) y (x + s) (y + s) ^^ (crossP u v (x + s) (y + s) x (y + s) ^^ (crossP u v x (y + s) x y ^^ false)))) := rfl
  rw [ep, cross_h, cross_h, cross_up (by omega), cross_down (by omega)]
  by_cases o : onN (rectR x y s) u v (rectR x y s).length 0 = true
  · rw [if_pos o]
    rw [eo] at o
    simp only [Bool.or_eq_true, Bool.or_false, on_h, on_v] at o
    constructor
    · intro _; omega
    · intro _; omega
  · rw [if_neg o]
    rw [eo] at o
    simp only [Bool.or_eq_true, Bool.or_false, on_h, on_v] at o
    simp only [Bool.false_xor, Bool.xor_false]
    by_cases c1 : y ≤ v ∧ v < y + s ∧ u < x + s <;> by_cases c2 : y ≤ v ∧ v < y + s ∧ u < x
    · rw [decide_eq_true c1, decide_eq_true c2]; simp; omega
    · rw [decide_eq_true c1, decide_eq_false c2]; simp; omega
    · omega
    · rw [decide_eq_false c1, decide_eq_false c2]; simp; omega
end Go.Proofs.Ytcjaembdcfppfaa
/- Chapter 11: points of a box at rational places: leaving a box, sides of boxes, parts of sides. No program. -/
namespace Go.Proofs.Ytcjaembdcfppfaa
open Go.RowKit
theorem dim_one {K X S u c : Int} (hK : 0 < K) (h1 : K * X ≤ u) (h2 : u ≤ K * (X + S)) :
    ((X ≤ c ∧ c ≤ X + S) ∧ ∀ p q : Int, 0 ≤ p → p ≤ q → K * q * X ≤ (q - p) * u + p * (K * c) ∧ (q - p) * u + p * (K * c) ≤ K * q * (X + S)) ∨
    ∃ Z p q : Int, (Z = X ∨ Z = X + S) ∧ 0 ≤ p ∧ p ≤ q ∧ 0 < q ∧ (q - p) * u + p * (K * c) = q * (K * Z) ∧
      ∀ p' q' : Int, 0 ≤ p' → p' ≤ q' → p' * q ≤ p * q' → K * q' * X ≤ (q' - p') * u + p' * (K * c) ∧ (q' - p') * u + p' * (K * c) ≤ K * q' * (X + S) := by
  by_cases a : c < X
  · right
    have e1 : K * c < K * X := Int.mul_lt_mul_of_pos_left a hK
    refine ⟨X, u - K * X, u - K * c, .inl rfl, by omega, by omega, by omega, by grind, fun p q hp hq hle => ?_⟩
    have g1 : 0 ≤ p * (u - K * c) := Int.mul_nonneg hp (by omega)
    have g2 : 0 ≤ q * (K * (X + S) - u) := Int.mul_nonneg (by omega) (by omega)
    constructor
    · have : (q - p) * u + p * (K * c) - K * q * X = (u - K * X) * q - p * (u - K * c) := by grind
      omega
    · have : K * q * (X + S) - ((q - p) * u + p * (K * c)) = q * (K * (X + S) - u) + p * (u - K * c) := by grind
      omega
  · by_cases b : X + S < c
    · right
      have e1 : K * (X + S) < K * c := Int.mul_lt_mul_of_pos_left b hK
      refine ⟨X + S, K * (X + S) - u, K * c - u, .inr rfl, by omega, by omega, by omega, by grind, fun p q hp hq hle => ?_⟩
      have g1 : 0 ≤ p * (K * c - u) := Int.mul_nonneg hp (by omega)
      have g2 : 0 ≤ q * (u - K * X) := Int.mul_nonneg (by omega) (by omega)
      constructor
      · have : (q - p) * u + p * (K * c) - K * q * X = q * (u - K * X) + p * (K * c - u) := by grind
        omega
      · have : K * q * (X + S) - ((q - p) * u + p * (K * c)) = (K * (X + S) - u) * q - p * (K * c - u) := by grind
        omega
    · left
      refine ⟨by omega, fun p q hp hq => ?_⟩
      have e1 : K * X ≤ K * c := Int.mul_le_mul_of_nonneg_left (by omega) (by omega)
      have e2 : K * c ≤ K * (X + S) := Int.mul_le_mul_of_nonneg_left (by omega) (by omega)
      have g1 : 0 ≤ p * (K * c - K * X) := Int.mul_nonneg hp (by omega)
      have g2 : 0 ≤ (q - p) * (u - K * X) := Int.mul_nonneg (by omega) (by omega)
      have g3 : 0 ≤ p * (K * (X + S) - K * c) := Int.mul_nonneg hp (by omega)
      have g4 : 0 ≤ (q - p) * (K * (X + S) - u) := Int.mul_nonneg (by omega) (by omega)
      constructor
      · have : (q - p) * u + p * (K * c) - K * q * X = p * (K * c - K * X) + (q - p) * (u - K * X) := by grind
        omega
      · have : K * q * (X + S) - ((q - p) * u + p * (K * c)) = p * (K * (X + S) - K * c) + (q - p) * (K * (X + S) - u) := by grind
        omega
theorem seg_hor {K a S y u v : Int} (h0 : v = K * y) (h1 : K * a ≤ u) (h2 : u ≤ K * (a + S)) : Seg a y (a + S) y (K * S) (u * S) (v * S) := by
  refine ⟨u - K * a, by omega, ?_, by grind, by grind⟩
  have : K * (a + S) = K * a + K * S := by grind
  omega
theorem seg_ver {K x b S u v : Int} (h0 : u = K * x) (h1 : K * b ≤ v) (h2 : v ≤ K * (b + S)) : Seg x b x (b + S) (K * S) (u * S) (v * S) := by
  refine ⟨v - K * b, by omega, ?_, by grind, by grind⟩
  have : K * (b + S) = K * b + K * S := by grind
  omega
def OnS (X Y S K u v : Int) : Prop := (K * X ≤ u ∧ u ≤ K * (X + S)) ∧ (K * Y ≤ v ∧ v ≤ K * (Y + S)) ∧ (u = K * X ∨ u = K * (X + S) ∨ v = K * Y ∨ v = K * (Y + S))
def InS (X Y S K u v : Int) : Prop := (K * X ≤ u ∧ u ≤ K * (X + S)) ∧ (K * Y ≤ v ∧ v ≤ K * (Y + S))
theorem leave {X Y S K u v c d : Int} (hK : 0 < K) (hi : InS X Y S K u v) (ho : ¬ ((X ≤ c ∧ c ≤ X + S) ∧ Y ≤ d ∧ d ≤ Y + S)) :
    ∃ p q : Int, 0 ≤ p ∧ p ≤ q ∧ 0 < q ∧ OnS X Y S (K * q) ((q - p) * u + p * (K * c)) ((q - p) * v + p * (K * d)) := by
  obtain ⟨⟨h1, h2⟩, h3, h4⟩ := hi
  have ex : ∀ {q Z : Int}, q * (K * Z) = K * q * Z := fun {q Z} => by grind
  rcases dim_one (c := c) hK h1 h2 with ⟨a1, a2⟩ | ⟨Z, p, q, z1, z2, z3, z4, z5, z6⟩
  · rcases dim_one (c := d) hK h3 h4 with ⟨b1, b2⟩ | ⟨Z, p, q, z1, z2, z3, z4, z5, z6⟩
    · exact absurd ⟨a1, b1⟩ ho
    · have r1 := a2 p q z2 z3
      have r2 := z6 p q z2 z3 (Int.le_refl _)
      have z5 := z5.trans ex
      refine ⟨p, q, z2, z3, z4, r1, r2, ?_⟩
      rcases z1 with rfl | rfl
      · exact .inr (.inr (.inl z5))
      · exact .inr (.inr (.inr z5))
  · rcases dim_one (c := d) hK h3 h4 with ⟨b1, b2⟩ | ⟨Z', p', q', y1, y2, y3, y4, y5, y6⟩
    · have r1 := b2 p q z2 z3
      have r2 := z6 p q z2 z3 (Int.le_refl _)
      have z5 := z5.trans ex
      refine ⟨p, q, z2, z3, z4, r2, r1, ?_⟩
      rcases z1 with rfl | rfl
      · exact .inl z5
      · exact .inr (.inl z5)
    · by_cases g : p * q' ≤ p' * q
      · have r1 := y6 p q z2 z3 g
        have r2 := z6 p q z2 z3 (Int.le_refl _)
        have z5 := z5.trans ex
        refine ⟨p, q, z2, z3, z4, r2, r1, ?_⟩
        rcases z1 with rfl | rfl
        · exact .inl z5
        · exact .inr (.inl z5)
      · have r1 := z6 p' q' y2 y3 (by omega)
        have r2 := y6 p' q' y2 y3 (Int.le_refl _)
        have y5 := y5.trans ex
        refine ⟨p', q', y2, y3, y4, r1, r2, ?_⟩
        rcases y1 with rfl | rfl
        · exact .inr (.inr (.inl y5))
        · exact .inr (.inr (.inr y5))
theorem side_edge {X Y S K u v : Int} (h : OnS X Y S K u v) : ∃ j, j < 4 ∧ Seg (cx (rectR X Y S) j) (cy (rectR X Y S) j) (cx (rectR X Y S) (nxt 4 j)) (cy (rectR X Y S) (nxt 4 j)) (K * S) (u * S) (v * S) := by
  obtain ⟨⟨h1, h2⟩, ⟨h3, h4⟩, h5⟩ := h
  rcases h5 with h5 | h5 | h5 | h5
  · exact ⟨3, by omega, seg_swap (seg_ver h5 h3 h4)⟩
  · exact ⟨1, by omega, seg_ver h5 h3 h4⟩
  · exact ⟨0, by omega, seg_hor h5 h1 h2⟩
  · exact ⟨2, by omega, seg_swap (seg_hor h5 h1 h2)⟩
theorem edge_side {X Y S K u v : Int} (hK : 0 < K) (hS : 0 ≤ S) {j : Nat} (hj : j < 4) (h : Seg (cx (rectR X Y S) j) (cy (rectR X Y S) j) (cx (rectR X Y S) (nxt 4 j)) (cy (rectR X Y S) (nxt 4 j)) K u v) : OnS X Y S K u v := by
  have : j = 0 ∨ j = 1 ∨ j = 2 ∨ j = 3 := by omega
  have eS : 0 ≤ K * S := Int.mul_nonneg (by omega) hS
  have eX : K * (X + S) = K * X + K * S := by grind
  have eY : K * (Y + S) = K * Y + K * S := by grind
  rcases this with rfl | rfl | rfl | rfl
  · have h : Seg X Y (X + S) Y K u v := h
    have a1 := seg_ge h (M := X) (by omega) (by omega)
    have a2 := seg_le h (M := X + S) (by omega) (by omega)
    have a3 := seg_ge (seg_flip h) (M := Y) (by omega) (by omega)
    have a4 := seg_le (seg_flip h) (M := Y) (by omega) (by omega)
    exact ⟨⟨a1, a2⟩, ⟨a3, by omega⟩, .inr (.inr (.inl (by omega)))⟩
  · have h : Seg (X + S) Y (X + S) (Y + S) K u v := h
    have a1 := seg_ge h (M := X + S) (by omega) (by omega)
    have a2 := seg_le h (M := X + S) (by omega) (by omega)
    have a3 := seg_ge (seg_flip h) (M := Y) (by omega) (by omega)
    have a4 := seg_le (seg_flip h) (M := Y + S) (by omega) (by omega)
    exact ⟨⟨by omega, a2⟩, ⟨a3, a4⟩, .inr (.inl (by omega))⟩
  · have h : Seg (X + S) (Y + S) X (Y + S) K u v := h
    have a1 := seg_ge h (M := X) (by omega) (by omega)
    have a2 := seg_le h (M := X + S) (by omega) (by omega)
    have a3 := seg_ge (seg_flip h) (M := Y + S) (by omega) (by omega)
    have a4 := seg_le (seg_flip h) (M := Y + S) (by omega) (by omega)
    exact ⟨⟨a1, a2⟩, ⟨by omega, a4⟩, .inr (.inr (.inr (by omega)))⟩
  · have h : Seg X (Y + S) X Y K u v := h
    have a1 := seg_ge h (M := X) (by omega) (by omega)
    have a2 := seg_le h (M := X) (by omega) (by omega)
    have a3 := seg_ge (seg_flip h) (M := Y) (by omega) (by omega)
    have a4 := seg_le (seg_flip h) (M := Y + S) (by omega) (by omega)
    exact ⟨⟨a1, by omega⟩, ⟨a3, a4⟩, .inl (by omega)⟩
theorem part_of {K X s u : Int} {k : Nat} (hK : 0 < K) (hs : 0 < s) (hk : 0 < k) (h1 : K * X ≤ u) (h2 : u ≤ K * (X + (k : Int) * s)) : ∃ a : Nat, a < k ∧ K * (X + (a : Int) * s) ≤ u ∧ u ≤ K * (X + (a : Int) * s + s) := by
  induction k with
  | zero => omega
  | succ n ih =>
    by_cases hn : n = 0
    · subst hn
      exact ⟨0, by omega, by simpa using h1, by simpa using h2⟩
    · by_cases g : u ≤ K * (X + (n : Int) * s)
      · obtain ⟨a, g1, g2, g3⟩ := ih (by omega) g
        exact ⟨a, by omega, g2, g3⟩
      · refine ⟨n, by omega, by omega, ?_⟩
        have : K * (X + ((n + 1 : Nat) : Int) * s) = K * (X + (n : Int) * s + s) := by
          rw [Int.natCast_add]; grind
        omega
end Go.Proofs.Ytcjaembdcfppfaa
/- Chapter 11: what touches a cell touches one of its parts, and the other way round. No program. -/
namespace Go.Proofs.Ytcjaembdcfppfaa
open Go.RowKit
theorem in_greater {X Y S x y s K u v : Int} (hK : 0 < K) (h1 : X ≤ x) (h2 : x + s ≤ X + S) (h3 : Y ≤ y) (h4 : y + s ≤ Y + S) (h : OnS x y s K u v) : InS X Y S K u v := by
  obtain ⟨⟨a1, a2⟩, ⟨a3, a4⟩, _⟩ := h
  have e1 : K * X ≤ K * x := Int.mul_le_mul_of_nonneg_left h1 (by omega)
  have e2 : K * (x + s) ≤ K * (X + S) := Int.mul_le_mul_of_nonneg_left h2 (by omega)
  have e3 : K * Y ≤ K * y := Int.mul_le_mul_of_nonneg_left h3 (by omega)
  have e4 : K * (y + s) ≤ K * (Y + S) := Int.mul_le_mul_of_nonneg_left h4 (by omega)
  exact ⟨⟨by omega, by omega⟩, by omega, by omega⟩
theorem seg_back {ax ay bx by' K u v p q : Int} (hp : 0 ≤ p) (hpq : p ≤ q) (hK : 0 < K) (h : Seg ax ay bx by' K u v) : Seg ax ay bx by' (K * q) ((q - p) * u + p * (K * ax)) ((q - p) * v + p * (K * ay)) := by
  obtain ⟨t, t0, t1, rfl, rfl⟩ := h
  refine ⟨(q - p) * t, Int.mul_nonneg (by omega) t0, ?_, by grind, by grind⟩
  have g1 : (q - p) * t ≤ (q - p) * K := Int.mul_le_mul_of_nonneg_left t1 (by omega)
  have g2 : 0 ≤ p * K := Int.mul_nonneg hp (by omega)
  have g3 : (q - p) * K = K * q - p * K := by grind
  omega
theorem box_place {x y s u v : Int} (h : boxB x (x + s) y (y + s) = true) (hu : (x ≤ u ∧ u ≤ x + s) ∧ y ≤ v ∧ v ≤ y + s) : placeB u v = true := by
  unfold boxB at h
  have h := of_decide_eq_true h
  unfold placeB
  exact decide_eq_true (by omega)
section
variable {P : Rows} {X Y S x y s : Int}
theorem tou_mono (hP : polyB P = true) (hB : boxB X (X + S) Y (Y + S) = true) (hS : 1 ≤ S) (hb : boxB x (x + s) y (y + s) = true) (hs : 1 ≤ s) (h1 : X ≤ x) (h2 : x + s ≤ X + S) (h3 : Y ≤ y) (h4 : y + s ≤ Y + S) (h : touX P (rectR x y s) = true) : touX P (rectR X Y S) = true := by
  have hR := rect_poly hB hS
  have hr := rect_poly hb hs
  rcases (touX_iff hP hr).1 h with ⟨i, j, hi, hj, hm⟩ | hm | hm
  · obtain ⟨K, u, v, hK, g1, g2⟩ := common_of_meet hm
    have g2 := edge_side hK (by omega) hj g2
    have hin := in_greater hK h1 h2 h3 h4 g2
    by_cases hc : (X ≤ cx P i ∧ cx P i ≤ X + S) ∧ Y ≤ cy P i ∧ cy P i ≤ Y + S
    · have hpl := polyB_pl hP hi
      refine tou_on hP hR hpl hi ?_ ((rect_in hB hS hpl).2 hc)
      exact onB_iff.mpr ⟨1, by decide, by simpa using seg_start (cx P i) (cy P i) (cx P (nxt P.length i)) (cy P (nxt P.length i)) (k := 1) (by decide)⟩
    · obtain ⟨p, q, p0, p1, q0, hon⟩ := leave hK hin hc
      obtain ⟨j', hj', hs'⟩ := side_edge hon
      have hP' := seg_scale (seg_back p0 p1 hK g1) (show 0 ≤ S by omega)
      refine (touX_iff hP hR).2 (.inl ⟨i, j', hi, hj', ?_⟩)
      exact meet_of_common ⟨K * q * S, _, _, Int.mul_pos (Int.mul_pos hK q0) (by omega), hP', hs'⟩
  · have hpl : placeB x y = true := box_place hb (by omega)
    exact tou_both hP hR hpl (by rw [show cx (rectR x y s) 0 = x from rfl, show cy (rectR x y s) 0 = y from rfl] at hm; omega) ((rect_in hB hS hpl).2 (by omega))
  · have hpl := polyB_pl hP (show 0 < P.length by have := polyB_len hP; omega)
    have := (rect_in hb hs hpl).1 (by omega)
    rw [← touX_comm hP hR]
    exact tou_corner hR hP ((rect_in hB hS hpl).2 (by omega))
theorem dis_mono {c e d : Int} (hq : placeB c e = true) (hd : 0 ≤ d ∧ d ≤ 3000000) (hB : boxB X (X + S) Y (Y + S) = true) (hS : 1 ≤ S) (hb : boxB x (x + s) y (y + s) = true) (hs : 1 ≤ s) (h1 : X ≤ x) (h2 : x + s ≤ X + S) (h3 : Y ≤ y) (h4 : y + s ≤ Y + S) (h : 0 ≤ disX (rectR x y s) c e d) : 0 ≤ disX (rectR X Y S) c e d := by
  have hR := rect_poly hB hS
  have hr := rect_poly hb hs
  rw [disX_nn] at h ⊢
  rcases h with h | h
  · have := (rect_in hb hs hq).1 h
    exact .inl ((rect_in hB hS hq).2 (by omega))
  · obtain ⟨j, _, hj, hn⟩ := (neaN_iff _ _).1 h
    have hj : j < (rectR x y s).length := by omega
    rw [nearI_eq hr hq hd hj] at hn
    obtain ⟨K, u, v, hK, g1, g2⟩ := seg_of_near hn
    have hin := in_greater hK h1 h2 h3 h4 (edge_side hK (by omega) hj g1)
    by_cases hc : (X ≤ c ∧ c ≤ X + S) ∧ Y ≤ e ∧ e ≤ Y + S
    · exact .inl ((rect_in hB hS hq).2 hc)
    · obtain ⟨p, q, p0, p1, q0, hon⟩ := leave hK hin hc
      obtain ⟨j', hj', hs'⟩ := side_edge hon
      refine .inr ((neaN_iff _ _).2 ⟨j', by omega, by rw [Nat.zero_add]; exact hj', ?_⟩)
      rw [nearI_eq hR hq hd hj']
      refine near_of_seg (Int.mul_pos (Int.mul_pos hK q0) (by omega)) hs' ?_
      have e1 : (K * q * S * c - ((q - p) * u + p * (K * c)) * S) * (K * q * S * c - ((q - p) * u + p * (K * c)) * S) + (K * q * S * e - ((q - p) * v + p * (K * e)) * S) * (K * q * S * e - ((q - p) * v + p * (K * e)) * S) = (S * S) * ((q - p) * (q - p)) * ((K * c - u) * (K * c - u) + (K * e - v) * (K * e - v)) := by grind
      have e2 : K * q * S * d * (K * q * S * d) = (S * S) * (q * q) * (K * d * (K * d)) := by grind
      rw [e1, e2]
      have t1 : 0 ≤ S * S := sq_nn S
      have t2 : (q - p) * (q - p) ≤ q * q := Int.mul_le_mul (by omega) (by omega) (by omega) (by omega)
      have t3 : (S * S) * ((q - p) * (q - p)) ≤ (S * S) * (q * q) := Int.mul_le_mul_of_nonneg_left t2 t1
      have t4 : 0 ≤ (S * S) * (q * q) := Int.mul_nonneg t1 (sq_nn q)
      exact Int.mul_le_mul t3 g2 (Int.add_nonneg (sq_nn _) (sq_nn _)) t4
end
/-! ### A cell of k times k cells -/
section
variable {P : Rows} {X Y s : Int} {k : Nat}
theorem part_box (hk : 0 < k) (hs : 1 ≤ s) {a : Nat} (ha : a < k) (Z : Int) : Z ≤ Z + (a : Int) * s ∧ Z + (a : Int) * s + s ≤ Z + (k : Int) * s := by
  obtain ⟨h1, h2⟩ := step_in (s := s) hs ha
  omega
theorem part_valid (hk : 0 < k) (hs : 1 ≤ s) (hB : boxB X (X + (k : Int) * s) Y (Y + (k : Int) * s) = true) {a b : Nat} (ha : a < k) (hb : b < k) : boxB (X + (a : Int) * s) (X + (a : Int) * s + s) (Y + (b : Int) * s) (Y + (b : Int) * s + s) = true := by
  unfold boxB at hB ⊢
  have hB := of_decide_eq_true hB
  have := part_box hk hs ha X
  have := part_box hk hs hb Y
  exact decide_eq_true (by omega)
theorem side_pos (hk : 0 < k) (hs : 1 ≤ s) : 1 ≤ (k : Int) * s := by
  have := Int.mul_pos (show (0 : Int) < k by omega) (show 0 < s by omega)
  omega
theorem part_side {K u v : Int} (hK : 0 < K) (hk : 0 < k) (hs : 1 ≤ s) (h : OnS X Y ((k : Int) * s) K u v) : ∃ a b : Nat, a < k ∧ b < k ∧ OnS (X + (a : Int) * s) (Y + (b : Int) * s) s K u v := by
  obtain ⟨⟨h1, h2⟩, ⟨h3, h4⟩, h5⟩ := h
  obtain ⟨a, a1, a2, a3⟩ := part_of hK (show 0 < s by omega) hk h1 h2
  obtain ⟨b, b1, b2, b3⟩ := part_of hK (show 0 < s by omega) hk h3 h4
  have last : ∀ Z : Int, Z + ((k - 1 : Nat) : Int) * s + s = Z + (k : Int) * s := fun Z => by
    have : ((k - 1 : Nat) : Int) = (k : Int) - 1 := by omega
    rw [this]; grind
  have first : ∀ Z : Int, Z + ((0 : Nat) : Int) * s = Z := fun Z => by simp
  have mono : ∀ A B : Int, A ≤ B → K * A ≤ K * B := fun A B q => Int.mul_le_mul_of_nonneg_left q (by omega)
  rcases h5 with h5 | h5 | h5 | h5
  · refine ⟨0, b, hk, b1, ⟨?_, ?_⟩, ⟨b2, b3⟩, .inl ?_⟩
    · rw [first]; exact h1
    · rw [first, h5]; exact mono _ _ (by omega)
    · rw [first]; exact h5
  · refine ⟨k - 1, b, by omega, b1, ⟨?_, ?_⟩, ⟨b2, b3⟩, .inr (.inl ?_)⟩
    · rw [h5]; exact mono _ _ (by have := last X; omega)
    · rw [last]; exact h2
    · rw [last]; exact h5
  · refine ⟨a, 0, a1, hk, ⟨a2, a3⟩, ⟨?_, ?_⟩, .inr (.inr (.inl ?_))⟩
    · rw [first]; exact h3
    · rw [first, h5]; exact mono _ _ (by omega)
    · rw [first]; exact h5
  · refine ⟨a, k - 1, a1, by omega, ⟨a2, a3⟩, ⟨?_, ?_⟩, .inr (.inr (.inr ?_))⟩
    · rw [h5]; exact mono _ _ (by have := last Y; omega)
    · rw [last]; exact h4
    · rw [last]; exact h5
theorem part_in_one {u v : Int} (hk : 0 < k) (hs : 1 ≤ s) (h : (X ≤ u ∧ u ≤ X + (k : Int) * s) ∧ Y ≤ v ∧ v ≤ Y + (k : Int) * s) : ∃ a b : Nat, a < k ∧ b < k ∧ (X + (a : Int) * s ≤ u ∧ u ≤ X + (a : Int) * s + s) ∧ Y + (b : Int) * s ≤ v ∧ v ≤ Y + (b : Int) * s + s := by
  obtain ⟨a, a1, a2, a3⟩ := part_of (K := 1) (X := X) (s := s) (u := u) (by decide) (show 0 < s by omega) hk (by omega) (by omega)
  obtain ⟨b, b1, b2, b3⟩ := part_of (K := 1) (X := Y) (s := s) (u := v) (by decide) (show 0 < s by omega) hk (by omega) (by omega)
  exact ⟨a, b, a1, b1, by omega⟩
theorem tou_parts (hP : polyB P = true) (hk : 0 < k) (hs : 1 ≤ s) (hB : boxB X (X + (k : Int) * s) Y (Y + (k : Int) * s) = true) :
    touX P (rectR X Y ((k : Int) * s)) = true ↔ ∃ a b : Nat, a < k ∧ b < k ∧ touX P (rectR (X + (a : Int) * s) (Y + (b : Int) * s) s) = true := by
  have hS := side_pos hk hs
  have hR := rect_poly hB hS
  constructor
  · intro h
    rcases (touX_iff hP hR).1 h with ⟨i, j, hi, hj, hm⟩ | hm | hm
    · obtain ⟨K, u, v, hK, g1, g2⟩ := common_of_meet hm
      obtain ⟨a, b, ha, hb, hon⟩ := part_side hK hk hs (edge_side hK (by omega) hj g2)
      obtain ⟨j', hj', hs'⟩ := side_edge hon
      have hr := rect_poly (part_valid hk hs hB ha hb) hs
      refine ⟨a, b, ha, hb, (touX_iff hP hr).2 (.inl ⟨i, j', hi, hj', ?_⟩)⟩
      exact meet_of_common ⟨K * s, _, _, Int.mul_pos hK (by omega), seg_scale g1 (by omega), hs'⟩
    · have hpl : placeB X Y = true := box_place hB (by omega)
      have hv := part_valid hk hs hB hk hk
      refine ⟨0, 0, hk, hk, tou_both hP (rect_poly hv hs) hpl (by rw [show cx (rectR X Y ((k : Int) * s)) 0 = X from rfl, show cy (rectR X Y ((k : Int) * s)) 0 = Y from rfl] at hm; omega) ((rect_in hv hs hpl).2 ?_)⟩
      simp only [Int.natCast_zero, Int.zero_mul, Int.add_zero]
      omega
    · have hpl := polyB_pl hP (show 0 < P.length by have := polyB_len hP; omega)
      obtain ⟨a, b, ha, hb, hin⟩ := part_in_one hk hs ((rect_in hB hS hpl).1 (by omega))
      have hv := part_valid hk hs hB ha hb
      refine ⟨a, b, ha, hb, ?_⟩
      rw [← touX_comm hP (rect_poly hv hs)]
      exact tou_corner (rect_poly hv hs) hP ((rect_in hv hs hpl).2 hin)
  · rintro ⟨a, b, ha, hb, h⟩
    have p1 := part_box hk hs ha X
    have p2 := part_box hk hs hb Y
    exact tou_mono hP hB hS (part_valid hk hs hB ha hb) hs p1.1 p1.2 p2.1 p2.2 h
theorem dis_parts {c e d : Int} (hq : placeB c e = true) (hd : 0 ≤ d ∧ d ≤ 3000000) (hk : 0 < k) (hs : 1 ≤ s) (hB : boxB X (X + (k : Int) * s) Y (Y + (k : Int) * s) = true) :
    0 ≤ disX (rectR X Y ((k : Int) * s)) c e d ↔ ∃ a b : Nat, a < k ∧ b < k ∧ 0 ≤ disX (rectR (X + (a : Int) * s) (Y + (b : Int) * s) s) c e d := by
  have hS := side_pos hk hs
  have hR := rect_poly hB hS
  constructor
  · intro h
    rcases disX_nn.1 h with h | h
    · obtain ⟨a, b, ha, hb, hin⟩ := part_in_one hk hs ((rect_in hB hS hq).1 h)
      exact ⟨a, b, ha, hb, disX_nn.2 (.inl ((rect_in (part_valid hk hs hB ha hb) hs hq).2 hin))⟩
    · obtain ⟨j, _, hj, hn⟩ := (neaN_iff _ _).1 h
      have hj : j < (rectR X Y ((k : Int) * s)).length := by omega
      rw [nearI_eq hR hq hd hj] at hn
      obtain ⟨K, u, v, hK, g1, g2⟩ := seg_of_near hn
      obtain ⟨a, b, ha, hb, hon⟩ := part_side hK hk hs (edge_side hK (by omega) hj g1)
      obtain ⟨j', hj', hs'⟩ := side_edge hon
      have hr := rect_poly (part_valid hk hs hB ha hb) hs
      refine ⟨a, b, ha, hb, disX_nn.2 (.inr ((neaN_iff _ _).2 ⟨j', by omega, by rw [Nat.zero_add]; exact hj', ?_⟩))⟩
      rw [nearI_eq hr hq hd hj']
      refine near_of_seg (Int.mul_pos hK (by omega)) hs' ?_
      have e1 : (K * s * c - u * s) * (K * s * c - u * s) + (K * s * e - v * s) * (K * s * e - v * s) = (s * s) * ((K * c - u) * (K * c - u) + (K * e - v) * (K * e - v)) := by grind
      have e2 : K * s * d * (K * s * d) = (s * s) * (K * d * (K * d)) := by grind
      rw [e1, e2]
      exact Int.mul_le_mul_of_nonneg_left g2 (sq_nn s)
  · rintro ⟨a, b, ha, hb, h⟩
    have p1 := part_box hk hs ha X
    have p2 := part_box hk hs hb Y
    exact dis_mono hq hd hB hS (part_valid hk hs hB ha hb) hs p1.1 p1.2 p2.1 p2.2 h
end
end Go.Proofs.Ytcjaembdcfppfaa
/- Chapter 11: the plain law of GridCoarse. -/
namespace Go.Proofs.Ytcjaembdcfppfaa
open Go.RowKit
theorem cell_feat {A : Rows} (h : polyB A = true) : featB 1 3 0 0 0 A 0 0 [] = true := by
  rw [featB_iff]
  unfold featP
  exact ⟨by omega, by omega, by omega, by omega, .inr (.inl ⟨.inl rfl, h, rfl, rfl, rfl, rfl⟩)⟩
theorem tch_eq {r : Rows} {f : Nat} {A : Rows} (hf : featRow r f = true) (hA : polyB A = true) : tchB r f A = touchX (lg r f 1) (lg r f 2) (lg r f 3) (lg r f 4) (lr r f 5) 3 0 0 0 A := by
  have h9 : two9 (args18 r f A) = true := by
    have : two9 (args18 r f A) = (featRow r f && featB 1 3 0 0 0 A 0 0 []) := rfl
    rw [this, hf, cell_feat hA]; rfl
  unfold tchB feE feToR
  rw [h9]
  rfl
theorem tch_parts {r : Rows} {f k : Nat} {X Y s : Int} (hf : featRow r f = true) (hk : 0 < k) (hs : 1 ≤ s) (hB : boxB X (X + (k : Int) * s) Y (Y + (k : Int) * s) = true) :
    tchB r f (rectR X Y ((k : Int) * s)) = true ↔ ∃ a b : Nat, a < k ∧ b < k ∧ tchB r f (rectR (X + (a : Int) * s) (Y + (b : Int) * s) s) = true := by
  have hR := rect_poly hB (side_pos hk hs)
  have small : ∀ a b : Nat, a < k → b < k → tchB r f (rectR (X + (a : Int) * s) (Y + (b : Int) * s) s) = touchX (lg r f 1) (lg r f 2) (lg r f 3) (lg r f 4) (lr r f 5) 3 0 0 0 (rectR (X + (a : Int) * s) (Y + (b : Int) * s) s) := fun a b ha hb => tch_eq hf (rect_poly (part_valid hk hs hB ha hb) hs)
  have key : touchX (lg r f 1) (lg r f 2) (lg r f 3) (lg r f 4) (lr r f 5) 3 0 0 0 (rectR X Y ((k : Int) * s)) = true ↔ ∃ a b : Nat, a < k ∧ b < k ∧ touchX (lg r f 1) (lg r f 2) (lg r f 3) (lg r f 4) (lr r f 5) 3 0 0 0 (rectR (X + (a : Int) * s) (Y + (b : Int) * s) s) = true := by
    have hp := featB_iff.mp hf
    obtain ⟨_, _, _, hrad, hk3⟩ := hp
    unfold touchX
    by_cases k4 : lg r f 1 = 4
    · simp [k4]
    · by_cases k3 : lg r f 1 = 3 ∨ lg r f 1 = 6
      · have hP : polyB (lr r f 5) = true := by
          rcases hk3 with ⟨g, _⟩ | ⟨_, g, _⟩ | ⟨g, _⟩
          · omega
          · exact g
          · omega
        simp only [k4, k3, if_true, show ¬ ((3 : Int) = 4) from by decide, or_self, if_false, true_or]
        exact tou_parts hP hk hs hB
      · have hP : placeB (lg r f 2) (lg r f 3) = true := by
          rcases hk3 with ⟨_, g, _⟩ | ⟨g, _⟩ | ⟨g, _⟩
          · exact g
          · omega
          · omega
        simp only [k4, k3, if_true, show ¬ ((3 : Int) = 4) from by decide, or_self, if_false, true_or, decide_eq_true_eq]
        exact dis_parts hP (by omega) hk hs hB
  rw [tch_eq hf hR, key]
  constructor
  · rintro ⟨a, b, ha, hb, h⟩; exact ⟨a, b, ha, hb, by rw [small a b ha hb]; exact h⟩
  · rintro ⟨a, b, ha, hb, h⟩; exact ⟨a, b, ha, hb, by rw [← small a b ha hb]; exact h⟩
section
variable {w h k : Nat} {x y s : Int}
theorem co_part (hk : 0 < k) (hw : 0 < w) (c : Nat) : ∃ a b : Nat, a < k ∧ b < k ∧ cX x s (w * k) c = cX x ((k : Int) * s) w (coIdx (w * k) k c) + (a : Int) * s ∧ cY y s (w * k) c = cY y ((k : Int) * s) w (coIdx (w * k) k c) + (b : Int) * s := by
  obtain ⟨e1, e2⟩ := coIdx_rc (W := w * k) (c := c) hk (Nat.dvd_mul_left k w) (Nat.mul_pos hw hk)
  rw [Nat.mul_div_cancel w hk] at e1 e2
  have split : ∀ q : Nat, (q : Int) * s = ((q / k : Nat) : Int) * ((k : Int) * s) + ((q % k : Nat) : Int) * s := fun q => by
    have h1 : (q : Int) = ((q / k : Nat) : Int) * (k : Int) + ((q % k : Nat) : Int) := by
      have := Nat.div_add_mod q k
      have h2 : ((k * (q / k) + q % k : Nat) : Int) = (q : Int) := by rw [this]
      rw [Int.natCast_add, Int.natCast_mul] at h2
      rw [← h2, Int.mul_comm]
    rw [← Int.mul_assoc, ← Int.add_mul, ← h1]
  refine ⟨c % (w * k) % k, c / (w * k) % k, Nat.mod_lt _ hk, Nat.mod_lt _ hk, ?_, ?_⟩
  · unfold cX
    rw [e1, split (c % (w * k))]
    omega
  · unfold cY
    rw [e2, split (c / (w * k))]
    omega
theorem co_of (hk : 0 < k) (hw : 0 < w) {i : Nat} (hi : i < w * h) {a b : Nat} (ha : a < k) (hb : b < k) :
    ∃ c, c < w * k * (h * k) ∧ coIdx (w * k) k c = i ∧ cX x s (w * k) c = cX x ((k : Int) * s) w i + (a : Int) * s ∧ cY y s (w * k) c = cY y ((k : Int) * s) w i + (b : Int) * s := by
  have r1 : i % w < w := Nat.mod_lt _ hw
  have r2 : i / w < h := by rw [Nat.div_lt_iff_lt_mul hw, Nat.mul_comm h w]; exact hi
  have lt : ∀ {q n d : Nat}, q < n → d < k → q * k + d < n * k := fun {q n d} h1 h2 => by
    have := Nat.mul_le_mul_right k (show q + 1 ≤ n by omega)
    rw [Nat.add_mul, Nat.one_mul] at this
    omega
  have c1 := lt r1 ha
  have c2 := lt r2 hb
  have rc := rc_of (j := i / w * k + b) c1
  have dv : ∀ q d : Nat, d < k → (q * k + d) / k = q := fun q d hd => by
    rw [Nat.add_comm, Nat.add_mul_div_right _ _ hk, Nat.div_eq_of_lt hd, Nat.zero_add]
  have ring : ∀ q d : Nat, ((q * k + d : Nat) : Int) * s = (q : Int) * ((k : Int) * s) + (d : Int) * s := fun q d => by
    rw [Int.natCast_add, Int.natCast_mul, Int.add_mul, Int.mul_assoc]
  refine ⟨(i / w * k + b) * (w * k) + (i % w * k + a), gcell_lt c1 c2, ?_, ?_, ?_⟩
  · unfold coIdx
    rw [rc.1, rc.2, dv _ _ ha, dv _ _ hb, Nat.mul_div_cancel w hk]
    have := Nat.div_add_mod i w
    rw [Nat.mul_comm w] at this
    omega
  · unfold cX
    rw [rc.1, ring]
    omega
  · unfold cY
    rw [rc.2, ring]
    omega
theorem co_same {r : Rows} (hr : listB r = true) (hk : 0 < k) (hw : 0 < w) (hs : 1 ≤ s) (hB : ∀ i, i < w * h → boxB (cX x ((k : Int) * s) w i) (cX x ((k : Int) * s) w i + (k : Int) * s) (cY y ((k : Int) * s) w i) (cY y ((k : Int) * s) w i + (k : Int) * s) = true)
    {i : Nat} (hi : i < w * h) : Grid.at_ (coN (w * k) (h * k) k (mkL r x y s (w * k) (w * k * (h * k))) (w * k * (h * k))) i = mkD r (rectR (cX x ((k : Int) * s) w i) (cY y ((k : Int) * s) w i) ((k : Int) * s)) r.length := by
  obtain ⟨_, hrow, _⟩ := mo_spec hr
  have hdep : ∀ f, f < r.length → 0 ≤ lg r f 6 ∧ lg r f 6 ≤ 100000 := fun f hf => (featB_iff.mp (hrow f hf)).2.2.1
  have hD : ∀ c, c < w * k * (h * k) → 0 ≤ Grid.at_ (mkL r x y s (w * k) (w * k * (h * k))) c ∧ Grid.at_ (mkL r x y s (w * k) (w * k * (h * k))) c ≤ 100000 := fun c hc => by
    rw [at_mkL hc]
    obtain ⟨p1, _, p3⟩ := mkD_spec (r := r) (rectR (cX x s (w * k) c) (cY y s (w * k) c) s) r.length
    refine ⟨?_, p1⟩
    rcases p3 with p3 | ⟨f, f1, _, f3⟩
    · omega
    · rw [f3]; exact (hdep f f1).1
  obtain ⟨g1, g2, g3⟩ := coN_at hk (Nat.dvd_mul_left k w) (Nat.dvd_mul_left k h) (Nat.mul_pos hw hk) hD (w * k * (h * k)) (Nat.le_refl _)
  rw [Nat.mul_div_cancel w hk, Nat.mul_div_cancel h hk] at g1 g3
  obtain ⟨m1, m2, m3⟩ := mkD_spec (r := r) (rectR (cX x ((k : Int) * s) w i) (cY y ((k : Int) * s) w i) ((k : Int) * s)) r.length
  refine Int.le_antisymm ?_ ?_
  · rcases m3 with m3 | ⟨f, f1, f2, f3⟩
    · rw [m3]; exact (g1 i hi).2
    · rw [f3]
      obtain ⟨a, b, ha, hb, ht⟩ := (tch_parts (hrow f f1) hk hs (hB i hi)).1 f2
      obtain ⟨c, c1, c2, c3, c4⟩ := co_of (x := x) (y := y) (s := s) hk hw hi ha hb
      have := g2 c c1
      rw [c2, at_mkL c1, c3, c4] at this
      obtain ⟨_, q2, _⟩ := mkD_spec (r := r) (rectR (cX x ((k : Int) * s) w i + (a : Int) * s) (cY y ((k : Int) * s) w i + (b : Int) * s) s) r.length
      exact Int.le_trans this (q2 f f1 ht)
  · rcases g3 i hi with g3 | ⟨c, c1, c2, c3⟩
    · rw [g3]; exact m1
    · rw [c3, at_mkL c1]
      obtain ⟨a, b, ha, hb, e1, e2⟩ := co_part (x := x) (y := y) (s := s) hk hw c
      rw [c2] at e1 e2
      rw [e1, e2]
      obtain ⟨_, _, q3⟩ := mkD_spec (r := r) (rectR (cX x ((k : Int) * s) w i + (a : Int) * s) (cY y ((k : Int) * s) w i + (b : Int) * s) s) r.length
      rcases q3 with q3 | ⟨f, f1, f2, f3⟩
      · rw [q3]; exact m1
      · rw [f3]
        exact m2 f f1 ((tch_parts (hrow f f1) hk hs (hB i hi)).2 ⟨a, b, ha, hb, f2⟩)
end
end Go.Proofs.Ytcjaembdcfppfaa
