/- MI, merged: Ph, Pi, Pj, Sa. -/
import Derived.Test.YtinfmmofcadjgaaGreatMH
import Derived.Test.YtinfmmofcadjgaaGreatMF
import Derived.Test.YtinfmmofcadjgaaGreatMG
set_option linter.unusedSimpArgs false
set_option linter.unusedVariables false
/- Plane geometry, no program: the winding number of a simple polygon is -1, 0 or 1. -/
namespace Go.Proofs.YtinfmmofcadjgaaGreat
open Go.RowKit

/-! ### Sums -/
def sumZ (f : Nat → Int) : Nat → Int | 0 => 0 | n + 1 => sumZ f n + f n
theorem sumZ_congr {f g : Nat → Int} : ∀ (n : Nat), (∀ k, k < n → f k = g k) → sumZ f n = sumZ g n
  | 0, _ => rfl
  | n + 1, h => by rw [sumZ, sumZ, sumZ_congr n (fun k hk => h k (by omega)), h n (by omega)]
theorem sumZ_zero {f : Nat → Int} : ∀ (n : Nat), (∀ k, k < n → f k = 0) → sumZ f n = 0
  | 0, _ => rfl
  | n + 1, h => by rw [sumZ, sumZ_zero n (fun k hk => h k (by omega)), h n (by omega)]; rfl
theorem sumZ_one {f : Nat → Int} {i : Nat} : ∀ (n : Nat), i < n → (∀ k, k < n → k ≠ i → f k = 0) → sumZ f n = f i
  | 0, h, _ => by omega
  | n + 1, h, hz => by
    rw [sumZ]
    by_cases e : i = n
    · subst e
      rw [sumZ_zero i (fun k hk => hz k (by omega) (by omega))]; omega
    · rw [sumZ_one n (by omega) (fun k hk hk' => hz k (by omega) hk'), hz n (by omega) (by omega)]; omega
theorem sumZ_two {f : Nat → Int} {i j : Nat} (hij : i ≠ j) : ∀ (n : Nat), i < n → j < n → (∀ k, k < n → k ≠ i → k ≠ j → f k = 0) → sumZ f n = f i + f j
  | 0, h, _, _ => by omega
  | n + 1, h1, h2, hz => by
    rw [sumZ]
    by_cases e : i = n
    · subst e
      rw [sumZ_one (i := j) i (by omega) (fun k hk hk' => hz k (by omega) (by omega) hk')]; omega
    · by_cases e' : j = n
      · subst e'
        rw [sumZ_one (i := i) j (by omega) (fun k hk hk' => hz k (by omega) hk' (by omega))]
      · rw [sumZ_two hij n (by omega) (by omega) (fun k hk a b => hz k (by omega) a b), hz n (by omega) (by omega) (by omega)]; omega
theorem sumZ_sub (f g : Nat → Int) : ∀ n, sumZ (fun k => f k - g k) n = sumZ f n - sumZ g n
  | 0 => rfl
  | n + 1 => by rw [sumZ, sumZ, sumZ, sumZ_sub f g n]; omega
theorem sumZ_tele (g : Nat → Int) {n : Nat} (hn : 0 < n) : sumZ (fun k => g (nxt n k) - g k) n = 0 := by
  have h : ∀ m, m + 1 ≤ n → sumZ (fun k => g (nxt n k) - g k) m = g m - g 0 := by
    intro m
    induction m with
    | zero => intro _; simp [sumZ]
    | succ m ih =>
      intro hm
      rw [sumZ, ih (by omega), show nxt n m = m + 1 by unfold nxt; rw [if_neg (by omega)]]; omega
  obtain ⟨m, rfl⟩ : ∃ m, n = m + 1 := ⟨n - 1, by omega⟩
  rw [sumZ, h m (by omega), show nxt (m + 1) m = 0 by unfold nxt; rw [if_pos rfl]]; omega

/-! ### Crossings with their signs -/
def sE (qx qy ax ay bx by' : Int) : Int := if crossP qx qy ax ay bx by' then (if by' < ay then -1 else 1) else 0
def gE (ax ay bx by' px py : Int) : Int := if ay ≤ by' then (if gIn ax ay bx by' px py then 1 else 0) else - (if gIn bx by' ax ay px py then 1 else 0)
def upE (ax ay bx by' : Int) : Int := if ay < by' ∨ (ay = by' ∧ bx < ax) then 1 else 0
theorem sE_flip (qx qy ax ay bx by' : Int) : sE qx qy ax ay bx by' = - sE qx qy bx by' ax ay := by
  unfold sE
  rw [crossP_swap qx qy bx by' ax ay]
  by_cases h : ay = by'
  · have : crossP qx qy ax ay bx by' = false := by unfold crossP; rw [if_neg (by omega)]; exact decide_eq_false (by omega)
    rw [this]; rfl
  · cases crossP qx qy ax ay bx by'
    · rfl
    · simp only [if_true]
      by_cases h' : by' < ay
      · rw [if_pos h', if_neg (by omega)]
      · rw [if_neg h', if_pos (by omega)]; rfl
theorem signed_up {ax ay bx by' px py qx qy : Int} (hy : ay ≤ by') (hpq : py ≤ qy) (hn : meetB ax ay bx by' px py qx qy = false) :
    sE ax ay px py qx qy - sE bx by' px py qx qy = gE ax ay bx by' qx qy - gE ax ay bx by' px py := by
  unfold sE gE crossP gIn
  simp only [if_neg (show ¬ qy < py by omega), if_pos hy, decide_eq_true_eq]
  by_cases h1 : py ≤ ay
  · by_cases h2 : ay < qy
    · by_cases h3 : qy ≤ by'
      · have := par01 hn h1 h2 h3
        (repeat' split) <;> omega
      · have := par02 hn hy h1 (by omega)
        (repeat' split) <;> omega
    · (repeat' split) <;> omega
  · by_cases h2 : py ≤ by'
    · by_cases h3 : by' < qy
      · have := par12 hn (by omega) h2 h3
        (repeat' split) <;> omega
      · have := par11 hn (by omega) hpq (by omega)
        (repeat' split) <;> omega
    · (repeat' split) <;> omega
theorem signed_edge1 {ax ay bx by' px py qx qy : Int} (hy : ay ≤ by') (hn : meetB ax ay bx by' px py qx qy = false) :
    sE ax ay px py qx qy - sE bx by' px py qx qy = gE ax ay bx by' qx qy - gE ax ay bx by' px py := by
  rcases Int.le_total py qy with h | h
  · exact signed_up hy h hn
  · have := signed_up hy h (by rw [meet_swap2]; exact hn)
    rw [sE_flip ax ay px py, sE_flip bx by' px py]; omega
theorem gE_swap {ax ay bx by' px py : Int} (h : ay ≠ by') : gE ax ay bx by' px py = - gE bx by' ax ay px py := by
  unfold gE
  by_cases h' : ay ≤ by'
  · simp only [if_pos h', if_neg (show ¬ by' ≤ ay by omega)]; omega
  · simp only [if_neg h', if_pos (show by' ≤ ay by omega)]
theorem gE_flat {ax ay bx px py : Int} : gE ax ay bx ay px py = 0 := by
  unfold gE gIn
  rw [if_pos (by omega), decide_eq_false (by omega)]; rfl
theorem signed_edge {ax ay bx by' px py qx qy : Int} (hn : meetB ax ay bx by' px py qx qy = false) :
    sE ax ay px py qx qy - sE bx by' px py qx qy = gE ax ay bx by' qx qy - gE ax ay bx by' px py := by
  rcases Int.le_total ay by' with h | h
  · exact signed_edge1 h hn
  · have := signed_edge1 h (by rw [meet_swap1]; exact hn)
    by_cases e : ay = by'
    · subst e
      rw [gE_flat, gE_flat] at this ⊢; omega
    · rw [gE_swap (ax := ax) e, gE_swap (ax := ax) e]; omega
/-- What is collinear is on no side. -/
theorem gE_col {ax ay bx by' px py : Int} (h : crossI ax ay bx by' px py = 0) : gE ax ay bx by' px py = 0 := by
  have h' : crossI bx by' ax ay px py = 0 := by unfold crossI at h ⊢; grind
  unfold gE gIn
  rw [h, h', decide_eq_false (by omega), decide_eq_false (by omega)]
  split <;> rfl
theorem sE_col {qx qy ax ay bx by' : Int} (h : crossI ax ay bx by' qx qy = 0) : sE qx qy ax ay bx by' = 0 := by
  have h' : crossI bx by' ax ay qx qy = 0 := by unfold crossI at h ⊢; grind
  unfold sE crossP
  rw [h, h', decide_eq_false (p := by' ≤ qy ∧ qy < ay ∧ (0 : Int) < 0) (by omega), decide_eq_false (p := ay ≤ qy ∧ qy < by' ∧ (0 : Int) < 0) (by omega)]
  split <;> rfl

/-! ### Corners -/
/-- How the crossings change from the edge a b on to its end b, whose next edge goes to c. -/
def tau (ax ay bx by' cx cy : Int) : Int := - gE ax ay bx by' cx cy + sE ax ay bx by' cx cy
theorem cross_cyc (ax ay bx by' cx cy : Int) : crossI bx by' cx cy ax ay = crossI ax ay bx by' cx cy ∧ crossI cx cy ax ay bx by' = crossI ax ay bx by' cx cy ∧ crossI bx by' ax ay cx cy = - crossI ax ay bx by' cx cy ∧ crossI ax ay cx cy bx by' = - crossI ax ay bx by' cx cy ∧ crossI cx cy bx by' ax ay = - crossI ax ay bx by' cx cy := by
  unfold crossI
  refine ⟨?_, ?_, ?_, ?_, ?_⟩ <;> grind
theorem sE_eq (qx qy ax ay bx by' : Int) : sE qx qy ax ay bx by' = if by' < ay then (if by' ≤ qy ∧ qy < ay ∧ 0 < crossI bx by' ax ay qx qy then -1 else 0) else (if ay ≤ qy ∧ qy < by' ∧ 0 < crossI ax ay bx by' qx qy then 1 else 0) := by
  unfold sE crossP
  by_cases h : by' < ay
  · simp only [if_pos h, decide_eq_true_eq]
  · simp only [if_neg h, decide_eq_true_eq]
theorem sign_mul {u v k : Int} (h : k = u * v) : (0 < u → 0 < v → 0 < k) ∧ (0 < u → v < 0 → k < 0) ∧ (u < 0 → 0 < v → k < 0) ∧ (u < 0 → v < 0 → 0 < k) ∧ (u = 0 → k = 0) ∧ (v = 0 → k = 0) := by
  subst h
  exact ⟨Int.mul_pos, Int.mul_neg_of_pos_of_neg, Int.mul_neg_of_neg_of_pos, fun h1 h2 => by have := Int.mul_pos (show 0 < -u by omega) (show 0 < -v by omega); rw [Int.neg_mul_neg] at this; exact this, fun h => by rw [h, Int.zero_mul], fun h => by rw [h, Int.mul_zero]⟩
theorem corner {ax ay bx by' cx cy : Int} (h : crossI ax ay bx by' cx cy ≠ 0) : upE bx by' cx cy - tau cx cy bx by' ax ay = upE ax ay bx by' + tau ax ay bx by' cx cy := by
  obtain ⟨e1, e2, e3, e4, e5⟩ := cross_cyc ax ay bx by' cx cy
  unfold tau gE gIn upE
  simp only [sE_eq, decide_eq_true_eq, e1, e2, e3, e4, e5]
  have f1 : ay = by' → crossI ax ay bx by' cx cy = (bx - ax) * (cy - ay) := fun h => by unfold crossI; grind
  have f2 : by' = cy → crossI ax ay bx by' cx cy = (by' - ay) * (bx - cx) := fun h => by unfold crossI; grind
  have f3 : ay = cy → crossI ax ay bx by' cx cy = (by' - ay) * (ax - cx) := fun h => by unfold crossI; grind
  clear e1 e2 e3 e4 e5
  generalize crossI ax ay bx by' cx cy = k at *
  rcases Int.lt_trichotomy ay by' with h1 | h1 | h1
  · rcases Int.lt_trichotomy by' cy with h2 | h2 | h2
    · clear f1 f2 f3
      grind
    · have := sign_mul (f2 h2)
      clear f1 f2 f3
      grind
    · rcases Int.lt_trichotomy ay cy with h3 | h3 | h3
      · clear f1 f2 f3
        grind
      · have := sign_mul (f3 h3)
        clear f1 f2 f3
        grind
      · clear f1 f2 f3
        grind
  · have := sign_mul (f1 h1)
    clear f1 f2 f3
    grind
  · rcases Int.lt_trichotomy by' cy with h2 | h2 | h2
    · rcases Int.lt_trichotomy ay cy with h3 | h3 | h3
      · clear f1 f2 f3
        grind
      · have := sign_mul (f3 h3)
        clear f1 f2 f3
        grind
      · clear f1 f2 f3
        grind
    · have := sign_mul (f2 h2)
      clear f1 f2 f3
      grind
    · clear f1 f2 f3
      grind
end Go.Proofs.YtinfmmofcadjgaaGreat
/- Plane geometry, no program: along the border of a simple polygon the winding number beside it is one number. -/
namespace Go.Proofs.YtinfmmofcadjgaaGreat
open Go.RowKit

theorem mul_sign {k u s v : Int} (hk : 0 < k) (hs : 0 < s) (h : k * u = s * v) : (0 < u ↔ 0 < v) ∧ (u < 0 ↔ v < 0) := by
  have p1 : 0 < u → 0 < k * u := Int.mul_pos hk
  have p2 : 0 < v → 0 < s * v := Int.mul_pos hs
  have n1 : u < 0 → k * u < 0 := Int.mul_neg_of_pos_of_neg hk
  have n2 : v < 0 → s * v < 0 := Int.mul_neg_of_pos_of_neg hs
  have z1 : u = 0 → k * u = 0 := fun e => by rw [e, Int.mul_zero]
  have z2 : v = 0 → s * v = 0 := fun e => by rw [e, Int.mul_zero]
  omega
/-- Two points on one side of a line. -/
theorem side_no_meet {ax ay bx by' cx cy dx dy : Int} (h : (0 < crossI cx cy dx dy ax ay ∧ 0 < crossI cx cy dx dy bx by') ∨ (crossI cx cy dx dy ax ay < 0 ∧ crossI cx cy dx dy bx by' < 0)) : meetB ax ay bx by' cx cy dx dy = false := by
  cases hm : meetB ax ay bx by' cx cy dx dy with
  | false => rfl
  | true =>
    obtain ⟨k, x, y, hk, ⟨s, s0, s1, e1, e2⟩, t, t0, t1, f1, f2⟩ := common_of_meet hm
    have E : (k - s) * crossI cx cy dx dy ax ay + s * crossI cx cy dx dy bx by' = 0 := by unfold crossI; grind
    generalize crossI cx cy dx dy ax ay = g at *
    generalize crossI cx cy dx dy bx by' = d at *
    rcases h with ⟨h1, h2⟩ | ⟨h1, h2⟩
    · have q1 := Int.mul_nonneg (show 0 ≤ k - s by omega) (show 0 ≤ g by omega)
      have q2 := Int.mul_nonneg s0 (show 0 ≤ d by omega)
      have z1 : (k - s) * g = 0 := by omega
      have z2 : s * d = 0 := by omega
      have := Int.mul_eq_zero.mp z1
      have := Int.mul_eq_zero.mp z2
      omega
    · have q1 := Int.mul_nonneg (show 0 ≤ k - s by omega) (show 0 ≤ -g by omega)
      have q2 := Int.mul_nonneg s0 (show 0 ≤ -d by omega)
      rw [Int.mul_neg] at q1 q2
      have z1 : (k - s) * g = 0 := by omega
      have z2 : s * d = 0 := by omega
      have := Int.mul_eq_zero.mp z1
      have := Int.mul_eq_zero.mp z2
      omega
/-- (x, y) is the part s / k of the way from a to b. -/
def On' (k s ax ay bx by' x y : Int) : Prop := k * x = k * ax + s * (bx - ax) ∧ k * y = k * ay + s * (by' - ay)
theorem on_rev {k s ax ay bx by' x y : Int} (h : On' k s ax ay bx by' x y) : On' k (k - s) bx by' ax ay x y := by
  obtain ⟨h1, h2⟩ := h
  exact ⟨by grind, by grind⟩
/-- The corner's change does not depend on where on the edge one begins. -/
theorem tau_indep {k s ax ay bx by' cx cy x y : Int} (hk : 0 < k) (hs : 0 ≤ s) (hsk : s < k) (ho : On' k s ax ay bx by' x y) (hc : crossI ax ay bx by' cx cy ≠ 0) : tau x y bx by' cx cy = tau ax ay bx by' cx cy := by
  obtain ⟨ex, ey⟩ := ho
  obtain ⟨c1, c2, c3, c4, c5⟩ := cross_cyc ax ay bx by' cx cy
  obtain ⟨d1, d2, d3, d4, d5⟩ := cross_cyc x y bx by' cx cy
  obtain ⟨b1, b2, b3, b4, b5⟩ := cross_cyc ax ay x y cx cy
  have k1 : k * crossI x y bx by' cx cy = (k - s) * crossI ax ay bx by' cx cy := by unfold crossI; grind
  have k2 : k * crossI ax ay x y cx cy = s * crossI ax ay bx by' cx cy := by unfold crossI; grind
  have k3 : crossI ax ay x y bx by' = 0 := by
    have : k * crossI ax ay x y bx by' = 0 := by unfold crossI; grind
    rcases Int.mul_eq_zero.mp this with h | h
    · omega
    · exact h
  have s1 := mul_sign hk (show 0 < k - s by omega) k1
  have hn : meetB ax ay x y bx by' cx cy = false := side_no_meet (by rw [c1, d1]; omega)
  have h1 := signed_edge hn
  rw [gE_col k3] at h1
  have h2 : gE ax ay bx by' cx cy = gE ax ay x y cx cy + gE x y bx by' cx cy := by
    by_cases hs0 : s = 0
    · subst hs0
      have : x = ax ∧ y = ay := by
        constructor
        · exact Int.eq_of_mul_eq_mul_left (show k ≠ 0 by omega) (by grind)
        · exact Int.eq_of_mul_eq_mul_left (show k ≠ 0 by omega) (by grind)
      obtain ⟨rfl, rfl⟩ := this
      rw [gE_flat]; omega
    · have s2 := mul_sign hk (show 0 < s by omega) k2
      have y1 := mul_sign (k := k) (u := y - ay) (s := s) (v := by' - ay) hk (by omega) (by grind)
      have y2 := mul_sign (k := k) (u := by' - y) (s := k - s) (v := by' - ay) hk (by omega) (by grind)
      unfold gE gIn
      simp only [decide_eq_true_eq, c3, d3, b3]
      generalize crossI ax ay bx by' cx cy = u at *
      generalize crossI x y bx by' cx cy = v at *
      generalize crossI ax ay x y cx cy = w at *
      clear ex ey k1 k2 k3 hn h1 c1 c2 c3 c4 c5 d1 d2 d3 d4 d5 b1 b2 b3 b4 b5
      (repeat' split) <;> omega
  unfold tau
  omega

/-! ### Polygons -/
section
variable (X Y : Nat → Int) (n : Nat)
/-- The winding number. -/
def wind (qx qy : Int) : Int := sumZ (fun k => sE qx qy (X k) (Y k) (X (nxt n k)) (Y (nxt n k))) n
structure Simple : Prop where
  three : 3 ≤ n
  apart : ∀ i k, i < n → k < n → k ≠ i → k ≠ nxt n i → i ≠ nxt n k → meetB (X i) (Y i) (X (nxt n i)) (Y (nxt n i)) (X k) (Y k) (X (nxt n k)) (Y (nxt n k)) = false
  bend : ∀ i, i < n → crossI (X i) (Y i) (X (nxt n i)) (Y (nxt n i)) (X (nxt n (nxt n i))) (Y (nxt n (nxt n i))) ≠ 0
end
section
variable {X Y : Nat → Int} {n : Nat}
theorem nxt_ne {i : Nat} (hn : 3 ≤ n) (hi : i < n) : nxt n i ≠ i ∧ nxt n (nxt n i) ≠ i := by unfold nxt; split <;> split <;> omega
theorem nxt_inj {i k : Nat} (hi : i < n) (hk : k < n) (h : nxt n i = nxt n k) : i = k := by unfold nxt at h; split at h <;> split at h <;> omega
theorem wind_diff {x y vx vy : Int} (hn : 0 < n) : wind X Y n x y - wind X Y n vx vy =
    sumZ (fun k => (sE x y (X k) (Y k) (X (nxt n k)) (Y (nxt n k)) - sE vx vy (X k) (Y k) (X (nxt n k)) (Y (nxt n k))) - (gE x y vx vy (X (nxt n k)) (Y (nxt n k)) - gE x y vx vy (X k) (Y k))) n := by
  rw [sumZ_sub, sumZ_sub, sumZ_tele (fun k => gE x y vx vy (X k) (Y k)) hn]
  unfold wind; omega
theorem cross_same {a b c d : Int} : crossI a b c d a b = 0 ∧ crossI a b c d c d = 0 ∧ crossI a b a b c d = 0 := by unfold crossI; refine ⟨?_, ?_, ?_⟩ <;> grind
theorem on_cross {k s ax ay bx by' x y : Int} (hk : 0 < k) (ho : On' k s ax ay bx by' x y) : crossI ax ay bx by' x y = 0 ∧ crossI x y bx by' ax ay = 0 ∧ crossI x y ax ay bx by' = 0 := by
  obtain ⟨ex, ey⟩ := ho
  have z : ∀ u : Int, k * u = 0 → u = 0 := fun u h => by
    rcases Int.mul_eq_zero.mp h with h | h
    · omega
    · exact h
  refine ⟨z _ ?_, z _ ?_, z _ ?_⟩ <;> (unfold crossI; grind)
theorem on_seg {k s ax ay bx by' x y : Int} (hs : 0 ≤ s) (hsk : s ≤ k) (ho : On' k s ax ay bx by' x y) : Seg ax ay bx by' k (k * x) (k * y) := ⟨s, hs, hsk, ho.1, ho.2⟩
theorem meet_part {ax ay bx by' x y px py qx qy k s : Int} (hk : 0 < k) (hs : 0 ≤ s) (hsk : s ≤ k) (ho : On' k s ax ay bx by' x y) (hm : meetB ax ay bx by' px py qx qy = false) : meetB x y bx by' px py qx qy = false := by
  cases h : meetB x y bx by' px py qx qy with
  | false => rfl
  | true =>
    obtain ⟨m, u, v, hm0, ⟨t, t0, t1, e1, e2⟩, h2⟩ := common_of_meet h
    obtain ⟨o1, o2⟩ := ho
    have : meetB ax ay bx by' px py qx qy = true := by
      refine meet_of_common ⟨m * k, u * k, v * k, Int.mul_pos hm0 hk, ⟨(m - t) * s + t * k, ?_, ?_, ?_, ?_⟩, seg_scale h2 (by omega)⟩
      · exact Int.add_nonneg (Int.mul_nonneg (by omega) hs) (Int.mul_nonneg t0 (by omega))
      · have := Int.mul_le_mul_of_nonneg_left hsk (show 0 ≤ m - t by omega)
        grind
      · grind
      · grind
    rw [this] at hm
    exact absurd hm (by decide)
/-- From within an edge on to its end. -/
theorem wind_end (hp : Simple X Y n) {j : Nat} (hj : j < n) {k s x y : Int} (hs : 0 < s) (hsk : s < k) (ho : On' k s (X j) (Y j) (X (nxt n j)) (Y (nxt n j)) x y) :
    wind X Y n x y = wind X Y n (X (nxt n j)) (Y (nxt n j)) + tau x y (X (nxt n j)) (Y (nxt n j)) (X (nxt n (nxt n j))) (Y (nxt n (nxt n j))) := by
  have hn := hp.three
  have hj' := nxt_lt hj
  obtain ⟨z1, z2, z3⟩ := on_cross (by omega) ho
  have hd := wind_diff (X := X) (Y := Y) (n := n) (x := x) (y := y) (vx := X (nxt n j)) (vy := Y (nxt n j)) (by omega)
  rw [sumZ_two (i := j) (j := nxt n j) (by have := nxt_ne hn hj; omega) n hj hj'] at hd
  · rw [sE_col z1, sE_col cross_same.2.1, gE_col cross_same.2.1, gE_col z2, sE_col cross_same.1] at hd
    unfold tau
    omega
  · intro i hi n1 n2
    have hm : meetB x y (X (nxt n j)) (Y (nxt n j)) (X i) (Y i) (X (nxt n i)) (Y (nxt n i)) = false := by
      by_cases hpr : nxt n i = j
      · have hb := hp.bend i hi
        rw [hpr] at hb ⊢
        refine side_no_meet ?_
        have e : k * crossI (X i) (Y i) (X j) (Y j) x y = s * crossI (X i) (Y i) (X j) (Y j) (X (nxt n j)) (Y (nxt n j)) := by
          obtain ⟨o1, o2⟩ := ho
          unfold crossI; grind
        have := mul_sign (by omega) hs e
        omega
      · exact meet_part (by omega) (by omega) (by omega) ho (hp.apart j i hj hi n1 n2 (fun h => hpr h.symm))
    have := signed_edge hm
    omega
/-- From within an edge back to its beginning. -/
theorem wind_start (hp : Simple X Y n) {j p : Nat} (hj : j < n) (hpn : p < n) (hpj : nxt n p = j) {k s x y : Int} (hs : 0 < s) (hsk : s < k) (ho : On' k s (X j) (Y j) (X (nxt n j)) (Y (nxt n j)) x y) :
    wind X Y n x y = wind X Y n (X j) (Y j) - tau x y (X j) (Y j) (X p) (Y p) := by
  have hn := hp.three
  have hj' := nxt_lt hj
  obtain ⟨z1, z2, z3⟩ := on_cross (by omega) ho
  have hne := nxt_ne hn hpn
  rw [hpj] at hne
  have hd := wind_diff (X := X) (Y := Y) (n := n) (x := x) (y := y) (vx := X j) (vy := Y j) (by omega)
  rw [sumZ_two (i := j) (j := p) hne.1 n hj hpn] at hd
  · have z4 : crossI x y (X j) (Y j) (X j) (Y j) = 0 := cross_same.2.1
    rw [sE_col z1, sE_col cross_same.1, gE_col z4, gE_col z3, hpj, gE_col z4, sE_col (qx := X j) (qy := Y j) cross_same.2.1] at hd
    unfold tau
    rw [sE_flip x y (X j) (Y j) (X p) (Y p)]
    omega
  · intro i hi n1 n2
    have hm : meetB x y (X j) (Y j) (X i) (Y i) (X (nxt n i)) (Y (nxt n i)) = false := by
      by_cases hnx : i = nxt n j
      · have hb := hp.bend j hj
        subst hnx
        refine side_no_meet ?_
        have e : k * crossI (X (nxt n j)) (Y (nxt n j)) (X (nxt n (nxt n j))) (Y (nxt n (nxt n j))) x y = (k - s) * crossI (X (nxt n j)) (Y (nxt n j)) (X (nxt n (nxt n j))) (Y (nxt n (nxt n j))) (X j) (Y j) := by
          obtain ⟨o1, o2⟩ := ho
          unfold crossI; grind
        have := mul_sign (by omega) (show 0 < k - s by omega) e
        have hc := cross_cyc (X j) (Y j) (X (nxt n j)) (Y (nxt n j)) (X (nxt n (nxt n j))) (Y (nxt n (nxt n j)))
        omega
      · have h1 : ¬ (j = nxt n i) := fun h => n2 (nxt_inj hi hpn (by rw [hpj]; exact h.symm))
        exact meet_part (by omega) (by omega) (by omega) (on_rev ho) (by rw [meet_swap1]; exact hp.apart j i hj hi n1 hnx h1)
    have := signed_edge hm
    omega
/-- The winding number beside an edge. -/
def side (X Y : Nat → Int) (n i : Nat) : Int := wind X Y n (X (nxt n i)) (Y (nxt n i)) + upE (X i) (Y i) (X (nxt n i)) (Y (nxt n i)) + tau (X i) (Y i) (X (nxt n i)) (Y (nxt n i)) (X (nxt n (nxt n i))) (Y (nxt n (nxt n i)))
theorem wind_edge (hp : Simple X Y n) {j : Nat} (hj : j < n) {k s x y : Int} (hs : 0 < s) (hsk : s < k) (ho : On' k s (X j) (Y j) (X (nxt n j)) (Y (nxt n j)) x y) : wind X Y n x y + upE (X j) (Y j) (X (nxt n j)) (Y (nxt n j)) = side X Y n j := by
  have h1 := wind_end hp hj hs hsk ho
  have h2 := tau_indep (by omega) (by omega) hsk ho (hp.bend j hj)
  unfold side
  omega
theorem side_next (hp : Simple X Y n) (he : ∀ k, k < n → 2 ∣ X k ∧ 2 ∣ Y k) {i : Nat} (hi : i < n) : side X Y n i = side X Y n (nxt n i) := by
  have hj := nxt_lt hi
  have hl := nxt_lt hj
  obtain ⟨a, ha⟩ := (he _ hj).1
  obtain ⟨b, hb⟩ := (he _ hj).2
  obtain ⟨c, hc⟩ := (he _ hl).1
  obtain ⟨d, hd⟩ := (he _ hl).2
  have ho : On' 2 1 (X (nxt n i)) (Y (nxt n i)) (X (nxt n (nxt n i))) (Y (nxt n (nxt n i))) (a + c) (b + d) := ⟨by omega, by omega⟩
  have h1 := wind_edge hp hj (by omega) (by omega) ho
  have h2 := wind_start hp hj hi rfl (by omega) (by omega) ho
  have hbend := hp.bend i hi
  have hc' := cross_cyc (X i) (Y i) (X (nxt n i)) (Y (nxt n i)) (X (nxt n (nxt n i))) (Y (nxt n (nxt n i)))
  have h3 := tau_indep (cx := X i) (cy := Y i) (by omega) (by omega) (by omega) (on_rev ho) (by omega)
  have h4 := corner hbend
  unfold side at h1 ⊢
  omega
theorem side_const (hp : Simple X Y n) (he : ∀ k, k < n → 2 ∣ X k ∧ 2 ∣ Y k) : ∀ i, i < n → side X Y n i = side X Y n 0
  | 0, _ => rfl
  | i + 1, h => by
    have := side_next hp he (show i < n by omega)
    rw [show nxt n i = i + 1 by unfold nxt; rw [if_neg (by omega)]] at this
    rw [← this, side_const hp he i (by omega)]
end
end Go.Proofs.YtinfmmofcadjgaaGreat
/- Plane geometry, no program: the winding number of a simple polygon is -1, 0 or 1. -/
namespace Go.Proofs.YtinfmmofcadjgaaGreat
open Go.RowKit

theorem exists_min (P : Nat → Prop) (f : Nat → Int) : ∀ n, (∃ k, k < n ∧ P k) → ∃ k, k < n ∧ P k ∧ ∀ i, i < n → P i → f k ≤ f i
  | 0, h => by obtain ⟨k, hk, _⟩ := h; omega
  | n + 1, h => by
    by_cases h' : ∃ k, k < n ∧ P k
    · obtain ⟨k, hk, hp, hm⟩ := exists_min P f n h'
      by_cases hn : P n ∧ f n < f k
      · refine ⟨n, by omega, hn.1, fun i hi hpi => ?_⟩
        by_cases e : i = n
        · subst e; exact Int.le_refl _
        · have := hm i (by omega) hpi; omega
      · refine ⟨k, by omega, hp, fun i hi hpi => ?_⟩
        by_cases e : i = n
        · subst e
          rcases Int.lt_or_le (f i) (f k) with q | q
          · exact absurd ⟨hpi, q⟩ hn
          · exact q
        · exact hm i (by omega) hpi
    · obtain ⟨k, hk, hp⟩ := h
      have e : k = n := by
        by_cases e : k = n
        · exact e
        · exact absurd ⟨k, by omega, hp⟩ h'
      subst e
      refine ⟨k, by omega, hp, fun i hi hpi => ?_⟩
      by_cases e : i = k
      · subst e; exact Int.le_refl _
      · exact absurd ⟨i, by omega, hpi⟩ h'
section
variable {X Y : Nat → Int} {n : Nat}
/-- An edge crosses a level. -/
def Cr (Y : Nat → Int) (n : Nat) (h : Int) (k : Nat) : Prop := (Y k < h ∧ h < Y (nxt n k)) ∨ (Y (nxt n k) < h ∧ h < Y k)
theorem cr_on {h x : Int} {k : Nat} (hc : Cr Y n h k) (hx : crossI (X k) (Y k) (X (nxt n k)) (Y (nxt n k)) x h = 0) : ∃ m s, 0 < s ∧ s < m ∧ On' m s (X k) (Y k) (X (nxt n k)) (Y (nxt n k)) x h := by
  unfold crossI at hx
  rcases hc with hc | hc
  · exact ⟨Y (nxt n k) - Y k, h - Y k, by omega, by omega, by grind, by grind⟩
  · exact ⟨Y k - Y (nxt n k), Y k - h, by omega, by omega, by grind, by grind⟩
theorem sE_level {h x q : Int} {k : Nat} (hc : Cr Y n h k) (hx : crossI (X k) (Y k) (X (nxt n k)) (Y (nxt n k)) x h = 0) :
    sE q h (X k) (Y k) (X (nxt n k)) (Y (nxt n k)) = if q < x then (if Y (nxt n k) < Y k then -1 else 1) else 0 := by
  rw [sE_eq]
  rcases hc with hc | hc
  · have e : crossI (X k) (Y k) (X (nxt n k)) (Y (nxt n k)) q h = (Y (nxt n k) - Y k) * (x - q) := by unfold crossI at hx ⊢; grind
    have hs := sign_mul e
    rw [if_neg (show ¬ Y (nxt n k) < Y k by omega), if_neg (show ¬ Y (nxt n k) < Y k by omega)]
    generalize crossI (X k) (Y k) (X (nxt n k)) (Y (nxt n k)) q h = u at *
    (repeat' split) <;> omega
  · have e : crossI (X (nxt n k)) (Y (nxt n k)) (X k) (Y k) q h = (Y k - Y (nxt n k)) * (x - q) := by unfold crossI at hx ⊢; grind
    have hs := sign_mul e
    rw [if_pos (show Y (nxt n k) < Y k by omega), if_pos (show Y (nxt n k) < Y k by omega)]
    generalize crossI (X (nxt n k)) (Y (nxt n k)) (X k) (Y k) q h = u at *
    (repeat' split) <;> omega
theorem sE_no {h q : Int} {k : Nat} (hg : Y k ≠ h ∧ Y (nxt n k) ≠ h) (hc : ¬ Cr Y n h k) : sE q h (X k) (Y k) (X (nxt n k)) (Y (nxt n k)) = 0 := by
  rw [sE_eq]
  unfold Cr at hc
  (repeat' split) <;> omega
theorem cr_ne (hp : Simple X Y n) {h x : Int} {j k : Nat} (hj : j < n) (hk : k < n) (hjk : k ≠ j) (cj : Cr Y n h j) (ck : Cr Y n h k)
    (xj : crossI (X j) (Y j) (X (nxt n j)) (Y (nxt n j)) x h = 0) (xk : crossI (X k) (Y k) (X (nxt n k)) (Y (nxt n k)) x h = 0) : False := by
  have adj : ∀ {a b : Nat}, a < n → nxt n a = b → Cr Y n h a → crossI (X a) (Y a) (X (nxt n a)) (Y (nxt n a)) x h = 0 → crossI (X b) (Y b) (X (nxt n b)) (Y (nxt n b)) x h = 0 → False := by
    intro a b ha hab ca xa xb
    obtain ⟨m, s, s0, s1, o1, o2⟩ := cr_on ca xa
    have hb := hp.bend a ha
    subst hab
    have e : m * crossI (X (nxt n a)) (Y (nxt n a)) (X (nxt n (nxt n a))) (Y (nxt n (nxt n a))) x h = (m - s) * crossI (X (nxt n a)) (Y (nxt n a)) (X (nxt n (nxt n a))) (Y (nxt n (nxt n a))) (X a) (Y a) := by unfold crossI; grind
    have hc := cross_cyc (X a) (Y a) (X (nxt n a)) (Y (nxt n a)) (X (nxt n (nxt n a))) (Y (nxt n (nxt n a)))
    have hs := mul_sign (by omega) (show 0 < m - s by omega) e
    omega
  by_cases h1 : k = nxt n j
  · exact adj hj h1.symm cj xj xk
  by_cases h2 : j = nxt n k
  · exact adj hk h2.symm ck xk xj
  have hm := hp.apart j k hj hk hjk h1 h2
  obtain ⟨m, s, s0, s1, o⟩ := cr_on cj xj
  obtain ⟨m', s', s0', s1', o'⟩ := cr_on ck xk
  have g1 := seg_scale (m := m') (on_seg (by omega) (by omega) o) (by omega)
  have g2 := seg_scale (m := m) (on_seg (by omega) (by omega) o') (by omega)
  have : meetB (X j) (Y j) (X (nxt n j)) (Y (nxt n j)) (X k) (Y k) (X (nxt n k)) (Y (nxt n k)) = true := by
    refine meet_of_common ⟨m * m', m * x * m', m * h * m', Int.mul_pos (by omega) (by omega), g1, ?_⟩
    rw [show m' * m = m * m' by grind, show m' * x * m = m * x * m' by grind, show m' * h * m = m * h * m' by grind] at g2
    exact g2
  rw [this] at hm
  exact absurd hm (by decide)
theorem wind_core (hp : Simple X Y n) (he : ∀ k, k < n → 2 ∣ X k ∧ 2 ∣ Y k) {q h : Int} (hg : ∀ k, k < n → Y k ≠ h) (xs : Nat → Int) (hx : ∀ k, k < n → Cr Y n h k → crossI (X k) (Y k) (X (nxt n k)) (Y (nxt n k)) (xs k) h = 0) :
    -1 ≤ wind X Y n q h ∧ wind X Y n q h ≤ 1 := by
  have hS : ∀ {p : Int} {k : Nat}, k < n → Cr Y n h k → sE p h (X k) (Y k) (X (nxt n k)) (Y (nxt n k)) = if p < xs k then (if Y (nxt n k) < Y k then -1 else 1) else 0 := fun hk hc => sE_level hc (hx _ hk hc)
  have hN : ∀ {p : Int} {k : Nat}, k < n → ¬ Cr Y n h k → sE p h (X k) (Y k) (X (nxt n k)) (Y (nxt n k)) = 0 := fun hk hc => sE_no ⟨hg _ hk, hg _ (nxt_lt hk)⟩ hc
  by_cases hex : ∃ k, k < n ∧ (Cr Y n h k ∧ q < xs k)
  · obtain ⟨i, hi, ⟨ci, qi⟩, mi⟩ := exists_min (fun k => Cr Y n h k ∧ q < xs k) xs n hex
    obtain ⟨m, hm, ⟨cm, qm⟩, mm⟩ := exists_min (fun k => Cr Y n h k ∧ q < xs k) (fun k => - xs k) n hex
    have e1 : wind X Y n q h - wind X Y n (xs i) h = if Y (nxt n i) < Y i then -1 else 1 := by
      unfold wind
      rw [← sumZ_sub, sumZ_one (i := i) n hi]
      · rw [hS hi ci, hS hi ci, if_pos qi, if_neg (show ¬ xs i < xs i by omega)]; omega
      · intro k hk hki
        by_cases ck : Cr Y n h k
        · rw [hS hk ck, hS hk ck]
          have hne : xs k ≠ xs i := fun e => cr_ne hp hi hk hki ci ck (hx i hi ci) (by rw [← e]; exact hx k hk ck)
          by_cases c1 : q < xs k
          · have := mi k hk ⟨ck, c1⟩
            rw [if_pos c1, if_pos (show xs i < xs k by omega)]; omega
          · rw [if_neg c1, if_neg (show ¬ xs i < xs k by omega)]; rfl
        · rw [hN hk ck, hN hk ck]; rfl
    have e2 : wind X Y n (xs m) h = 0 := by
      refine sumZ_zero n (fun k hk => ?_)
      by_cases ck : Cr Y n h k
      · rw [hS hk ck]
        by_cases c1 : q < xs k
        · have := mm k hk ⟨ck, c1⟩
          rw [if_neg (by omega)]
        · rw [if_neg (by omega)]
      · exact hN hk ck
    obtain ⟨a, s, s0, s1, o⟩ := cr_on ci (hx i hi ci)
    obtain ⟨a', s', s0', s1', o'⟩ := cr_on cm (hx m hm cm)
    have w1 := wind_edge hp hi s0 s1 o
    have w2 := wind_edge hp hm s0' s1' o'
    rw [side_const hp he i hi] at w1
    rw [side_const hp he m hm] at w2
    have hu : ∀ k, Cr Y n h k → upE (X k) (Y k) (X (nxt n k)) (Y (nxt n k)) = if Y (nxt n k) < Y k then 0 else 1 := fun k hc => by
      unfold Cr at hc
      unfold upE
      rcases hc with hc | hc
      · rw [if_pos (by omega), if_neg (by omega)]
      · rw [if_neg (by omega), if_pos (by omega)]
    rw [hu i ci] at w1
    rw [hu m cm] at w2
    clear hu hS hN hex mi mm
    by_cases di : Y (nxt n i) < Y i
    · rw [if_pos di] at e1 w1
      by_cases dm : Y (nxt n m) < Y m
      · rw [if_pos dm] at w2; omega
      · rw [if_neg dm] at w2; omega
    · rw [if_neg di] at e1 w1
      by_cases dm : Y (nxt n m) < Y m
      · rw [if_pos dm] at w2; omega
      · rw [if_neg dm] at w2; omega
  · have : wind X Y n q h = 0 := by
      refine sumZ_zero n (fun k hk => ?_)
      by_cases ck : Cr Y n h k
      · rw [hS hk ck, if_neg (fun c => hex ⟨k, hk, ck, c⟩)]
      · exact hN hk ck
    omega

/-! ### Any simple polygon -/
def prodN (f : Nat → Int) : Nat → Int | 0 => 1 | n + 1 => prodN f n * f n
theorem prodN_pos {f : Nat → Int} (h : ∀ k, 0 < f k) : ∀ n, 0 < prodN f n
  | 0 => by show (0 : Int) < 1; decide
  | n + 1 => Int.mul_pos (prodN_pos h n) (h n)
theorem prodN_dvd {f : Nat → Int} : ∀ n k, k < n → f k ∣ prodN f n
  | 0, k, h => by omega
  | n + 1, k, h => by
    rw [prodN]
    by_cases e : k = n
    · subst e; exact Int.dvd_mul_left _ _
    · exact Int.dvd_trans (prodN_dvd n k (by omega)) (Int.dvd_mul_right _ _)
theorem common_scale {M : Int} (hM : 0 < M) {ax ay bx by' cx cy dx dy : Int} (h : meetB (M * ax) (M * ay) (M * bx) (M * by') (M * cx) (M * cy) (M * dx) (M * dy) = true) : meetB ax ay bx by' cx cy dx dy = true := by
  obtain ⟨k, x, y, hk, ⟨s, s0, s1, e1, e2⟩, t, t0, t1, f1, f2⟩ := common_of_meet h
  refine meet_of_common ⟨k, _, _, hk, ⟨s, s0, s1, rfl, rfl⟩, t, t0, t1, ?_, ?_⟩
  · exact Int.eq_of_mul_eq_mul_left (show M ≠ 0 by omega) (by grind)
  · exact Int.eq_of_mul_eq_mul_left (show M ≠ 0 by omega) (by grind)
theorem simple_scale {M : Int} (hM : 0 < M) (hp : Simple X Y n) : Simple (fun k => M * X k) (fun k => M * Y k) n where
  three := hp.three
  apart := fun i k hi hk h1 h2 h3 => by
    have := hp.apart i k hi hk h1 h2 h3
    cases h : meetB (M * X i) (M * Y i) (M * X (nxt n i)) (M * Y (nxt n i)) (M * X k) (M * Y k) (M * X (nxt n k)) (M * Y (nxt n k)) with
    | false => rfl
    | true => rw [common_scale hM h] at this; exact absurd this (by decide)
  bend := fun i hi => by
    have := hp.bend i hi
    have e : crossI (M * X i) (M * Y i) (M * X (nxt n i)) (M * Y (nxt n i)) (M * X (nxt n (nxt n i))) (M * Y (nxt n (nxt n i))) = M * M * crossI (X i) (Y i) (X (nxt n i)) (Y (nxt n i)) (X (nxt n (nxt n i))) (Y (nxt n (nxt n i))) := by unfold crossI; grind
    rw [e]
    exact fun h => (Int.mul_eq_zero.mp h).elim (fun h => by have := Int.mul_pos hM hM; omega) this
theorem level {K D a q : Int} (hK : 2 ≤ K) (hD : 0 < D) : (K * D * a ≤ K * D * q + D ↔ a ≤ q) ∧ (K * D * q + D < K * D * a ↔ q < a) := by
  have hM : D < K * D := by
    have := Int.mul_le_mul_of_nonneg_right hK (show 0 ≤ D by omega)
    omega
  have p : 0 < K * D := by omega
  constructor
  · constructor
    · intro h
      rcases Int.lt_or_le q a with c | c
      · have := Int.mul_le_mul_of_nonneg_left (show q + 1 ≤ a by omega) (show 0 ≤ K * D by omega)
        rw [Int.mul_add] at this; omega
      · exact c
    · intro h
      have := Int.mul_le_mul_of_nonneg_left h (show 0 ≤ K * D by omega)
      omega
  · constructor
    · intro h
      rcases Int.lt_or_le q a with c | c
      · exact c
      · have := Int.mul_le_mul_of_nonneg_left c (show 0 ≤ K * D by omega)
        omega
    · intro h
      have := Int.mul_le_mul_of_nonneg_left (show q + 1 ≤ a by omega) (show 0 ≤ K * D by omega)
      rw [Int.mul_add] at this; omega
theorem cross_shift {K D ax ay bx by' qx qy : Int} (hK : 2 ≤ K) (hD : 0 < D) (hb : -K < bx - ax ∧ bx - ax < K) (hc : crossI ax ay bx by' qx qy ≠ 0) :
    0 < crossI (K * D * ax) (K * D * ay) (K * D * bx) (K * D * by') (K * D * qx) (K * D * qy + D) ↔ 0 < crossI ax ay bx by' qx qy := by
  have e : crossI (K * D * ax) (K * D * ay) (K * D * bx) (K * D * by') (K * D * qx) (K * D * qy + D) = (K * D * D) * (K * crossI ax ay bx by' qx qy + (bx - ax)) := by unfold crossI; grind
  have p : 0 < K * D * D := Int.mul_pos (Int.mul_pos (by omega) hD) hD
  have hs := sign_mul e
  generalize crossI ax ay bx by' qx qy = u at *
  generalize crossI (K * D * ax) (K * D * ay) (K * D * bx) (K * D * by') (K * D * qx) (K * D * qy + D) = v at *
  rcases Int.lt_or_lt_of_ne hc with h | h
  · have := Int.mul_le_mul_of_nonneg_left (show u ≤ -1 by omega) (show 0 ≤ K by omega)
    omega
  · have := Int.mul_le_mul_of_nonneg_left (show 1 ≤ u by omega) (show 0 ≤ K by omega)
    omega
theorem sE_shift {K D ax ay bx by' qx qy : Int} (hK : 2 ≤ K) (hD : 0 < D) (hb : -K < bx - ax ∧ bx - ax < K) (hn : onB qx qy ax ay bx by' = false) :
    sE (K * D * qx) (K * D * qy + D) (K * D * ax) (K * D * ay) (K * D * bx) (K * D * by') = sE qx qy ax ay bx by' := by
  have hM : 0 < K * D := Int.mul_pos (by omega) hD
  have l1 := level (a := ay) (q := qy) hK hD
  have l2 := level (a := by') (q := qy) hK hD
  have e1 : K * D * by' < K * D * ay ↔ by' < ay := ⟨fun h => Int.lt_of_mul_lt_mul_left h (by omega), fun h => Int.mul_lt_mul_of_pos_left h hM⟩
  rw [sE_eq, sE_eq]
  by_cases h : by' < ay
  · rw [if_pos h, if_pos (e1.mpr h)]
    by_cases c : by' ≤ qy ∧ qy < ay
    · have hc : crossI bx by' ax ay qx qy ≠ 0 := fun z => by
        have z' : crossI ax ay bx by' qx qy = 0 := by unfold crossI at z ⊢; grind
        rw [on_of_y z' (by omega) (by omega) (by omega)] at hn; exact absurd hn (by decide)
      have := cross_shift hK hD (show -K < ax - bx ∧ ax - bx < K by omega) hc
      by_cases c1 : 0 < crossI bx by' ax ay qx qy
      · rw [if_pos ⟨by omega, by omega, this.mpr c1⟩, if_pos ⟨c.1, c.2, c1⟩]
      · rw [if_neg (fun g => c1 (this.mp g.2.2)), if_neg (fun g => c1 g.2.2)]
    · rw [if_neg (fun g => c ⟨l2.1.mp g.1, l1.2.mp g.2.1⟩), if_neg (fun g => c ⟨g.1, g.2.1⟩)]
  · rw [if_neg h, if_neg (fun g => h (e1.mp g))]
    by_cases c : ay ≤ qy ∧ qy < by'
    · have hc : crossI ax ay bx by' qx qy ≠ 0 := fun z => by
        rw [on_of_y z (by omega) (by omega) (by omega)] at hn; exact absurd hn (by decide)
      have := cross_shift hK hD hb hc
      by_cases c1 : 0 < crossI ax ay bx by' qx qy
      · rw [if_pos ⟨by omega, by omega, this.mpr c1⟩, if_pos ⟨c.1, c.2, c1⟩]
      · rw [if_neg (fun g => c1 (this.mp g.2.2)), if_neg (fun g => c1 g.2.2)]
    · rw [if_neg (fun g => c ⟨l1.1.mp g.1, l2.2.mp g.2.1⟩), if_neg (fun g => c ⟨g.1, g.2.1⟩)]
/-- The winding number of a simple polygon about a place that is on no edge. -/
theorem wind_le (hp : Simple X Y n) {K : Int} (hK : 2 ≤ K) (hb : ∀ i k, i < n → k < n → -K < X i - X k ∧ X i - X k < K) {qx qy : Int} (hq : ∀ k, k < n → onB qx qy (X k) (Y k) (X (nxt n k)) (Y (nxt n k)) = false) :
    -1 ≤ wind X Y n qx qy ∧ wind X Y n qx qy ≤ 1 := by
  obtain ⟨P, hP⟩ : ∃ P, prodN (fun k => max 1 (max (Y (nxt n k) - Y k) (Y k - Y (nxt n k)))) n = P := ⟨_, rfl⟩
  have hP0 : 0 < P := by rw [← hP]; exact prodN_pos (fun k => by omega) n
  have hdv : ∀ k, k < n → Y (nxt n k) ≠ Y k → ∃ e, 2 * P = (Y (nxt n k) - Y k) * e := by
    intro k hk hne
    obtain ⟨e, he⟩ := prodN_dvd (f := fun k => max 1 (max (Y (nxt n k) - Y k) (Y k - Y (nxt n k)))) n k hk
    rw [hP] at he
    rcases Int.lt_or_le (Y k) (Y (nxt n k)) with h | h
    · exact ⟨2 * e, by rw [he, show max 1 (max (Y (nxt n k) - Y k) (Y k - Y (nxt n k))) = Y (nxt n k) - Y k by omega]; grind⟩
    · exact ⟨-(2 * e), by rw [he, show max 1 (max (Y (nxt n k) - Y k) (Y k - Y (nxt n k))) = Y k - Y (nxt n k) by omega]; grind⟩
  have hD : 0 < 2 * P := by omega
  have hM : 0 < K * (2 * P) := Int.mul_pos (by omega) hD
  have hw : wind (fun k => K * (2 * P) * X k) (fun k => K * (2 * P) * Y k) n (K * (2 * P) * qx) (K * (2 * P) * qy + 2 * P) = wind X Y n qx qy :=
    sumZ_congr n (fun k hk => sE_shift hK hD (hb _ _ (nxt_lt hk) hk) (hq k hk))
  rw [← hw]
  have hlev : ∀ k, K * (2 * P) * Y k ≠ K * (2 * P) * qy + 2 * P := fun k h => by
    have h1 := (level (a := Y k) (q := qy) hK hD).1.mp (by omega)
    have := Int.mul_le_mul_of_nonneg_left h1 (show 0 ≤ K * (2 * P) by omega)
    omega
  have hxs : ∀ k, ∃ x, k < n → Cr (fun k => K * (2 * P) * Y k) n (K * (2 * P) * qy + 2 * P) k → crossI (K * (2 * P) * X k) (K * (2 * P) * Y k) (K * (2 * P) * X (nxt n k)) (K * (2 * P) * Y (nxt n k)) x (K * (2 * P) * qy + 2 * P) = 0 := by
    intro k
    by_cases hk : k < n
    · by_cases hne : Y (nxt n k) = Y k
      · refine ⟨0, fun _ hc => ?_⟩
        simp only [Cr, hne] at hc
        omega
      · obtain ⟨e, he⟩ := hdv k hk hne
        refine ⟨K * (2 * P) * X k + (X (nxt n k) - X k) * e * (K * (qy - Y k) + 1), fun _ _ => ?_⟩
        generalize 2 * P = D at *
        unfold crossI
        grind
    · exact ⟨0, fun h => absurd h hk⟩
  have hxs' := fun k => Classical.choose_spec (hxs k)
  exact wind_core (simple_scale hM hp) (fun k _ => ⟨⟨K * P * X k, by grind⟩, ⟨K * P * Y k, by grind⟩⟩) (fun k _ => hlev k) (fun k => Classical.choose (hxs k)) (fun k hk hc => hxs' k hk hc)
end
end Go.Proofs.YtinfmmofcadjgaaGreat
/- Plane geometry, no program: sectors' directions by angles and by cross products. -/
namespace Go.Proofs.YtinfmmofcadjgaaGreat
open Go.RowKit
def dirB (x y : Int) : Bool := decide ((-1000000 ≤ x ∧ x ≤ 1000000) ∧ (-1000000 ≤ y ∧ y ≤ 1000000) ∧ ¬ (x = 0 ∧ y = 0))
theorem dirB_iff {x y : Int} : dirB x y = true ↔ (-1000000 ≤ x ∧ x ≤ 1000000) ∧ (-1000000 ≤ y ∧ y ≤ 1000000) ∧ ¬ (x = 0 ∧ y = 0) := by unfold dirB; exact decide_eq_true_iff
/-- The cross product. -/
def crs (a b c d : Int) : Int := a * d - b * c
def alikeP (a b c d : Int) : Prop := crs a b c d = 0 ∧ 0 < a * c + b * d
instance (a b c d : Int) : Decidable (alikeP a b c d) := by unfold alikeP; infer_instance
/-- What the reference says of a sector and a direction. -/
def hasP (a b c d x y : Int) : Prop := alikeP a b c d ∨ alikeP a b x y ∨ (¬ alikeP c d x y ∧ (if 0 < crs a b x y then (0 < crs x y c d ∨ crs a b c d ≤ 0) else (0 < crs x y c d ∧ crs a b c d < 0)))
instance (a b c d x y : Int) : Decidable (hasP a b c d x y) := by unfold hasP; infer_instance
theorem crsW_eq {a b c d : Int} (h1 : dirB a b = true) (h2 : dirB c d = true) : crsW a b c d = crs a b c d := by
  rw [dirB_iff] at h1 h2
  have m1 := mul_abs (a := a) (b := d) (A := 1000000) (B := 1000000) (by omega) (by omega) (by omega) (by omega)
  have m2 := mul_abs (a := b) (b := c) (A := 1000000) (B := 1000000) (by omega) (by omega) (by omega) (by omega)
  unfold crsW crs
  rw [wrap_in (a * d) (by omega) (by omega), wrap_in (b * c) (by omega) (by omega), wrap_in _ (by omega) (by omega)]
/-- Above 0 for the directions of the first half turn, below 0 for the others. -/
def lin (x y : Int) : Int := 1000001 * y + x
theorem lin_up {x y : Int} (h : dirB x y = true) : (0 < lin x y ↔ (0 < y ∨ (y = 0 ∧ 0 < x))) ∧ lin x y ≠ 0 := by
  rw [dirB_iff] at h
  unfold lin
  omega
theorem comp_neg {a b c d : Int} (h1 : dirB a b = true) (h2 : dirB c d = true) : compI a b c d = -1 ↔ (0 < lin a b ∧ lin c d < 0) ∨ (((0 < lin a b ∧ 0 < lin c d) ∨ (lin a b < 0 ∧ lin c d < 0)) ∧ 0 < crs a b c d) := by
  have l1 := lin_up h1
  have l2 := lin_up h2
  unfold compI
  rw [crsW_eq h1 h2]
  generalize crs a b c d = k
  (repeat' split) <;> omega
theorem comp_pos {a b c d : Int} (h1 : dirB a b = true) (h2 : dirB c d = true) : (compI a b c d = 1 ∨ ¬ compI a b c d ≤ 0) ↔ (lin a b < 0 ∧ 0 < lin c d) ∨ (((0 < lin a b ∧ 0 < lin c d) ∨ (lin a b < 0 ∧ lin c d < 0)) ∧ crs a b c d < 0) := by
  have l1 := lin_up h1
  have l2 := lin_up h2
  unfold compI
  rw [crsW_eq h1 h2]
  generalize crs a b c d = k
  (repeat' split) <;> omega
theorem comp_le {a b c d : Int} : compI a b c d ≤ 0 ↔ ¬ compI a b c d = 1 := by
  unfold compI
  (repeat' split) <;> omega
theorem comp_one {a b c d : Int} (h1 : dirB a b = true) (h2 : dirB c d = true) : compI a b c d = 1 ↔ (lin a b < 0 ∧ 0 < lin c d) ∨ (((0 < lin a b ∧ 0 < lin c d) ∨ (lin a b < 0 ∧ lin c d < 0)) ∧ crs a b c d < 0) := by
  rw [← comp_pos h1 h2]
  have := @comp_le a b c d
  omega
theorem comp_three {a b c d : Int} : compI a b c d = -1 ∨ compI a b c d = 0 ∨ compI a b c d = 1 := by
  unfold compI
  (repeat' split) <;> omega
theorem comp_zero {a b c d : Int} (h1 : compI a b c d ≠ -1) (h2 : compI a b c d ≠ 1) : compI a b c d = 0 := by
  have := @comp_three a b c d
  omega
theorem alike_iff {a b c d : Int} (h1 : dirB a b = true) (h2 : dirB c d = true) : alikeP a b c d ↔ crs a b c d = 0 ∧ ((0 < lin a b ∧ 0 < lin c d) ∨ (lin a b < 0 ∧ lin c d < 0)) := by
  unfold alikeP
  have n1 := (lin_up h1).2
  have n2 := (lin_up h2).2
  rw [dirB_iff] at h1
  have hp : 0 < a * a + b * b := by
    have q1 := sq_nn a
    have q2 := sq_nn b
    rcases Int.lt_or_le 0 (a * a + b * b) with h | h
    · exact h
    · have z1 : a * a = 0 := by omega
      have z2 : b * b = 0 := by omega
      have := Int.mul_eq_zero.mp z1
      have := Int.mul_eq_zero.mp z2
      omega
  constructor
  · rintro ⟨h, hd⟩
    refine ⟨h, ?_⟩
    have e : (a * a + b * b) * lin c d = (a * c + b * d) * lin a b := by unfold crs at h; unfold lin; grind
    have := mul_sign hp hd e
    omega
  · rintro ⟨h, hl⟩
    refine ⟨h, ?_⟩
    have e : (a * a + b * b) * lin c d = (a * c + b * d) * lin a b := by unfold crs at h; unfold lin; grind
    have s1 := sign_mul (k := (a * a + b * b) * lin c d) rfl
    have s2 := sign_mul e
    omega
/-! Signs -/
def sg (z : Int) : Ordering := if z < 0 then .lt else if z = 0 then .eq else .gt
def ms (u : Ordering) (m : Bool) : Ordering := if m then u else u.swap
/-- Signs that two numbers and their sum can have. -/
def consB (a b c : Ordering) : Bool := match a, b with
  | .gt, .lt => true
  | .lt, .gt => true
  | .eq, b => b == c
  | a, _ => a == c
def compS (l m : Bool) (w : Ordering) : Ordering := if l then (if m then w.swap else .lt) else (if m then .gt else w.swap)
def alikeS (l m : Bool) (w : Ordering) : Bool := (w == .eq) && (l == m)
def hasS (l m o : Bool) (u v w : Ordering) : Bool := match compS l m w with
  | .lt => (compS l o u != .gt) && (compS m o v.swap == .gt)
  | .gt => (compS l o u != .gt) || (compS m o v.swap == .gt)
  | .eq => true
def refS (l m o : Bool) (u v w : Ordering) : Bool := alikeS l m w || (alikeS l o u || (!alikeS m o v && (if u == .gt then (v == .gt) || (w != .gt) else (v == .gt) && (w == .lt))))
theorem sign_law : ∀ (l m o : Bool) (u v w : Ordering), consB (ms u m) (ms v l) (ms w o) = true → hasS l m o u v w = refS l m o u v w := by
  intro l m o u v w
  cases l <;> cases m <;> cases o <;> cases u <;> cases v <;> cases w <;> decide
theorem sg_lt {z : Int} : sg z = .lt ↔ z < 0 := by unfold sg; (repeat' split) <;> simp <;> omega
theorem sg_eq {z : Int} : sg z = .eq ↔ z = 0 := by unfold sg; (repeat' split) <;> simp <;> omega
theorem sg_gt {z : Int} : sg z = .gt ↔ 0 < z := by unfold sg; (repeat' split) <;> simp <;> omega
theorem sg_neg (z : Int) : sg (-z) = (sg z).swap := by
  rcases Int.lt_trichotomy z 0 with h | h | h
  · rw [sg_lt.mpr h, sg_gt.mpr (show 0 < -z by omega)]; rfl
  · subst h; rfl
  · rw [sg_gt.mpr h, sg_lt.mpr (show -z < 0 by omega)]; rfl
theorem sg_mul {u m : Int} (hm : m ≠ 0) : sg (u * m) = ms (sg u) (decide (0 < m)) := by
  have s := sign_mul (k := u * m) rfl
  unfold ms
  rcases Int.lt_trichotomy u 0 with h | h | h <;> rcases Int.lt_or_lt_of_ne hm with g | g
  · rw [sg_lt.mpr h, decide_eq_false (by omega), sg_gt.mpr (by omega)]; rfl
  · rw [sg_lt.mpr h, decide_eq_true g, sg_lt.mpr (by omega)]; rfl
  · rw [sg_eq.mpr h, sg_eq.mpr (by omega)]; split <;> rfl
  · rw [sg_eq.mpr h, sg_eq.mpr (by omega)]; split <;> rfl
  · rw [sg_gt.mpr h, decide_eq_false (by omega), sg_lt.mpr (by omega)]; rfl
  · rw [sg_gt.mpr h, decide_eq_true g, sg_gt.mpr (by omega)]; rfl
theorem sg_sum {a b c : Int} (h : a + b = c) : consB (sg a) (sg b) (sg c) = true := by
  rcases Int.lt_trichotomy a 0 with ha | ha | ha <;> rcases Int.lt_trichotomy b 0 with hb | hb | hb
  · rw [sg_lt.mpr ha, sg_lt.mpr hb, sg_lt.mpr (show c < 0 by omega)]; rfl
  · rw [sg_lt.mpr ha, sg_eq.mpr hb, sg_lt.mpr (show c < 0 by omega)]; rfl
  · rw [sg_lt.mpr ha, sg_gt.mpr hb]; rfl
  · rw [sg_eq.mpr ha, sg_lt.mpr hb, sg_lt.mpr (show c < 0 by omega)]; rfl
  · rw [sg_eq.mpr ha, sg_eq.mpr hb, sg_eq.mpr (show c = 0 by omega)]; rfl
  · rw [sg_eq.mpr ha, sg_gt.mpr hb, sg_gt.mpr (show 0 < c by omega)]; rfl
  · rw [sg_gt.mpr ha, sg_lt.mpr hb]; rfl
  · rw [sg_gt.mpr ha, sg_eq.mpr hb, sg_gt.mpr (show 0 < c by omega)]; rfl
  · rw [sg_gt.mpr ha, sg_gt.mpr hb, sg_gt.mpr (show 0 < c by omega)]; rfl
theorem comp_sg {a b c d : Int} (h1 : dirB a b = true) (h2 : dirB c d = true) : sg (compI a b c d) = compS (decide (0 < lin a b)) (decide (0 < lin c d)) (sg (crs a b c d)) := by
  have n1 := (lin_up h1).2
  have n2 := (lin_up h2).2
  have c1 := comp_neg h1 h2
  have c2 := comp_one h1 h2
  have c3 := @comp_le a b c d
  unfold compS
  by_cases l : 0 < lin a b <;> by_cases m : 0 < lin c d
  · rw [decide_eq_true l, decide_eq_true m]
    rcases Int.lt_trichotomy (crs a b c d) 0 with k | k | k
    · rw [sg_lt.mpr k, sg_gt.mpr (by omega)]; rfl
    · rw [sg_eq.mpr k, sg_eq.mpr (comp_zero (by omega) (by omega))]; rfl
    · rw [sg_gt.mpr k, sg_lt.mpr (by omega)]; rfl
  · rw [decide_eq_true l, decide_eq_false m, sg_lt.mpr (by omega)]; rfl
  · rw [decide_eq_false l, decide_eq_true m, sg_gt.mpr (by omega)]; rfl
  · rw [decide_eq_false l, decide_eq_false m]
    rcases Int.lt_trichotomy (crs a b c d) 0 with k | k | k
    · rw [sg_lt.mpr k, sg_gt.mpr (by omega)]; rfl
    · rw [sg_eq.mpr k, sg_eq.mpr (comp_zero (by omega) (by omega))]; rfl
    · rw [sg_gt.mpr k, sg_lt.mpr (by omega)]; rfl
theorem alike_sg {a b c d : Int} (h1 : dirB a b = true) (h2 : dirB c d = true) : decide (alikeP a b c d) = alikeS (decide (0 < lin a b)) (decide (0 < lin c d)) (sg (crs a b c d)) := by
  have n1 := (lin_up h1).2
  have n2 := (lin_up h2).2
  rw [Bool.eq_iff_iff, decide_eq_true_eq, alike_iff h1 h2]
  unfold alikeS
  rw [Bool.and_eq_true, beq_iff_eq, beq_iff_eq, sg_eq, decide_eq_decide]
  omega
theorem has_eq {a b c d x y : Int} (h1 : dirB a b = true) (h2 : dirB c d = true) (h3 : dirB x y = true) : hasB a b c d x y = decide (hasP a b c d x y) := by
  have n1 := (lin_up h1).2
  have n2 := (lin_up h2).2
  have n3 := (lin_up h3).2
  have e : crs a b x y * lin c d + crs x y c d * lin a b = crs a b c d * lin x y := by unfold crs lin; grind
  have hc := sg_sum e
  rw [sg_mul n2, sg_mul n1, sg_mul n3] at hc
  have r1 : crs c d x y = - crs x y c d := by unfold crs; grind
  have law := sign_law _ _ _ _ _ _ hc
  have hl : hasB a b c d x y = hasS (decide (0 < lin a b)) (decide (0 < lin c d)) (decide (0 < lin x y)) (sg (crs a b x y)) (sg (crs x y c d)) (sg (crs a b c d)) := by
    unfold hasS
    rw [← comp_sg h1 h2, ← comp_sg h1 h3, ← sg_neg, ← r1, ← comp_sg h2 h3]
    unfold hasB
    have b1 : decide (compI a b x y ≤ 0) = (sg (compI a b x y) != .gt) := by
      rw [Bool.eq_iff_iff, decide_eq_true_eq, bne_iff_ne, ne_eq, sg_gt]; omega
    have b2 : (!decide (compI c d x y ≤ 0)) = (sg (compI c d x y) == .gt) := by
      rw [Bool.eq_iff_iff, Bool.not_eq_true', decide_eq_false_iff_not, beq_iff_eq, sg_gt]; omega
    rw [b1, b2]
    have c0 := @comp_three a b c d
    by_cases p1 : compI a b c d = -1
    · rw [if_pos p1, sg_lt.mpr (show compI a b c d < 0 by omega)]
    · rw [if_neg p1]
      by_cases p2 : compI a b c d = 1
      · rw [if_pos p2, sg_gt.mpr (show 0 < compI a b c d by omega)]
      · rw [if_neg p2, sg_eq.mpr (show compI a b c d = 0 by omega)]
  rw [hl, law]
  unfold refS
  have a3 : alikeP c d x y ↔ crs x y c d = 0 ∧ ((0 < lin c d ∧ 0 < lin x y) ∨ (lin c d < 0 ∧ lin x y < 0)) := by
    rw [alike_iff h2 h3, r1]; omega
  have a3' : alikeS (decide (0 < lin c d)) (decide (0 < lin x y)) (sg (crs x y c d)) = decide (alikeP c d x y) := by
    rw [Bool.eq_iff_iff, decide_eq_true_eq, a3]
    unfold alikeS
    rw [Bool.and_eq_true, beq_iff_eq, beq_iff_eq, sg_eq, decide_eq_decide]
    omega
  rw [← alike_sg h1 h2, ← alike_sg h1 h3, a3']
  rw [Bool.eq_iff_iff, decide_eq_true_eq]
  unfold hasP
  simp only [Bool.or_eq_true, Bool.and_eq_true, Bool.not_eq_true', decide_eq_true_eq, decide_eq_false_iff_not]
  by_cases q : 0 < crs a b x y
  · rw [if_pos q, if_pos (beq_iff_eq.mpr (sg_gt.mpr q))]
    simp only [Bool.or_eq_true, beq_iff_eq, bne_iff_ne, ne_eq, sg_gt, Int.not_lt]
  · rw [if_neg q, if_neg (fun h => q (sg_gt.mp (beq_iff_eq.mp h)))]
    simp only [Bool.and_eq_true, beq_iff_eq, sg_gt, sg_lt]
end Go.Proofs.YtinfmmofcadjgaaGreat
