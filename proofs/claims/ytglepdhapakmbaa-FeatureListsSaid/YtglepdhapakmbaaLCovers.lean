/- LCovers, merged: Qk, Ql, Ej. -/
import Derived.Test.YtglepdhapakmbaaMQ
import Derived.Test.YtglepdhapakmbaaMU
import Derived.Test.YtglepdhapakmbaaLTouches
import Derived.Test.YtglepdhapakmbaaMP
set_option linter.unusedSimpArgs false
set_option linter.unusedVariables false
/- Chapter 07: a polygon that holds another one, as poly.Holds says, covers what this covers. -/
namespace Go.Proofs.Ytglepdhapakmbaa
open Go.RowKit
theorem twice_sum {r : Rows} (hpl : ∀ k, k < r.length → placeB (cx r k) (cy r k) = true) (hl : r.length ≤ 24) : ∀ (f i : Nat), i + f = r.length → twiceN r f i (sumZ (fun k => cx r k * cy r (nxt r.length k) - cy r k * cx r (nxt r.length k)) i) = area2 (cx r) (cy r) r.length := by
  have hg : ∀ k, k < r.length → (-1000000000000 ≤ cx r k * cy r (nxt r.length k) ∧ cx r k * cy r (nxt r.length k) ≤ 1000000000000) ∧ (-1000000000000 ≤ cy r k * cx r (nxt r.length k) ∧ cy r k * cx r (nxt r.length k) ≤ 1000000000000) := fun k hk => by
    obtain ⟨h0, h1⟩ := placeB_iff.1 (hpl k hk)
    obtain ⟨h2, h3⟩ := placeB_iff.1 (hpl _ (nxt_lt hk))
    have key : ∀ a b : Int, -1000000 ≤ a ∧ a ≤ 1000000 → -1000000 ≤ b ∧ b ≤ 1000000 → -1000000000000 ≤ a * b ∧ a * b ≤ 1000000000000 := fun a b ha hb => by
      have p1 := Int.mul_nonneg (show 0 ≤ 1000000 - a by omega) (show 0 ≤ 1000000 - b by omega)
      have p2 := Int.mul_nonneg (show 0 ≤ 1000000 + a by omega) (show 0 ≤ 1000000 + b by omega)
      have p3 := Int.mul_nonneg (show 0 ≤ 1000000 - a by omega) (show 0 ≤ 1000000 + b by omega)
      have p4 := Int.mul_nonneg (show 0 ≤ 1000000 + a by omega) (show 0 ≤ 1000000 - b by omega)
      constructor <;> grind
    exact ⟨key _ _ h0 h3, key _ _ h1 h2⟩
  have hs : ∀ i, i ≤ r.length → -(2000000000000 * (i : Int)) ≤ sumZ (fun k => cx r k * cy r (nxt r.length k) - cy r k * cx r (nxt r.length k)) i ∧ sumZ (fun k => cx r k * cy r (nxt r.length k) - cy r k * cx r (nxt r.length k)) i ≤ 2000000000000 * (i : Int) := by
    intro i
    induction i with
    | zero => intro _; simp [sumZ]
    | succ i ih =>
      intro hi
      have := ih (by omega)
      have := hg i (by omega)
      simp only [sumZ]
      omega
  intro f
  induction f with
  | zero => intro i hi; rw [twiceN, show i = r.length by omega]; rfl
  | succ f ih =>
    intro i hi
    rw [twiceN]
    have h1 := hg i (by omega)
    have h2 := hs i (by omega)
    have e := ih (i + 1) (by omega)
    simp only [sumZ] at e
    rw [← e]
    congr 1
    have h3 : lg r i 0 * lg r (nxt r.length i) 1 = cx r i * cy r (nxt r.length i) := rfl
    have h4 : lg r i 1 * lg r (nxt r.length i) 0 = cy r i * cx r (nxt r.length i) := rfl
    rw [h3, h4, wrap_in (cx r i * cy r (nxt r.length i)) (by omega) (by omega), wrap_in (cy r i * cx r (nxt r.length i)) (by omega) (by omega), wrap_in (cx r i * cy r (nxt r.length i) - cy r i * cx r (nxt r.length i)) (by omega) (by omega)]
    rw [wrap_in _ (by omega) (by omega)]
section
variable {r : Rows}
theorem poly_area (hr : polyB r = true) : 0 < area2 (cx r) (cy r) r.length := by
  have hl := polyB_len hr
  have h := twice_sum (fun k hk => polyB_pl hr hk) hl.2 r.length 0 (by omega)
  simp only [polyB, Bool.and_eq_true, decide_eq_true_eq] at hr
  have := hr.2.2.2.2
  rw [← h]
  exact this
theorem poly_first (hr : polyB r = true) : First (cx r) (cy r) r.length := fun k hk => by
  have hpl : ∀ k : Nat, k < r.length → placeB (lg r k 0) (lg r k 1) = true := fun k hk => polyB_pl hr hk
  simp only [polyB, Bool.and_eq_true] at hr
  by_cases h0 : k = 0
  · subst h0; exact .inr ⟨rfl, Int.le_refl _⟩
  · have := ((cornOk_iff hpl hk).mp ((cornN_iff _ _).mp hr.2.2.1 k (by omega) (by omega))).1 (by omega)
    unfold lessB at this
    rw [decide_eq_true_eq] at this
    have e0 : cx r 0 = lg r 0 0 := rfl
    have e1 : cy r 0 = lg r 0 1 := rfl
    rw [e0, e1]
    show lg r 0 0 < lg r k 0 ∨ (lg r 0 0 = lg r k 0 ∧ lg r 0 1 ≤ lg r k 1)
    rcases this with q | q
    · exact .inl q
    · exact .inr ⟨q.1, by have := q.2; omega⟩
theorem place_in (hr : polyB r = true) {x y : Int} (hq : placeB x y = true) : 0 ≤ placeN r x y r.length 0 false ↔ InP (cx r) (cy r) r.length x y := by
  by_cases hO : OnP (cx r) (cy r) r.length x y
  · refine ⟨fun _ => .inl hO, fun _ => ?_⟩
    obtain ⟨k, hk, ho⟩ := hO
    have : onN r x y r.length 0 = true := by
      cases h : onN r x y r.length 0 with
      | true => rfl
      | false =>
        have : ∀ (f i : Nat), onN r x y f i = false → ∀ k, i ≤ k → k < i + f → onB x y (cx r k) (cy r k) (cx r (nxt r.length k)) (cy r (nxt r.length k)) = false := by
          intro f
          induction f with
          | zero => intro i _ k h1 h2; omega
          | succ f ih =>
            intro i h k h1 h2
            rw [onN, Bool.or_eq_false_iff] at h
            by_cases e : k = i
            · subst e; exact h.1
            · exact ih (i + 1) h.2 k (by omega) (by omega)
        exact (ne_tf (this _ 0 h k (by omega) (by omega)) ho).elim
    rw [placeN_eq hr hq _ _ _ (by omega), this, if_pos rfl]
    omega
  · have hon : ∀ k, k < r.length → onB x y (cx r k) (cy r k) (cx r (nxt r.length k)) (cy r (nxt r.length k)) = false := fun k hk => by
      cases h : onB x y (cx r k) (cy r k) (cx r (nxt r.length k)) (cy r (nxt r.length k)) with
      | false => rfl
      | true => exact (hO ⟨k, hk, h⟩).elim
    rw [place_wind hr hq hon]
    unfold InP
    by_cases h : wind (cx r) (cy r) r.length x y = 0
    · rw [if_pos h]
      exact ⟨fun h => absurd h (by omega), fun h' => (h'.elim hO (fun q => q h)).elim⟩
    · rw [if_neg h]
      exact ⟨fun _ => .inr h, fun _ => by omega⟩
theorem sgn_nn7 {n : Int} : 0 ≤ sgn n ↔ 0 ≤ n := by unfold sgn; split <;> (try split) <;> omega
theorem sgn_np7 {n : Int} : sgn n ≤ 0 ↔ n ≤ 0 := by unfold sgn; split <;> (try split) <;> omega
theorem op_iff (hr : polyB r = true) {j : Nat} (hj : j < r.length) {x y : Int} (hq : placeB x y = true) : opB r j x y = true ↔ OpI (cx r) (cy r) r.length (prv r.length j) j x y := by
  have h1 := polyB_pl hr (prv_lt hj)
  have h2 := polyB_pl hr hj
  have h3 := polyB_pl hr (nxt_lt hj)
  have e0 : turnR [.i (lg r (prv r.length j) 0), .i (lg r (prv r.length j) 1), .i (lg r j 0), .i (lg r j 1), .i (lg r (nxt r.length j) 0), .i (lg r (nxt r.length j) 1)] = sgn (crossI (cx r (prv r.length j)) (cy r (prv r.length j)) (cx r j) (cy r j) (cx r (nxt r.length j)) (cy r (nxt r.length j))) := turnR_eq h1 h2 h3
  have e1 : turnR [.i (lg r j 0), .i (lg r j 1), .i (lg r (nxt r.length j) 0), .i (lg r (nxt r.length j) 1), .i x, .i y] = sgn (crossI (cx r j) (cy r j) (cx r (nxt r.length j)) (cy r (nxt r.length j)) x y) := turnR_eq h2 h3 hq
  have e2 : turnR [.i (lg r j 0), .i (lg r j 1), .i x, .i y, .i (lg r (prv r.length j) 0), .i (lg r (prv r.length j) 1)] = sgn (crossI (cx r j) (cy r j) x y (cx r (prv r.length j)) (cy r (prv r.length j))) := turnR_eq h2 hq h1
  have e3 : turnR [.i (lg r j 0), .i (lg r j 1), .i (lg r (prv r.length j) 0), .i (lg r (prv r.length j) 1), .i x, .i y] = sgn (crossI (cx r j) (cy r j) (cx r (prv r.length j)) (cy r (prv r.length j)) x y) := turnR_eq h2 h1 hq
  have e4 : turnR [.i (lg r j 0), .i (lg r j 1), .i x, .i y, .i (lg r (nxt r.length j) 0), .i (lg r (nxt r.length j) 1)] = sgn (crossI (cx r j) (cy r j) x y (cx r (nxt r.length j)) (cy r (nxt r.length j))) := turnR_eq h2 hq h3
  have c2 : crossI (cx r j) (cy r j) x y (cx r (prv r.length j)) (cy r (prv r.length j)) = crossI (cx r (prv r.length j)) (cy r (prv r.length j)) (cx r j) (cy r j) x y := by unfold crossI; grind
  have c3 : crossI (cx r j) (cy r j) (cx r (prv r.length j)) (cy r (prv r.length j)) x y = - crossI (cx r (prv r.length j)) (cy r (prv r.length j)) (cx r j) (cy r j) x y := by unfold crossI; grind
  have c4 : crossI (cx r j) (cy r j) x y (cx r (nxt r.length j)) (cy r (nxt r.length j)) = - crossI (cx r j) (cy r j) (cx r (nxt r.length j)) (cy r (nxt r.length j)) x y := by unfold crossI; grind
  unfold opB OpI
  rw [e0, e1, e2, e3, e4, c2, c3, c4]
  simp only [sgn_p]
  split
  · simp only [Bool.and_eq_true, decide_eq_true_eq, sgn_nn7]
  · simp only [Bool.or_eq_true, decide_eq_true_eq, sgn_np7]
    omega
/-- Corners are distinct. -/
theorem corner_inj {X Y : Nat → Int} {n : Nat} (hp : Simple X Y n) {i j : Nat} (hi : i < n) (hj : j < n) (h : X i = X j ∧ Y i = Y j) : i = j := by
  by_cases e : i = j
  · exact e
  exfalso
  by_cases h1 : nxt n i = j
  · have hb := hp.bend i hi
    rw [h1, h.1, h.2] at hb
    refine hb ?_
    unfold crossI; grind
  · have := corner_off hp hj hi e h1
    rw [← h.1, ← h.2] at this
    exact ne_tf (no_on this).1 (on_self ..)
theorem leE_spec {x y tx ty : Int} : ∀ (f i : Nat), leE r x y tx ty f i = true → ∀ k, i ≤ k → k < i + f → onE r x y k = true → (∀ l, i ≤ l → l < k → onE r x y l = false) → 0 ≤ turnR [.i (lg r k 0), .i (lg r k 1), .i (lg r (nxt r.length k) 0), .i (lg r (nxt r.length k) 1), .i tx, .i ty]
  | 0, i, _, k, h1, h2, _, _ => by omega
  | f + 1, i, h, k, h1, h2, ho, hl => by
    rw [leE] at h
    by_cases e : k = i
    · subst e
      rw [if_pos ho, decide_eq_true_eq] at h
      exact h
    · have := hl i (by omega) (by omega)
      rw [if_neg (by rw [this]; decide)] at h
      exact leE_spec f (i + 1) h k (by omega) (by omega) ho (fun l g1 g2 => hl l (by omega) g2)
theorem leN_spec {x y tx ty : Int} : ∀ (f i : Nat), leN r x y tx ty f i = true → (∀ k, i ≤ k → k < i + f → (x = lg r k 0 ∧ y = lg r k 1) → (∀ l, i ≤ l → l < k → ¬ (x = lg r l 0 ∧ y = lg r l 1)) → opB r k tx ty = true) ∧ ((∀ k, i ≤ k → k < i + f → ¬ (x = lg r k 0 ∧ y = lg r k 1)) → leE r x y tx ty r.length 0 = true)
  | 0, i, h => ⟨fun k h1 h2 => by omega, fun _ => h⟩
  | f + 1, i, h => by
    rw [leN] at h
    by_cases c : x = lg r i 0 ∧ y = lg r i 1
    · rw [if_pos c] at h
      refine ⟨fun k h1 h2 hk hl => ?_, fun hno => absurd c (hno i (by omega) (by omega))⟩
      by_cases e : k = i
      · subst e; exact h
      · exact absurd c (hl i (by omega) (by omega))
    · rw [if_neg c] at h
      obtain ⟨g1, g2⟩ := leN_spec f (i + 1) h
      refine ⟨fun k h1 h2 hk hl => ?_, fun hno => g2 (fun k h1 h2 => hno k (by omega) (by omega))⟩
      by_cases e : k = i
      · subst e; exact absurd hk c
      · exact g1 k (by omega) (by omega) hk (fun l q1 q2 => hl l (by omega) q2)
theorem phN_spec {ax ay bx b : Int} : ∀ (f i : Nat), phN r ax ay bx b f i = true → ∀ k, i ≤ k → k < i + f → phI r ax ay bx b k = true
  | 0, i, _, k, h1, h2 => by omega
  | f + 1, i, h, k, h1, h2 => by
    rw [phN, Bool.and_eq_true] at h
    by_cases e : k = i
    · subst e; exact h.1
    · exact phN_spec f (i + 1) h.2 k (by omega) (by omega)
theorem ph_stays (hr : polyB r = true) {ax ay bx b : Int} (ha : placeB ax ay = true) (hb : placeB bx b = true) (hne : ¬ (ax = bx ∧ ay = b)) (h : phB r ax ay bx b = true) : Stays (cx r) (cy r) r.length ax ay bx b := by
  have hs := poly_simple hr
  simp only [phB, Bool.and_eq_true, decide_eq_true_eq] at h
  obtain ⟨h1, h2, h3, h4, h5⟩ := h
  have hph := phN_spec _ 0 h5
  obtain ⟨l1, l2⟩ := leN_spec _ 0 h3
  refine ⟨hne, (place_in hr ha).mp h1, fun i hi hc => ?_, fun p j hp hj hpj ho hjb => ?_, fun j hj ho hna => ?_⟩
  · have := hph i (by omega) (by omega)
    simp only [phI, Bool.and_eq_true, Bool.not_eq_true'] at this
    have hpc := this.1
    rw [phC, decide_eq_false_iff_not] at hpc
    refine hpc ?_
    have t1 : tur ax ay bx b (lg r i 0) (lg r i 1) = sgn (crossI ax ay bx b (cx r i) (cy r i)) := turnR_eq ha hb (polyB_pl hr hi)
    have t2 : tur ax ay bx b (lg r (nxt r.length i) 0) (lg r (nxt r.length i) 1) = sgn (crossI ax ay bx b (cx r (nxt r.length i)) (cy r (nxt r.length i))) := turnR_eq ha hb (polyB_pl hr (nxt_lt hi))
    have t3 : tur (lg r i 0) (lg r i 1) (lg r (nxt r.length i) 0) (lg r (nxt r.length i) 1) ax ay = sgn (crossI (cx r i) (cy r i) (cx r (nxt r.length i)) (cy r (nxt r.length i)) ax ay) := turnR_eq (polyB_pl hr hi) (polyB_pl hr (nxt_lt hi)) ha
    have t4 : tur (lg r i 0) (lg r i 1) (lg r (nxt r.length i) 0) (lg r (nxt r.length i) 1) bx b = sgn (crossI (cx r i) (cy r i) (cx r (nxt r.length i)) (cy r (nxt r.length i)) bx b) := turnR_eq (polyB_pl hr hi) (polyB_pl hr (nxt_lt hi)) hb
    rw [t1, t2, t3, t4, sgn_mul, sgn_mul]
    exact hc
  · have ep : p = prv r.length j := by rw [← hpj, prv_nxt hp]
    subst ep
    rw [← op_iff hr hj hb]
    by_cases hja : cx r j = ax ∧ cy r j = ay
    · exact l1 j (by omega) (by omega) ⟨hja.1.symm, hja.2.symm⟩ (fun l _ q2 hl => by
        have := corner_inj hs (i := l) (j := j) (by omega) hj ⟨by rw [hja.1, hl.1]; rfl, by rw [hja.2, hl.2]; rfl⟩
        omega)
    · have := hph j (by omega) (by omega)
      simp only [phI, Bool.and_eq_true, Bool.or_eq_true, Bool.not_eq_true', decide_eq_true_eq] at this
      rcases this.2 with q | q | q
      · rcases q with q | q
        · exact absurd q hja
        · exact absurd q hjb
      · have t1 : onR [.i (lg r j 0), .i (lg r j 1), .i ax, .i ay, .i bx, .i b] = onB (cx r j) (cy r j) ax ay bx b := onR_eq (polyB_pl hr hj) ha hb
        rw [t1] at q
        exact (ne_tf q ho).elim
      · exact q.2
  · have hle := l2 (fun k _ hk e => hna k (by omega) ⟨e.1.symm, e.2.symm⟩)
    obtain ⟨k, hk, s, s0, s1, e1, e2⟩ := onB_iff.mp ho
    have sn0 : s ≠ 0 := fun h => by
      subst h
      exact hna j hj ⟨(Int.eq_of_mul_eq_mul_left (show k ≠ 0 by omega) (by omega)).symm, (Int.eq_of_mul_eq_mul_left (show k ≠ 0 by omega) (by omega)).symm⟩
    have snk : s ≠ k := fun h => by
      subst h
      exact hna _ (nxt_lt hj) ⟨(Int.eq_of_mul_eq_mul_left (show s ≠ 0 by omega) (by grind)), (Int.eq_of_mul_eq_mul_left (show s ≠ 0 by omega) (by grind))⟩
    have := leE_spec _ 0 hle j (by omega) (by omega) (by rw [onE_eq hr ha hj]; exact ho) (fun l _ q2 => by
      rw [onE_eq hr ha (show l < r.length by omega)]
      exact (no_on (inner_off hs hj (show l < r.length by omega) (by omega) (show 0 < s by omega) (show s < k by omega) ⟨e1, e2⟩)).1)
    have t1 : turnR [.i (lg r j 0), .i (lg r j 1), .i (lg r (nxt r.length j) 0), .i (lg r (nxt r.length j) 1), .i bx, .i b] = sgn (crossI (cx r j) (cy r j) (cx r (nxt r.length j)) (cy r (nxt r.length j)) bx b) := turnR_eq (polyB_pl hr hj) (polyB_pl hr (nxt_lt hj)) hb
    rw [t1] at this
    exact sgn_nn7.mp this
end
theorem OpI_mul {X Y : Nat → Int} {n p j : Nat} {M x y : Int} (hM : 0 < M) : OpI (mulP M X) (mulP M Y) n p j (M * x) (M * y) ↔ OpI X Y n p j x y := by
  unfold OpI mulP
  rw [crossI_mul, crossI_mul, crossI_mul]
  have hMM := Int.mul_pos hM hM
  have c : ∀ u : Int, (0 ≤ M * M * u ↔ 0 ≤ u) ∧ (0 < M * M * u ↔ 0 < u) := fun u => by
    have := sign_mul (show M * M * u = M * M * u from rfl); omega
  simp only [(c _).1, (c _).2]
theorem stays_mul {X Y : Nat → Int} {n : Nat} {ax ay bx b M : Int} (hM : 0 < M) (h : Stays X Y n ax ay bx b) : Stays (mulP M X) (mulP M Y) n (M * ax) (M * ay) (M * bx) (M * b) := by
  have hz : M ≠ 0 := by omega
  have hMM := Int.mul_pos hM hM
  have lt : ∀ u : Int, (M * M * u < 0 ↔ u < 0) ∧ (0 < M * M * u ↔ 0 < u) := fun u => by
    have := sign_mul (show M * M * u = M * M * u from rfl); omega
  refine ⟨fun q => h.ne ⟨Int.eq_of_mul_eq_mul_left hz q.1, Int.eq_of_mul_eq_mul_left hz q.2⟩, (InP_mul hM).mpr h.start, fun i hi hc => h.proper i hi ?_, fun p j hp hj hpj ho hjb => ?_, fun j hj ho hna => ?_⟩
  · unfold mulP at hc
    simp only [crossI_mul, (lt _).1, (lt _).2] at hc
    exact hc
  · rw [OpI_mul hM]
    unfold mulP at ho hjb
    rw [onB_mul hM] at ho
    exact h.corner p j hp hj hpj ho (fun q => hjb ⟨by rw [q.1], by rw [q.2]⟩)
  · unfold mulP at ho hna ⊢
    rw [onB_mul hM] at ho
    rw [crossI_mul]
    exact Int.mul_nonneg (by omega) (h.edge j hj ho (fun i hi q => hna i hi ⟨by rw [q.1], by rw [q.2]⟩))
/-- A polygon has all points of the edges of one that it holds. -/
theorem hoN_spec {p q : Rows} : ∀ (f i : Nat), hoN p q f i = true → ∀ k, i ≤ k → k < i + f → phB p (lg q k 0) (lg q k 1) (lg q (nxt q.length k) 0) (lg q (nxt q.length k) 1) = true
  | 0, i, _, k, h1, h2 => by omega
  | f + 1, i, h, k, h1, h2 => by
    rw [hoN, Bool.and_eq_true] at h
    by_cases e : k = i
    · subst e; exact h.1
    · exact hoN_spec f (i + 1) h.2 k (by omega) (by omega)
theorem edge_ne {X Y : Nat → Int} {n : Nat} (hp : Simple X Y n) {i : Nat} (hi : i < n) : ¬ (X i = X (nxt n i) ∧ Y i = Y (nxt n i)) := fun h => by
  have := corner_inj hp hi (nxt_lt hi) h
  exact (nxt_ne hp.three hi).1 this.symm
theorem ho_edges {p q : Rows} (hp : polyB p = true) (hq : polyB q = true) (h : hoX p q = true) : EdgesIn (cx p) (cy p) p.length (cx q) (cy q) q.length := fun i hi K x y hK hs => by
  have hst := ph_stays hp (polyB_pl hq hi) (polyB_pl hq (nxt_lt hi)) (edge_ne (poly_simple hq) hi) (hoN_spec _ 0 h i (by omega) (by omega))
  refine seg_in (simple_mul hK (poly_simple hp)) (area2_mul hK (poly_area hp)) (stays_mul hK hst) ?_
  obtain ⟨s, s0, s1, e1, e2⟩ := hs
  exact onB_iff.mpr ⟨K, hK, s, s0, s1, by rw [e1]; grind, by rw [e2]; grind⟩
theorem ho_in {p q : Rows} (hp : polyB p = true) (hq : polyB q = true) (h : hoX p q = true) {x y : Int} (hxy : placeB x y = true) (hin : 0 ≤ placeN q x y q.length 0 false) : 0 ≤ placeN p x y p.length 0 false := by
  rw [place_in hq hxy] at hin
  rw [place_in hp hxy]
  exact inside (poly_simple hp) (poly_area hp) (poly_first hp) (by have := polyB_len hq; omega) (ho_edges hp hq h) hin
end Go.Proofs.Ytglepdhapakmbaa
/- Chapter 07: discs and polygons that hold each other cover what they should. -/
namespace Go.Proofs.Ytglepdhapakmbaa
open Go.RowKit
section
variable {X Y : Nat → Int} {n : Nat}
/-- Beyond all corners, in some direction, one is outside. -/
theorem beyond_out (hn : 0 < n) {px py vx vy : Int} (h : ∀ k, k < n → (X k - px) * vx + (Y k - py) * vy < 0) : ¬ InP X Y n px py := by
  have hv : ¬ (vx = 0 ∧ vy = 0) := fun q => by
    have := h 0 hn
    rw [q.1, q.2] at this; omega
  have hon : ¬ OnP X Y n px py := fun ⟨k, hk, ho⟩ => by
    obtain ⟨m, hm, s, s0, s1, e1, e2⟩ := onB_iff.mp ho
    have h1 := h k hk
    have h2 := h _ (nxt_lt hk)
    have e : (m - s) * ((X k - px) * vx + (Y k - py) * vy) + s * ((X (nxt n k) - px) * vx + (Y (nxt n k) - py) * vy) = 0 := by
      have : (m - s) * ((X k - px) * vx + (Y k - py) * vy) + s * ((X (nxt n k) - px) * vx + (Y (nxt n k) - py) * vy) = (m * X k + s * (X (nxt n k) - X k) - m * px) * vx + (m * Y k + s * (Y (nxt n k) - Y k) - m * py) * vy := by grind
      rw [this, ← e1, ← e2]; grind
    generalize (X k - px) * vx + (Y k - py) * vy = u at *
    generalize (X (nxt n k) - px) * vx + (Y (nxt n k) - py) * vy = w at *
    have a1 := Int.mul_nonneg (show 0 ≤ m - s by omega) (show 0 ≤ -u - 1 by omega)
    have a2 := Int.mul_nonneg s0 (show 0 ≤ -w - 1 by omega)
    have : (m - s) * u + s * w + m ≤ 0 := by grind
    omega
  -- a far point in the direction
  obtain ⟨a1, L1, hb1⟩ := all_bound X n
  obtain ⟨a2, L2, hb2⟩ := all_bound Y n
  obtain ⟨T, hT⟩ : ∃ T : Int, T = max px (-px) + max py (-py) + max a1 (-a1) + L1 + (max a2 (-a2) + L2) + 1 := ⟨_, rfl⟩
  have hfree : ∀ k, k < n → meetB px py (px + T * vx) (py + T * vy) (X k) (Y k) (X (nxt n k)) (Y (nxt n k)) = false := fun k hk => by
    have h1 := h k hk
    have h2 := h _ (nxt_lt hk)
    have hT0 : 0 ≤ T := by omega
    have hvv : 0 ≤ vx * vx + vy * vy := Int.add_nonneg (sq_nn _) (sq_nn _)
    have := Int.mul_nonneg hT0 hvv
    refine apart_of_apt ⟨-vx, -vy, ⟨?_, ?_⟩, ?_, ?_⟩ <;> grind
  have hw := wind_const hn hfree
  have hfar : wind X Y n (px + T * vx) (py + T * vy) = 0 := by
    have mv : ∀ v : Int, 0 < v → T ≤ T * v := fun v hv => by
      have := Int.mul_le_mul_of_nonneg_left (show 1 ≤ v by omega) (show 0 ≤ T by omega)
      omega
    have mvn : ∀ v : Int, v < 0 → T * v ≤ -T := fun v hv => by
      have := Int.mul_le_mul_of_nonneg_left (show v ≤ -1 by omega) (show 0 ≤ T by omega)
      omega
    rcases Int.lt_trichotomy vx 0 with q | q | q
    · have := mvn vx q
      exact (left_out hn (fun k hk => by have := hb1 k hk; omega)).2
    · rcases Int.lt_trichotomy vy 0 with r | r | r
      · have := mvn vy r
        refine sumZ_zero n (fun k hk => ?_)
        have := hb2 k hk
        have := hb2 _ (nxt_lt hk)
        rw [sE_eq]
        (repeat' split) <;> omega
      · exact absurd ⟨q, r⟩ hv
      · have := mv vy r
        refine sumZ_zero n (fun k hk => ?_)
        have := hb2 k hk
        have := hb2 _ (nxt_lt hk)
        rw [sE_eq]
        (repeat' split) <;> omega
    · have := mv vx q
      exact sumZ_zero n (fun k hk => sE_right (by have := hb1 k hk; omega) (by have := hb1 _ (nxt_lt hk); omega))
  rintro (q | q)
  · exact hon q
  · rw [hw, hfar] at q; exact q rfl
/-- A disc that has all corners has the polygon. -/
theorem disc_has (hn : 0 < n) {x y r px py : Int} (hr : 0 ≤ r) (hc : ∀ k, k < n → dist2 x y (X k) (Y k) ≤ r * r) (hin : InP X Y n px py) : dist2 x y px py ≤ r * r := by
  rcases Int.lt_or_le (r * r) (dist2 x y px py) with h | h
  · refine absurd hin (beyond_out hn (vx := px - x) (vy := py - y) (fun k hk => ?_))
    have h1 := hc k hk
    unfold dist2 at h h1
    have i1 : (X k - px) * (px - x) + (Y k - py) * (py - y) = ((X k - x) * (px - x) + (Y k - y) * (py - y)) - ((px - x) * (px - x) + (py - y) * (py - y)) := by grind
    rw [i1]
    generalize X k - x = ux at *
    generalize Y k - y = uy at *
    generalize px - x = wx at *
    generalize py - y = wy at *
    have hl := sq_nn (ux * wy - uy * wx)
    have e : (ux * wx + uy * wy) * (ux * wx + uy * wy) + (ux * wy - uy * wx) * (ux * wy - uy * wx) = (ux * ux + uy * uy) * (wx * wx + wy * wy) := by grind
    generalize hU : ux * ux + uy * uy = U at *
    generalize hW : wx * wx + wy * wy = W at *
    have hW0 : 0 < W := by have := Int.mul_nonneg hr hr; omega
    rcases Int.lt_or_le (ux * wx + uy * wy - W) 0 with q | q
    · exact q
    · exfalso
      have g1 := Int.mul_le_mul (show W ≤ ux * wx + uy * wy by omega) (show W ≤ ux * wx + uy * wy by omega) (by omega) (by omega)
      have g2 := Int.mul_lt_mul_of_pos_right (show U < W by omega) hW0
      omega
  · exact h
end
/-- What apart says of the points of a segment. -/
theorem apart_seg {px py ax ay bx b d k x y : Int} (hk : 0 < k) (h : Seg ax ay bx b k x y) (hd : apartB px py ax ay bx b d = true) : (k * d) * (k * d) ≤ (k * px - x) * (k * px - x) + (k * py - y) * (k * py - y) := by
  obtain ⟨s, s0, s1, rfl, rfl⟩ := h
  have hl := lagrange (bx - ax) (b - ay) (px - ax) (py - ay)
  have hL := Int.add_nonneg (sq_nn (bx - ax)) (sq_nn (b - ay))
  have hkk := Int.mul_pos hk hk
  unfold apartB dotI dist2 crossI at hd
  generalize hvx : bx - ax = vx at *
  generalize hvy : b - ay = vy at *
  generalize hwx : px - ax = wx at *
  generalize hwy : py - ay = wy at *
  have e1 : px - bx = wx - vx := by omega
  have e2 : py - b = wy - vy := by omega
  rw [e1, e2] at hd
  have e3 : k * px - (k * ax + s * vx) = k * wx - s * vx := by grind
  have e4 : k * py - (k * ay + s * vy) = k * wy - s * vy := by grind
  rw [e3, e4]
  clear e1 e2 e3 e4 hvx hvy hwx hwy px py ax ay bx b
  have hs := Int.mul_nonneg s0 (show 0 ≤ k by omega)
  obtain ⟨f, hf⟩ : ∃ f, vx * wx + vy * wy = f := ⟨_, rfl⟩
  rw [hf] at hl hd
  have e2 : k * d * (k * d) = k * k * (d * d) := by grind
  rw [e2]
  split at hd
  · rename_i h
    have q1 := Int.mul_nonneg hs (show 0 ≤ -f by omega)
    have q2 := Int.mul_nonneg (Int.mul_nonneg s0 s0) hL
    simp only [decide_eq_true_eq] at hd
    have q3 := Int.mul_le_mul_of_nonneg_left hd (show 0 ≤ k * k by omega)
    have e : (k * wx - s * vx) * (k * wx - s * vx) + (k * wy - s * vy) * (k * wy - s * vy) = k * k * (wx * wx + wy * wy) + 2 * (s * k * -f) + s * s * (vx * vx + vy * vy) := by rw [← hf]; grind
    omega
  · split at hd
    · rename_i h1 h2
      have q1 := Int.mul_nonneg (Int.mul_nonneg (show 0 ≤ k by omega) (show 0 ≤ k - s by omega)) (show 0 ≤ f - (vx * vx + vy * vy) by omega)
      have q2 := Int.mul_nonneg (Int.mul_nonneg (show 0 ≤ k - s by omega) (show 0 ≤ k - s by omega)) hL
      simp only [decide_eq_true_eq] at hd
      have q3 := Int.mul_le_mul_of_nonneg_left hd (show 0 ≤ k * k by omega)
      have e : (k * wx - s * vx) * (k * wx - s * vx) + (k * wy - s * vy) * (k * wy - s * vy) = k * k * ((wx - vx) * (wx - vx) + (wy - vy) * (wy - vy)) + 2 * (k * (k - s) * (f - (vx * vx + vy * vy))) + (k - s) * (k - s) * (vx * vx + vy * vy) := by rw [← hf]; grind
      omega
    · rename_i h1 h2
      have hLp : 0 < vx * vx + vy * vy := by omega
      simp only [decide_eq_true_eq] at hd
      have q3 := Int.mul_le_mul_of_nonneg_left hd (show 0 ≤ k * k by omega)
      have q0 := sq_nn (s * (vx * vx + vy * vy) - k * f)
      have e : (vx * vx + vy * vy) * ((k * wx - s * vx) * (k * wx - s * vx) + (k * wy - s * vy) * (k * wy - s * vy)) = k * k * ((vx * wy - vy * wx) * (vx * wy - vy * wx)) + (s * (vx * vx + vy * vy) - k * f) * (s * (vx * vx + vy * vy) - k * f) := by rw [← hf]; grind
      refine Int.le_of_mul_le_mul_left ?_ hLp
      rw [e]
      have e5 : (vx * vx + vy * vy) * (k * k * (d * d)) = k * k * (d * d * (vx * vx + vy * vy)) := by grind
      omega
theorem apaN_iff {r : Rows} {x y d : Int} : ∀ (f i : Nat), apaN r x y d f i = true ↔ ∀ k, i ≤ k → k < i + f → apartI r x y d k = true
  | 0, i => ⟨fun _ k h1 h2 => (by omega), fun _ => rfl⟩
  | f + 1, i => by
    rw [apaN, Bool.and_eq_true, apaN_iff f (i + 1)]
    constructor
    · rintro ⟨h1, h2⟩ k hk hk'
      by_cases e : k = i
      · subst e; exact h1
      · exact h2 k (by omega) (by omega)
    · exact fun h => ⟨h i (by omega) (by omega), fun k h1 h2 => h k (by omega) (by omega)⟩
theorem apartI_eq {r : Rows} (hr : polyB r = true) {x y d : Int} (hq : placeB x y = true) (hd : 0 ≤ d ∧ d ≤ 3000000) {i : Nat} (hi : i < r.length) : apartI r x y d i = apartB x y (cx r i) (cy r i) (cx r (nxt r.length i)) (cy r (nxt r.length i)) d := by
  have h1 := polyB_pl hr hi
  have h2 := polyB_pl hr (nxt_lt hi)
  have e1 : apaO [.i x, .i y, .i (lg r i 0), .i (lg r i 1), .i (lg r (nxt r.length i) 0), .i (lg r (nxt r.length i) 1), .i d] = (placeB x y && placeB (cx r i) (cy r i) && placeB (cx r (nxt r.length i)) (cy r (nxt r.length i)) && distB d) := rfl
  unfold apartI apaR
  rw [e1, hq, h1, h2, show distB d = true by unfold distB; exact decide_eq_true hd]
  rfl
theorem disX_one {r : Rows} {x y d : Int} : disX r x y d = 1 ↔ 0 ≤ placeN r x y r.length 0 false ∧ apaN r x y d r.length 0 = true := by
  unfold disX
  (repeat' split) <;> simp_all <;> (intro h; omega)
/-- A polygon that has a disc has its points. -/
theorem poly_has {r : Rows} (hr : polyB r = true) {x y d px py : Int} (hq : placeB x y = true) (hp : placeB px py = true) (hd : 0 ≤ d ∧ d ≤ 3000000) (h : disX r x y d = 1) (hl : dist2 x y px py ≤ d * d) : 0 ≤ placeN r px py r.length 0 false := by
  obtain ⟨h1, h2⟩ := disX_one.mp h
  rw [place_in hr hq] at h1
  rw [place_in hr hp]
  have hn : 0 < r.length := by have := polyB_len hr; omega
  by_cases hO : OnP (cx r) (cy r) r.length px py
  · exact .inl hO
  by_cases hne : x = px ∧ y = py
  · rw [← hne.1, ← hne.2]; exact h1
  have hfree : ∀ k, k < r.length → meetB x y px py (cx r k) (cy r k) (cx r (nxt r.length k)) (cy r (nxt r.length k)) = false := fun k hk => by
    cases hm : meetB x y px py (cx r k) (cy r k) (cx r (nxt r.length k)) (cy r (nxt r.length k)) with
    | false => rfl
    | true =>
      exfalso
      obtain ⟨K, u, v, hK, ⟨s, s0, s1, e1, e2⟩, g⟩ := common_of_meet hm
      have ha := (apaN_iff _ _).mp h2 k (by omega) (by omega)
      rw [apartI_eq hr hq hd hk] at ha
      have h3 := apart_seg hK g ha
      have e3 : (K * x - u) * (K * x - u) + (K * y - v) * (K * y - v) = s * s * dist2 x y px py := by rw [e1, e2]; unfold dist2; grind
      rw [e3] at h3
      have hpos : 0 < dist2 x y px py := by
        have := len_ne (ax := x) (ay := y) (bx := px) (b := py) hne
        unfold dist2; exact this
      have h4 := Int.mul_le_mul_of_nonneg_left hl (show 0 ≤ K * K from Int.mul_nonneg (by omega) (by omega))
      have hsK : s = K := by
        rcases Int.lt_or_le s K with q | q
        · exfalso
          have q1 : s * s < K * K := by
            have a1 := Int.mul_le_mul_of_nonneg_left (show s ≤ K by omega) s0
            have a2 := Int.mul_lt_mul_of_pos_right q hK
            omega
          have q2 := Int.mul_lt_mul_of_pos_right q1 hpos
          have e4 : K * d * (K * d) = K * K * (d * d) := by grind
          omega
        · omega
      subst hsK
      refine hO ⟨k, hk, onB_iff.mpr ⟨s, hK, ?_⟩⟩
      rw [show s * px = u by rw [e1]; grind, show s * py = v by rw [e2]; grind]
      exact g
  rcases h1 with ⟨k, hk, ho⟩ | h1
  · exact (ne_tf (no_on (hfree k hk)).1 ho).elim
  · rw [wind_const hn hfree] at h1; exact .inr h1
end Go.Proofs.Ytglepdhapakmbaa
/- Chapter 07: the law FeatureCovers. -/
namespace Go.Proofs.Ytglepdhapakmbaa
open Go.RowKit
section
variable {i1 k1 x1 y1 r1 d1 s1 i2 k2 x2 y2 r2 d2 s2 i3 k3 x3 y3 r3 d3 s3 px py : Int} {a1 t1 a2 t2 a3 t3 : Rows}
/-- What a held feature covers is covered. -/
theorem hold_covers (h1 : featB i1 k1 x1 y1 r1 a1 d1 s1 t1 = true) (h2 : featB i2 k2 x2 y2 r2 a2 d2 s2 t2 = true) (hp : placeB px py = true) (hh : holdX k1 x1 y1 r1 a1 k2 x2 y2 r2 a2 = true) (c2 : covX k2 x2 y2 r2 a2 px py = true) : covX k1 x1 y1 r1 a1 px py = true := by
  have n2 : k2 ≠ 4 := fun h => by rw [cov_light h] at c2; exact absurd c2 (by decide)
  unfold holdX at hh
  by_cases n1 : k1 = 4
  · rw [if_pos n1, decide_eq_true_eq] at hh; exact absurd hh n2
  rw [if_neg n1] at hh
  by_cases e1 : k1 = 3 ∨ k1 = 6
  · rw [if_pos e1, if_neg n2] at hh
    rw [cov_area h1 e1 hp, decide_eq_true_eq]
    by_cases e2 : k2 = 3 ∨ k2 = 6
    · rw [if_pos e2] at hh
      rw [cov_area h2 e2 hp, decide_eq_true_eq] at c2
      exact ho_in (feat_area h1 e1) (feat_area h2 e2) hh hp c2
    · rw [if_neg e2, decide_eq_true_eq] at hh
      rw [cov_disc h2 (by omega) (by omega) n2 hp, decide_eq_true_eq] at c2
      obtain ⟨q1, q2⟩ := feat_disc h2 (by omega) (by omega)
      exact poly_has (feat_area h1 e1) q1 hp (by omega) hh c2
  · rw [if_neg e1, if_neg n2] at hh
    obtain ⟨p1, p2⟩ := feat_disc h1 (by omega) (by omega)
    rw [cov_disc h1 (by omega) (by omega) n1 hp, decide_eq_true_eq]
    by_cases e2 : k2 = 3 ∨ k2 = 6
    · rw [if_pos e2] at hh
      rw [cov_area h2 e2 hp, decide_eq_true_eq] at c2
      have ha2 := feat_area h2 e2
      exact disc_has (X := cx a2) (Y := cy a2) (n := a2.length) (by have := polyB_len ha2; omega) (by omega) (fun k hk => (allD_iff _ _).mp hh k (by omega) (by omega)) ((place_in ha2 hp).mp c2)
    · rw [if_neg e2, liesB, decide_eq_true_eq] at hh
      rw [cov_disc h2 (by omega) (by omega) n2 hp, decide_eq_true_eq] at c2
      obtain ⟨q1, q2⟩ := feat_disc h2 (by omega) (by omega)
      unfold dist2 at hh c2 ⊢
      have ht := triangle7 (ux := x2 - x1) (uy := y2 - y1) (vx := px - x2) (vy := py - y2) (a := r1 - r2) (b := r2) (by omega) (by omega) (by have := hh.2; grind) c2
      rw [show x2 - x1 + (px - x2) = px - x1 by omega, show y2 - y1 + (py - y2) = py - y1 by omega, show r1 - r2 + r2 = r1 by omega] at ht
      exact ht
theorem abs_box {r u v : Int} (hr : 0 ≤ r) (h : u * u + v * v ≤ r * r) : -r ≤ u ∧ u ≤ r := by
  have h1 := sq_nn v
  have a1 : u ≤ r := sq_le7 hr (by omega)
  have a2 : -u ≤ r := sq_le7 hr (by have : -u * -u = u * u := by grind
                                    omega)
  omega
/-- What a feature covers lies in its box. -/
theorem cov_box (h1 : featB i1 k1 x1 y1 r1 a1 d1 s1 t1 = true) (hp : placeB px py = true) (c : covX k1 x1 y1 r1 a1 px py = true) :
    fbE [.i i1, .i k1, .i x1, .i y1, .i r1, .l a1, .i d1, .i s1, .l t1] = 0 ∧ (fbA [.i i1, .i k1, .i x1, .i y1, .i r1, .l a1, .i d1, .i s1, .l t1] ≤ px ∧ px ≤ fbB [.i i1, .i k1, .i x1, .i y1, .i r1, .l a1, .i d1, .i s1, .l t1]) ∧ fbC [.i i1, .i k1, .i x1, .i y1, .i r1, .l a1, .i d1, .i s1, .l t1] ≤ py ∧ py ≤ fbD [.i i1, .i k1, .i x1, .i y1, .i r1, .l a1, .i d1, .i s1, .l t1] := by
  have n1 : k1 ≠ 4 := fun h => by rw [cov_light h] at c; exact absurd c (by decide)
  have eL : featL [.i i1, .i k1, .i x1, .i y1, .i r1, .l a1, .i d1, .i s1, .l t1] = true := h1
  have eA : fbA [.i i1, .i k1, .i x1, .i y1, .i r1, .l a1, .i d1, .i s1, .l t1] = fbox k1 x1 r1 (pbA [.l a1]) (-1) := by unfold fbA; rw [if_pos eL]; rfl
  have eB : fbB [.i i1, .i k1, .i x1, .i y1, .i r1, .l a1, .i d1, .i s1, .l t1] = fbox k1 x1 r1 (pbB [.l a1]) 1 := by unfold fbB; rw [if_pos eL]; rfl
  have eC : fbC [.i i1, .i k1, .i x1, .i y1, .i r1, .l a1, .i d1, .i s1, .l t1] = fbox k1 y1 r1 (pbC [.l a1]) (-1) := by unfold fbC; rw [if_pos eL]; rfl
  have eD : fbD [.i i1, .i k1, .i x1, .i y1, .i r1, .l a1, .i d1, .i s1, .l t1] = fbox k1 y1 r1 (pbD [.l a1]) 1 := by unfold fbD; rw [if_pos eL]; rfl
  refine ⟨by unfold fbE; rw [if_pos eL], ?_⟩
  rw [eA, eB, eC, eD]
  unfold fbox
  simp only [if_neg n1]
  by_cases e1 : k1 = 3 ∨ k1 = 6
  · simp only [if_pos e1]
    rw [cov_area h1 e1 hp, decide_eq_true_eq] at c
    exact in_box (feat_area h1 e1) hp (pb_spec (feat_area h1 e1)).1 c
  · simp only [if_neg e1]
    rw [cov_disc h1 (by omega) (by omega) n1 hp, decide_eq_true_eq] at c
    obtain ⟨p1, p2⟩ := feat_disc h1 (by omega) (by omega)
    unfold dist2 at c
    have b1 := abs_box p2.1 c
    have b2 := abs_box p2.1 (show (py - y1) * (py - y1) + (px - x1) * (px - x1) ≤ r1 * r1 by omega)
    omega
end
theorem fbE_9 (i1 k1 x1 y1 r1 : Int) (a1 : Rows) (d1 s1 : Int) (t1 : Rows) : fbE [.i i1, .i k1, .i x1, .i y1, .i r1, .l a1, .i d1, .i s1, .l t1] = if featB i1 k1 x1 y1 r1 a1 d1 s1 t1 then 0 else 1 := rfl
set_option maxHeartbeats 8000000 in
theorem gCoversLaw : Gives Try.prog 3 [feat, feat, pt] (fun _ => .bool true) := by
  refine GivesIf.all (fn_gives K76 (by kernel_rfl) (fun ρ h => ctE7_ok (Sees.of h 122)) (by kernel_rfl) trCovers7_is trCovers7_low (by decide) (fun W vals ds hr _ => ?_))
  simp only [trCovers7, TT.sat_ret, TT.sat_ite, TT.sat_ob, TT.sat_next, TT.sat_stuck, put_i, put_b, put_d, put_fi, put_fb, put_fd, Ob.ok, B.ev, E.ev, X.ev, AL.ev, cmp_t, cmp_f, arEv, V.plain, V2.plain, S.plain, S0.plain, V.val, V2.val, S.val, S0.val, bV, iV, List.all_cons, List.all_nil, Bool.and_true, Bool.and_self, envOf_i, envOf_b, envOf_d, List.map_cons, List.map_nil, true_and, Bool.not_eq_true', Bool.not_eq_false', Bool.not_not, Bool.and_eq_true, and_f, cell_lg, cell_lb, cell_lr, cmpP, val_i, val_b, val_d, aget, Nat.reduceBEq, beq_self_eq_true, Bool.false_eq_true, if_true, if_false, Nat.reduceLT, Nat.reduceSub, Nat.sub_self, Nat.lt_irrefl, K76b119, K76i119, K76b78, K76i78, K76i85, K76i86, K76i87, K76i88, K76i89, feE_18, feHoR_18, covE_11, covR_11, fbE_9]
  have T1 := hold_covers (i1 := iAt ds 0) (k1 := iAt ds 1) (x1 := iAt ds 2) (y1 := iAt ds 3) (r1 := iAt ds 4) (a1 := rAt ds 5) (d1 := iAt ds 6) (s1 := iAt ds 7) (t1 := rAt ds 8) (i2 := iAt ds 9) (k2 := iAt ds 10) (x2 := iAt ds 11) (y2 := iAt ds 12) (r2 := iAt ds 13) (a2 := rAt ds 14) (d2 := iAt ds 15) (s2 := iAt ds 16) (t2 := rAt ds 17) (px := iAt ds 18) (py := iAt ds 19)
  have T2 := hold_covers (i1 := iAt ds 9) (k1 := iAt ds 10) (x1 := iAt ds 11) (y1 := iAt ds 12) (r1 := iAt ds 13) (a1 := rAt ds 14) (d1 := iAt ds 15) (s1 := iAt ds 16) (t1 := rAt ds 17) (i2 := iAt ds 0) (k2 := iAt ds 1) (x2 := iAt ds 2) (y2 := iAt ds 3) (r2 := iAt ds 4) (a2 := rAt ds 5) (d2 := iAt ds 6) (s2 := iAt ds 7) (t2 := rAt ds 8) (px := iAt ds 18) (py := iAt ds 19)
  have T3 := cov_box (i1 := iAt ds 0) (k1 := iAt ds 1) (x1 := iAt ds 2) (y1 := iAt ds 3) (r1 := iAt ds 4) (a1 := rAt ds 5) (d1 := iAt ds 6) (s1 := iAt ds 7) (t1 := rAt ds 8) (px := iAt ds 18) (py := iAt ds 19)
  generalize fbA [.i (iAt ds 0), .i (iAt ds 1), .i (iAt ds 2), .i (iAt ds 3), .i (iAt ds 4), .l (rAt ds 5), .i (iAt ds 6), .i (iAt ds 7), .l (rAt ds 8)] = bA at *
  generalize fbB [.i (iAt ds 0), .i (iAt ds 1), .i (iAt ds 2), .i (iAt ds 3), .i (iAt ds 4), .l (rAt ds 5), .i (iAt ds 6), .i (iAt ds 7), .l (rAt ds 8)] = bB at *
  generalize fbC [.i (iAt ds 0), .i (iAt ds 1), .i (iAt ds 2), .i (iAt ds 3), .i (iAt ds 4), .l (rAt ds 5), .i (iAt ds 6), .i (iAt ds 7), .l (rAt ds 8)] = bC at *
  generalize fbD [.i (iAt ds 0), .i (iAt ds 1), .i (iAt ds 2), .i (iAt ds 3), .i (iAt ds 4), .l (rAt ds 5), .i (iAt ds 6), .i (iAt ds 7), .l (rAt ds 8)] = bD at *
  rw [fbE_9] at T3
  generalize holdX (iAt ds 1) (iAt ds 2) (iAt ds 3) (iAt ds 4) (rAt ds 5) (iAt ds 10) (iAt ds 11) (iAt ds 12) (iAt ds 13) (rAt ds 14) = h12 at *
  generalize holdX (iAt ds 10) (iAt ds 11) (iAt ds 12) (iAt ds 13) (rAt ds 14) (iAt ds 1) (iAt ds 2) (iAt ds 3) (iAt ds 4) (rAt ds 5) = h21 at *
  generalize covX (iAt ds 1) (iAt ds 2) (iAt ds 3) (iAt ds 4) (rAt ds 5) (iAt ds 18) (iAt ds 19) = c1 at *
  generalize covX (iAt ds 10) (iAt ds 11) (iAt ds 12) (iAt ds 13) (rAt ds 14) (iAt ds 18) (iAt ds 19) = c2 at *
  generalize featB (iAt ds 0) (iAt ds 1) (iAt ds 2) (iAt ds 3) (iAt ds 4) (rAt ds 5) (iAt ds 6) (iAt ds 7) (rAt ds 8) = f1 at *
  generalize featB (iAt ds 9) (iAt ds 10) (iAt ds 11) (iAt ds 12) (iAt ds 13) (rAt ds 14) (iAt ds 15) (iAt ds 16) (rAt ds 17) = f2 at *
  generalize placeB (iAt ds 18) (iAt ds 19) = pp at *
  generalize iAt ds 18 = px at *
  generalize iAt ds 19 = py at *
  clear hr
  cases f1 <;> cases f2 <;> cases pp <;> cases c1 <;> cases c2 <;> cases h12 <;> cases h21 <;> simp_all [cmpEv]
end Go.Proofs.Ytglepdhapakmbaa
