/- LSafe, merged: Pn, Nr, TNx, Nx, TNz, Nz. -/
import Derived.Test.YtkjjkckcjgkhmaaGreatMP
import Derived.Test.YtkjjkckcjgkhmaaGreatLB
set_option linter.unusedSimpArgs false
set_option linter.unusedVariables false
/- Plane geometry, no program: the triangle's inequality; near to a point. -/
namespace Go.Proofs.YtkjjkckcjgkhmaaGreat
open Go.RowKit
theorem sq_le {a b : Int} (hb : 0 ≤ b) (h : a * a ≤ b * b) : a ≤ b := by
  rcases Int.lt_or_le b a with h' | h'
  · have h1 := Int.mul_le_mul_of_nonneg_left (show b ≤ a by omega) hb
    have h2 := Int.mul_lt_mul_of_pos_right h' (show 0 < a by omega)
    omega
  · exact h'
theorem triangle {ux uy vx vy a b : Int} (ha : 0 ≤ a) (hb : 0 ≤ b) (hu : ux * ux + uy * uy ≤ a * a) (hv : vx * vx + vy * vy ≤ b * b) : (ux + vx) * (ux + vx) + (uy + vy) * (uy + vy) ≤ (a + b) * (a + b) := by
  have h0 := Int.mul_le_mul hu hv (Int.add_nonneg (sq_nn vx) (sq_nn vy)) (sq_nn a)
  have h1 := sq_nn (ux * vy - uy * vx)
  have h2 : ux * vx + uy * vy ≤ a * b := sq_le (Int.mul_nonneg ha hb) (by grind)
  grind
theorem near_point {px py ax ay d : Int} : nearB px py ax ay ax ay d = decide (dist2 ax ay px py ≤ d * d) := by
  unfold nearB
  rw [if_pos (show dotI ax ay ax ay px py ≤ 0 by unfold dotI; rw [Int.sub_self, Int.sub_self]; simp)]
end Go.Proofs.YtkjjkckcjgkhmaaGreat
/- Chapter 40: what is deep enough at all times of a leg is so at each time and for each lesser speed; a ship that is moved with its datum is near what covers its place (no program). -/
namespace Go.Proofs.YtkjjkckcjgkhmaaGreat
open Go.RowKit
/-! Heights -/
theorem sj_lo {a b c d : Int} (h : htB a b = true) (h1 : htB c d = true) : sjA [.i a, .i b, .i c, .i d] = min a c := by
  rw [htB_iff] at h h1
  have e : sp22 [.i a, .i b, .i c, .i d] = true := by
    show (spanB a b && spanB c d) = true
    simp only [spanB, Bool.and_eq_true, decide_eq_true_eq]; omega
  unfold sjA
  rw [if_pos e]; rfl
section
variable {L H a b lo hi m : Int} {st : Hgt}
theorem upd_keep (hv : htB st.lo st.hi = true) (hl : htB lo hi = true) (hs : st.some = true ∧ st.lo ≤ m) : (Hgt.upd L H st a b lo hi).some = true ∧ (Hgt.upd L H st a b lo hi).lo ≤ m := by
  unfold Hgt.upd
  split
  · exact hs
  · split
    · exact hs
    · rw [if_pos hs.1]
      refine ⟨rfl, ?_⟩
      show sjA [.i st.lo, .i st.hi, .i lo, .i hi] ≤ m
      rw [sj_lo hv hl]; omega
theorem upd_here (hv : htB st.lo st.hi = true) (hl : htB lo hi = true) (h1 : L ≤ b) (h2 : a ≤ H) : (Hgt.upd L H st a b lo hi).some = true ∧ (Hgt.upd L H st a b lo hi).lo ≤ lo := by
  unfold Hgt.upd
  rw [if_neg (by omega), if_neg (by omega)]
  split
  · refine ⟨rfl, ?_⟩
    show sjA [.i st.lo, .i st.hi, .i lo, .i hi] ≤ lo
    rw [sj_lo hv hl]; omega
  · exact ⟨rfl, Int.le_refl _⟩
end
theorem upd_sub {t L H a b lo hi : Int} {st st' : Hgt} (h1 : L ≤ t) (h2 : t ≤ H) (hs : st.some = true → st'.some = true ∧ st'.lo ≤ st.lo) (hv : htB st.lo st.hi = true) (hv' : htB st'.lo st'.hi = true) (hl : htB lo hi = true)
    (h : (Hgt.upd t t st a b lo hi).some = true) : (Hgt.upd L H st' a b lo hi).some = true ∧ (Hgt.upd L H st' a b lo hi).lo ≤ (Hgt.upd t t st a b lo hi).lo := by
  by_cases c1 : b < t
  · have e : Hgt.upd t t st a b lo hi = st := by unfold Hgt.upd; rw [if_pos c1]
    rw [e] at h ⊢
    exact upd_keep hv' hl (hs h)
  · by_cases c2 : t < a
    · have e : Hgt.upd t t st a b lo hi = st := by unfold Hgt.upd; rw [if_neg c1, if_pos c2]
      rw [e] at h ⊢
      exact upd_keep hv' hl (hs h)
    · obtain ⟨g1, g2⟩ := upd_here (L := L) (H := H) (a := a) (b := b) hv' hl (by omega) (by omega)
      refine ⟨g1, ?_⟩
      by_cases c3 : st.some = true
      · have e : (Hgt.upd t t st a b lo hi).lo = min st.lo lo := by unfold Hgt.upd; rw [if_neg c1, if_neg c2, if_pos c3]; exact sj_lo hv hl
        have g3 := (upd_keep (L := L) (H := H) (a := a) (b := b) hv' hl (hs c3)).2
        rw [e]; omega
      · have e : (Hgt.upd t t st a b lo hi).lo = lo := by unfold Hgt.upd; rw [if_neg c1, if_neg c2, if_neg c3]
        rw [e]; exact g2
section
variable {r : Rows} {s p : Int}
theorem join_at {k : Nat} (hr : ∀ j : Nat, j < r.length → htB (lg r j 0) (lg r j 1) = true) (h0 : (0 : Int) < k) (hk : k < r.length) :
    htB (sjA [.i (lg r ((k : Int) - 1) 0), .i (lg r ((k : Int) - 1) 1), .i (lg r k 0), .i (lg r k 1)]) (sjB [.i (lg r ((k : Int) - 1) 0), .i (lg r ((k : Int) - 1) 1), .i (lg r k 0), .i (lg r k 1)]) = true := by
  have e : ((k : Int) - 1) = ((k - 1 : Nat) : Int) := by omega
  rw [e]
  exact join_ht (hr (k - 1) (by omega)) (hr k hk)
theorem hgt_sub {t L H : Int} (hr : ∀ j : Nat, j < r.length → htB (lg r j 0) (lg r j 1) = true) (h1 : L ≤ t) (h2 : t ≤ H) : ∀ k, k ≤ r.length → (hgtN r s p t t k).some = true → (hgtN r s p L H k).some = true ∧ (hgtN r s p L H k).lo ≤ (hgtN r s p t t k).lo
  | 0, _, h => absurd h (by simp [hgtN])
  | k + 1, hk, h => by
    have ih := hgt_sub (t := t) (L := L) (H := H) hr h1 h2 k (by omega)
    have v1 := hgt_ht (s := s) (p := p) (fr := t) (un := t) hr k (by omega)
    have v2 := hgt_ht (s := s) (p := p) (fr := L) (un := H) hr k (by omega)
    have hl := hr k (by omega)
    unfold hgtN Hgt.round at h ⊢
    by_cases c0 : (0 : Int) < k
    · by_cases c1 : 1 < p
      · rw [if_pos c0, if_pos c1] at h ⊢
        rw [if_pos c0, if_pos c1]
        have hj := join_at hr c0 (show k < r.length by omega)
        exact upd_sub h1 h2 (fun q => upd_sub h1 h2 ih v1 v2 hj q) (upd_ht v1 hj) (upd_ht v2 hj) hl h
      · rw [if_pos c0, if_neg c1] at h ⊢
        rw [if_pos c0, if_neg c1]
        exact upd_sub h1 h2 ih v1 v2 hl h
    · rw [if_neg c0] at h ⊢
      rw [if_neg c0]
      exact upd_sub h1 h2 ih v1 v2 hl h
theorem upd_some {fr un a b lo hi : Int} {st : Hgt} (h : st.some = true) : (Hgt.upd fr un st a b lo hi).some = true := by
  unfold Hgt.upd
  split
  · exact h
  · split
    · exact h
    · rfl
theorem upd_in {fr un a b lo hi : Int} {st : Hgt} (h1 : fr ≤ b) (h2 : a ≤ un) : (Hgt.upd fr un st a b lo hi).some = true := by
  unfold Hgt.upd
  rw [if_neg (by omega), if_neg (by omega)]
  split <;> rfl
theorem round_some {fr un : Int} {k : Nat} {st : Hgt} (h : st.some = true) : (Hgt.round r s p fr un k st).some = true := by
  unfold Hgt.round
  refine upd_some ?_
  split
  · split
    · exact upd_some h
    · exact h
  · exact h
theorem hgt_up {fr un : Int} {k : Nat} (h : (hgtN r s p fr un k).some = true) : ∀ j, (hgtN r s p fr un (k + j)).some = true
  | 0 => h
  | j + 1 => by
    show (Hgt.round r s p fr un (k + j) (hgtN r s p fr un (k + j))).some = true
    exact round_some (hgt_up h j)
theorem hgt_at {t : Int} (hp : 1 ≤ p) (h1 : s ≤ t) (h2 : t ≤ s + ((r.length : Int) - 1) * p) : (hgtN r s p t t r.length).some = true := by
  have e1 : 0 ≤ (t - s) / p := Int.ediv_nonneg (by omega) (by omega)
  obtain ⟨k, hk⟩ := Int.eq_ofNat_of_zero_le e1
  have e2 := Int.mul_ediv_add_emod (t - s) p
  have e3 := Int.emod_nonneg (t - s) (show p ≠ 0 by omega)
  have e4 := Int.emod_lt_of_pos (t - s) (show 0 < p by omega)
  rw [hk] at e2
  generalize (t - s) % p = m at e2 e3 e4
  have e5 : (k : Int) * p = p * k := Int.mul_comm _ _
  have hn : (k : Int) ≤ (r.length : Int) - 1 := by
    rcases Int.lt_or_le ((r.length : Int) - 1) k with c | c
    · have := Int.mul_le_mul_of_nonneg_right (show (r.length : Int) - 1 + 1 ≤ k by omega) (show 0 ≤ p by omega)
      rw [Int.add_mul] at this
      omega
    · exact c
  by_cases c : m = 0
  · have : (hgtN r s p t t (k + 1)).some = true := by
      unfold hgtN Hgt.round
      exact upd_in (by omega) (by omega)
    have q := hgt_up this (r.length - (k + 1))
    rwa [show k + 1 + (r.length - (k + 1)) = r.length by omega] at q
  · have hn2 : (k : Int) + 1 ≤ (r.length : Int) - 1 := by
      rcases Int.lt_or_le ((r.length : Int) - 1) (k + 1) with c2 | c2
      · have : (r.length : Int) - 1 = k := by omega
        rw [this] at h2; omega
      · exact c2
    have e6 : ((k + 1 : Nat) : Int) * p = p * k + p := by push_cast; rw [Int.add_mul]; omega
    have : (hgtN r s p t t (k + 1 + 1)).some = true := by
      unfold hgtN Hgt.round
      refine upd_some ?_
      rw [if_pos (by omega), if_pos (by omega)]
      exact upd_in (by omega) (by omega)
    have q := hgt_up this (r.length - (k + 1 + 1))
    rwa [show k + 1 + 1 + (r.length - (k + 1 + 1)) = r.length by omega] at q
end
theorem he_iff {s p : Int} {r : Rows} {a b : Int} : heE [.i s, .i p, .l r, .i a, .i b] = 0 ↔ tideB s p r = true ∧ timeB a = true ∧ timeB b = true ∧ a ≤ b ∧ s ≤ a ∧ b ≤ lastT s p r := by
  have e : heX [.i s, .i p, .l r, .i a, .i b] = ((tideB s p r && (timeB a && (timeB b && decide (a ≤ b)))) && decide (s ≤ a ∧ b ≤ lastT s p r)) := rfl
  unfold heE
  constructor
  · intro h
    split at h
    · rename_i q
      rw [e] at q
      simp only [Bool.and_eq_true, decide_eq_true_eq] at q
      exact ⟨q.1.1, q.1.2.1, q.1.2.2.1, q.1.2.2.2, q.2⟩
    · split at h <;> exact absurd h (by decide)
  · rintro ⟨h1, h2, h3, h4, h5⟩
    rw [if_pos]
    rw [e, h1, h2, h3, decide_eq_true h4, decide_eq_true h5]; rfl
theorem he_lo {s p : Int} {r : Rows} {a b : Int} (h : heE [.i s, .i p, .l r, .i a, .i b] = 0) : heA [.i s, .i p, .l r, .i a, .i b] = (hgtN r s p a b r.length).lo := by
  unfold heA
  rw [if_pos]
  · rfl
  · unfold heE at h
    split at h
    · rename_i q; exact q
    · split at h <;> exact absurd h (by decide)
theorem he_sub {s p : Int} {r : Rows} {a b t : Int} (h1 : a ≤ t) (h2 : t ≤ b) (h : heE [.i s, .i p, .l r, .i a, .i b] = 0) : heE [.i s, .i p, .l r, .i t, .i t] = 0 ∧ heA [.i s, .i p, .l r, .i a, .i b] ≤ heA [.i s, .i p, .l r, .i t, .i t] := by
  have g := he_iff.1 h
  obtain ⟨g1, g2, g3, g4, g5, g6⟩ := g
  have gt : heE [.i s, .i p, .l r, .i t, .i t] = 0 := he_iff.2 ⟨g1, by simp only [timeB, decide_eq_true_eq] at *; omega, by simp only [timeB, decide_eq_true_eq] at *; omega, Int.le_refl _, by omega, by omega⟩
  refine ⟨gt, ?_⟩
  rw [he_lo h, he_lo gt]
  have ht := g1
  unfold tideB at ht
  simp only [Bool.and_eq_true, decide_eq_true_eq] at ht
  obtain ⟨_, hp, _, ht⟩ := ht
  rw [tideN_iff] at ht
  have hr : ∀ j : Nat, j < r.length → htB (lg r j 0) (lg r j 1) = true := fun j hj => ht j (by omega) (by omega)
  have el : lastT s p r = s + ((r.length : Int) - 1) * p := rfl
  rw [el] at g6
  exact (hgt_sub hr h1 h2 r.length (Nat.le_refl _) (hgt_at hp.1 (by omega) (by omega))).2
theorem need_mono {d m : Int} {sq : Rows} {v V : Int} (hk : kevB d m sq = true) (h0 : 0 ≤ v) (h1 : v ≤ V) (h2 : V ≤ 100 * (sq.length : Int)) : needI d m sq v ≤ needI d m sq V := by
  unfold kevB at hk
  simp only [Bool.and_eq_true, decide_eq_true_eq] at hk
  obtain ⟨k1, k2, k3⟩ := hk
  unfold needI
  have key : ∀ x : Int, 0 < x → x ≤ 100 * (sq.length : Int) → ∃ n : Nat, (x - 1).tdiv 100 = n ∧ (n : Int) = (x - 1) / 100 ∧ n ≤ sq.length - 1 := fun x x0 x1 => by
    have q0 : (x - 1).tdiv 100 = (x - 1) / 100 := Int.tdiv_eq_ediv_of_nonneg (by omega)
    obtain ⟨n, hn⟩ := Int.eq_ofNat_of_zero_le (show 0 ≤ (x - 1) / 100 by omega)
    exact ⟨n, by omega, by omega, by omega⟩
  by_cases v0 : v = 0
  · rw [if_pos v0]
    by_cases V0 : V = 0
    · rw [if_pos V0]; omega
    · rw [if_neg V0]
      obtain ⟨n, e, _, hn⟩ := key V (by omega) h2
      rw [e]
      have := sortN_le _ k2 0 n (Nat.zero_le _) hn
      have e0 : lg sq ((0 : Nat) : Int) 0 = lg sq 0 0 := rfl
      omega
  · rw [if_neg v0, if_neg (show ¬ V = 0 by omega)]
    obtain ⟨n, e, e', hn⟩ := key v (by omega) (by omega)
    obtain ⟨N, E, E', hN⟩ := key V (by omega) h2
    rw [e, E]
    have := sortN_le _ k2 n N (by omega) hN
    omega
theorem deR_at {d m : Int} {sq : Rows} {st ph : Int} {hts : Rows} {x v V a b t : Int} (h0 : 0 ≤ v) (h1 : v ≤ V) (h2 : a ≤ t) (h3 : t ≤ b) (h : deR [.i d, .i m, .l sq, .i st, .i ph, .l hts, .i x, .i V, .i a, .i b] = true) :
    deR [.i d, .i m, .l sq, .i st, .i ph, .l hts, .i x, .i v, .i t, .i t] = true := by
  rw [deR_iff] at h ⊢
  obtain ⟨g1, g2, g3, g4, g5, g6⟩ := h
  obtain ⟨q1, q2⟩ := he_sub h2 h3 g5
  have := need_mono g2 h0 h1 g4
  exact ⟨g1, g2, by omega, by omega, q1, by omega⟩
theorem deR_E {ds : List D} (h : deR ds = true) : deE ds = 0 := by
  unfold deR at h
  simp only [Bool.and_eq_true, decide_eq_true_eq] at h
  exact h.1
/-! Near -/
theorem near_moved {px py ax ay bx by' off qx qy s t e : Int} (h0 : 0 ≤ off) (he : 0 ≤ e) (h : nearB px py ax ay bx by' off = true) (h1 : -e ≤ qx - px - s ∧ qx - px - s ≤ e) (h2 : -e ≤ qy - py - t ∧ qy - py - t ≤ e) :
    nearB qx qy (ax + s) (ay + t) (bx + s) (by' + t) (off + 2 * e) = true := by
  obtain ⟨k, x, y, hk, ⟨u, u0, u1, rfl, rfl⟩, hd⟩ := seg_of_near h
  refine near_of_seg (k := k) (x := k * ax + u * (bx - ax) + k * s) (y := k * ay + u * (by' - ay) + k * t) hk ⟨u, u0, u1, by grind, by grind⟩ ?_
  have sq : ∀ z : Int, -e ≤ z → z ≤ e → z * z ≤ e * e := fun z z1 z2 => by
    have := Int.mul_nonneg (show 0 ≤ e - z by omega) (show 0 ≤ e + z by omega)
    grind
  have s1 := sq _ h1.1 h1.2
  have s2 := sq _ h2.1 h2.2
  generalize hX : k * ax + u * (bx - ax) = X at *
  generalize hY : k * ay + u * (by' - ay) = Y at *
  generalize hU : qx - px - s = U at *
  generalize hV : qy - py - t = V at *
  have e1 : k * qx - (X + k * s) = (k * px - X) + k * U := by rw [← hU]; grind
  have e2 : k * qy - (Y + k * t) = (k * py - Y) + k * V := by rw [← hV]; grind
  have e3 : k * (off + 2 * e) = k * off + 2 * (k * e) := by grind
  rw [e1, e2, e3]
  refine triangle (Int.mul_nonneg (by omega) h0) (Int.mul_nonneg (by decide) (Int.mul_nonneg (by omega) he)) hd ?_
  have kk := Int.mul_nonneg (show 0 ≤ k by omega) (show 0 ≤ k by omega)
  have m1 := Int.mul_le_mul_of_nonneg_left s1 kk
  have m2 := Int.mul_le_mul_of_nonneg_left s2 kk
  have m3 := Int.mul_nonneg kk (Int.mul_nonneg he he)
  grind
theorem in_from2 {r a : Rows} {k off qx qy : Int} (ha : polyB a = true) (h1 : placeB (lg r k 0) (lg r k 1) = true) (h2 : placeB (lg r k 2) (lg r k 3) = true) (hq : placeB qx qy = true) (ho : 0 ≤ off ∧ off ≤ 3000000)
    (hn : nearB qx qy (lg r k 0) (lg r k 1) (lg r k 2) (lg r k 3) off = true) (hb : besN r a k off a.length 0 = false) :
    placeN a (lg r k 0) (lg r k 1) a.length 0 false = placeN a qx qy a.length 0 false := by
  obtain ⟨K, mx, my, hK, ⟨u, u0, u1, rfl, rfl⟩, hd⟩ := seg_of_near hn
  refine place_const ha h1 hq (fun i hi => ?_)
  have hc := not_bes ha h1 h2 ho hb hi
  cases hm : meetB (lg r k 0) (lg r k 1) qx qy (cx a i) (cy a i) (cx a (nxt a.length i)) (cy a (nxt a.length i)) with
  | false => rfl
  | true =>
    obtain ⟨n, x, y, hn', ⟨t, t0, t1, rfl, rfl⟩, g2⟩ := common_of_meet hm
    generalize lg r k 0 = A at *
    generalize lg r k 1 = B at *
    generalize lg r k 2 = C at *
    generalize lg r k 3 = E at *
    refine absurd ⟨n * K, n * K * A + t * u * (C - A), n * K * B + t * u * (E - B), _, _, Int.mul_pos hn' hK, ⟨t * u, Int.mul_nonneg t0 u0, Int.mul_le_mul t1 u1 u0 (by omega), rfl, rfl⟩, seg_scale (m := K) g2 (by omega), ?_⟩ hc
    have e1 : n * K * A + t * u * (C - A) - (n * A + t * (qx - A)) * K = -(t * (K * qx - (K * A + u * (C - A)))) := by grind
    have e2 : n * K * B + t * u * (E - B) - (n * B + t * (qy - B)) * K = -(t * (K * qy - (K * B + u * (E - B)))) := by grind
    rw [e1, e2]
    generalize K * qx - (K * A + u * (C - A)) = U at *
    generalize K * qy - (K * B + u * (E - B)) = V at *
    have b1 := Int.mul_le_mul_of_nonneg_left hd (Int.mul_nonneg t0 t0)
    have b2 := Int.mul_le_mul_of_nonneg_right (Int.mul_le_mul t1 t1 t0 (show 0 ≤ n by omega)) (Int.mul_nonneg (Int.mul_nonneg (show 0 ≤ K by omega) ho.1) (Int.mul_nonneg (show 0 ≤ K by omega) ho.1))
    grind
theorem near_at {r area sc : Rows} {k off id kind x y rad depth sym qx qy : Int} (hl : legB r k = true) (ho : 0 ≤ off ∧ off ≤ 100000) (hf : featP id kind x y rad area depth sym sc) (hq : placeB qx qy = true)
    (hn : nearB qx qy (lg r k 0) (lg r k 1) (lg r k 2) (lg r k 3) off = true) (hc : covX kind x y rad area qx qy = true) : nearX r k off kind x y rad area = true := by
  obtain ⟨l1, l2⟩ := leg_places hl
  obtain ⟨_, _, _, hr, h | h | h⟩ := hf
  · obtain ⟨hk, hp, _⟩ := h
    rw [covX, if_neg (by omega), if_neg (by omega), (nearR_eq hq hp hp (by omega)).1, (nearR_eq hq hp hp (by omega)).2, near_point] at hc
    simp only [decide_true, Bool.true_and, decide_eq_true_eq] at hc
    rw [nearX, if_neg (by omega), if_neg (by omega), (nearR_eq hp l1 l2 (by omega)).1]
    obtain ⟨K, mx, my, hK, hs, hd⟩ := seg_of_near hn
    refine near_of_seg hK hs ?_
    unfold dist2 at hc
    have e1 : K * x - mx = K * (x - qx) + (K * qx - mx) := by grind
    have e2 : K * y - my = K * (y - qy) + (K * qy - my) := by grind
    have e3 : K * (rad + off) = K * rad + K * off := by grind
    rw [e1, e2, e3]
    refine triangle (Int.mul_nonneg (by omega) (by omega)) (Int.mul_nonneg (by omega) (by omega)) ?_ hd
    have := Int.mul_le_mul_of_nonneg_left hc (Int.mul_nonneg (show 0 ≤ K by omega) (show 0 ≤ K by omega))
    grind
  · obtain ⟨hk, hp, _⟩ := h
    have hk' : kind = 3 ∨ kind = 6 := by omega
    rw [covX, if_neg (by omega), if_pos hk', decide_eq_true_eq] at hc
    rw [nearX, if_neg (by omega), if_pos hk']
    cases hb : besN r area k off area.length 0 with
    | true => rw [Bool.or_true]
    | false =>
      rw [Bool.or_false, decide_eq_true_eq, (pinR_eq hp l1).1, in_from2 hp l1 l2 hq (by omega) hn hb, ← (pinR_eq hp hq).1]
      exact hc.2
  · rw [covX, if_pos h.1] at hc
    exact absurd hc (by decide)
end Go.Proofs.YtkjjkckcjgkhmaaGreat
/- Chapter 40: the tree of sheet.Shown. -/
namespace Go.Proofs.YtkjjkckcjgkhmaaGreat
open Go.RowKit
def trShShown : TT OpR :=
(.ite (.not (.fn 151 (.i (.var 0) (.i (.var 1) (.i (.var 2) (.i (.var 3) (.i (.var 4) (.i (.var 5) (.i (.var 6) (.i (.var 7) (.i (.var 8) (.i (.var 9) (.i (.var 10) (.x (.var 11) (.x (.var 12) .nil)))))))))))))))
 (.ret ((.tup [(.one (.z (.int .i64 (.lit 0)))), (.one (.z (.int .i64 (.lit 1))))]), [], 2))
 (.ite (.cmp .neq (.fn 251 (.x (.var 12) (.i (.var 13) (.i (.var 14) .nil)))) (.lit 0))
 (.ret ((.tup [(.one (.z (.int .i64 (.lit 0)))), (.one (.z (.int .i64 (.fn 251 (.x (.var 12) (.i (.var 13) (.i (.var 14) .nil)))))))]), [], 2))
 (.ret ((.tup [(.one (.z (.int .i64 (.mn (.fn 250 (.x (.var 12) (.i (.var 13) (.i (.var 14) .nil)))) (.var 10))))), (.one (.z (.int .i64 (.lit 0))))]), [], 2))))
set_option maxRecDepth 100000 in
theorem trShShown_is : T.norm 0 (call Tryz.prog ctV2 (Lt.of []) 100 30 (symArgs 0 [shee, pt]) [] 0) TT.ret = trShShown := by kernel_rfl
theorem trShShown_low : trShShown.low 1000 = true := by kernel_rfl
end Go.Proofs.YtkjjkckcjgkhmaaGreat
/- Chapter 40: sheet.Shown. -/
namespace Go.Proofs.YtkjjkckcjgkhmaaGreat
open Go.RowKit
def shsL (ds : List D) : List D := [.l (rAt ds 12), .i (iAt ds 13), .i (iAt ds 14)]
def shsE (ds : List D) : Int := if sheetL ds then shownE (shsL ds) else 1
def shsR (ds : List D) : Int := if sheetL ds then (if shownE (shsL ds) = 0 then min (shownR (shsL ds)) (iAt ds 10) else 0) else 0
theorem N11b151 (W : World) (ds l : List D) : (envOf N11 W ds).fb 151 l = sheetL l := by simp only [envOf, N11, N10, N9c, N9b, N9, N8, N7, N6, N5, N4, N3, N2, N1, KG, KF, KE, KD, KC, KB, KA, K9, K8, K7, K6, K5, K]
theorem N11i250 (W : World) (ds l : List D) : (envOf N11 W ds).fi 250 l = shownR l := by simp only [envOf, N11, N10, N9c, N9b, N9, N8, N7, N6, N5, N4, N3, N2, N1, KG, KF, KE, KD, KC, KB, KA, K9, K8, K7, K6, K5, K]
theorem N11i251 (W : World) (ds l : List D) : (envOf N11 W ds).fi 251 l = shownE l := by simp only [envOf, N11, N10, N9c, N9b, N9, N8, N7, N6, N5, N4, N3, N2, N1, KG, KF, KE, KD, KC, KB, KA, K9, K8, K7, K6, K5, K]
theorem gShShown : Gives Tryz.prog 30 [shee, pt] (fun ds => .tuple #[.int .i64 (shsR ds), .int .i64 (shsE ds)]) := by
  refine GivesIf.all (fn_gives N11 (by kernel_rfl) (fun ρ h => ctV2_ok (Sees.of h 260) (SeesD.of h 8)) (by kernel_rfl) trShShown_is trShShown_low (by decide) (fun W vals ds hr _ => ?_))
  have eS : sheetL [D.i (iAt ds 0), .i (iAt ds 1), .i (iAt ds 2), .i (iAt ds 3), .i (iAt ds 4), .i (iAt ds 5), .i (iAt ds 6), .i (iAt ds 7), .i (iAt ds 8), .i (iAt ds 9), .i (iAt ds 10), .l (rAt ds 11), .l (rAt ds 12)] = sheetL ds := rfl
  have eL : [D.l (rAt ds 12), .i (iAt ds 13), .i (iAt ds 14)] = shsL ds := rfl
  simp only [trShShown, TT.sat_ret, TT.sat_ite, TT.sat_ob, TT.sat_next, TT.sat_stuck, put_i, put_b, put_d, put_fi, put_fb, put_fd, Ob.ok, B.ev, E.ev, X.ev, AL.ev, cmp_t, cmp_f, arEv, V.plain, V2.plain, S.plain, S0.plain, V.val, V2.val, S.val, S0.val, bV, iV, List.all_cons, List.all_nil, Bool.and_true, Bool.and_self, envOf_i, envOf_b, envOf_d, List.map_cons, List.map_nil, true_and, Bool.not_eq_true', Bool.not_eq_false', Bool.not_not, Bool.and_eq_true, and_f, cell_lg, cell_lb, cell_lr, cmpP, val_i, val_b, val_d, aget, Nat.reduceBEq, beq_self_eq_true, Bool.false_eq_true, if_true, if_false, Nat.reduceLT, Nat.reduceSub, Nat.sub_self, Nat.lt_irrefl, N11b151, N11i250, N11i251, eS, eL]
  refine ⟨fun h => ?_, fun h => ⟨fun g => ?_, fun g => ?_⟩⟩
  · have a : shsR ds = 0 := by unfold shsR; rw [h, if_neg (by decide)]
    have b : shsE ds = 1 := by unfold shsE; rw [h, if_neg (by decide)]
    rw [a, b]
  · have a : shsR ds = 0 := by unfold shsR; rw [h, if_pos rfl, if_neg g]
    have b : shsE ds = shownE (shsL ds) := by unfold shsE; rw [h, if_pos rfl]
    rw [a, b]
  · have g := Decidable.not_not.mp g
    have a : shsR ds = min (shownR (shsL ds)) (iAt ds 10) := by unfold shsR; rw [h, if_pos rfl, if_pos g]
    have b : shsE ds = 0 := by unfold shsE; rw [h, if_pos rfl, g]
    rw [a, b]
def N12 : Interp where
  fi n l := match n with | 260 => shsR l | 261 => shsE l | n => N11.fi n l
  fb n l := N11.fb n l
  fd n l := N11.fd n l
theorem N12_N11d {ρ : Env} (h : SeesD ρ N12 8) : SeesD ρ N11 8 := fun n l hn => by
  rw [h n l (by omega)]
  rfl
theorem N12_N11 {ρ : Env} (h : Sees ρ N12 270) : Sees ρ N11 260 := h.trans (by decide) fun n l hn => by
  refine ⟨?_, ?_⟩
  ·
    simp only [N12]
    split <;> first | omega | rfl
  ·
    rfl
def cShShown := ctD [shee, pt] fun al => .ret (.tup [.one (sIF 260 shsR al), .one (sIF 261 shsE al)])
theorem cShShown_ok {ρ : Env} (h : Sees ρ N12 270) : CtOne Tryz.prog ρ 30 cShShown :=
  ctD_ok gShShown (fun _ => rfl) (fun al => by simp only [V.val, V2.val, S.val, S0.val, sIF, sBF, List.map_cons, List.map_nil, iF_ev (s := 260) (f := shsR) (fun l => by rw [(h 260 l (by decide)).1]; simp only [N12, N11, N10, N9c, N9b, N9, N8, N7, N6, N5, N4, N3, N2, N1, KG, KF, KE, KD, KC, KB, KA, K9, K8, K7, K6, K5, K]), iF_ev (s := 261) (f := shsE) (fun l => by rw [(h 261 l (by decide)).1]; simp only [N12, N11, N10, N9c, N9b, N9, N8, N7, N6, N5, N4, N3, N2, N1, KG, KF, KE, KD, KC, KB, KA, K9, K8, K7, K6, K5, K])]; try rfl)
def ctV3 : Ct := (30, cShShown) :: ctV2
theorem ctV3_ok {ρ : Env} (h : Sees ρ N12 270) (hd : SeesD ρ N11 8) : CtOk Tryz.prog ρ ctV3 := .cons (cShShown_ok h) (ctV2_ok (N12_N11 h) hd)
end Go.Proofs.YtkjjkckcjgkhmaaGreat
/- Chapter 40: the tree of the law CheckSafe. -/
namespace Go.Proofs.YtkjjkckcjgkhmaaGreat
open Go.RowKit
def trLawSafe : TT OpR :=
(.ite (.cmp .gtr (.len (.var 0)) (.lit 4))
 (.ret ((.v (.one (.z (.bool (.lit true))))), [], 5))
 (.ite (.cmp .gtr (.len (.var 4)) (.lit 6))
 (.ret ((.v (.one (.z (.bool (.lit true))))), [], 5))
 (.loop 0 6000 ⟨[(0, (.lit 0))], [], []⟩
 (.ite (.cmp .lss (.var 6000) (.len (.var 0)))
 (.ob (.tru (.cmp .leq (.lit 0) (.var 6000)))
 (.ob (.tru (.cmp .lss (.var 6000) (.len (.var 0))))
 (.ite (.cmp .gtr (.len (.rd (.var 0) (.var 6000) 12)) (.lit 12))
 (.ret ((.v (.one (.z (.bool (.lit true))))), [], 6))
 (.next 0 ⟨[(0, (.ar .add .i64 (.var 6000) (.lit 1)))], [], []⟩))))
 (.ite (.cmp .neq (.fn 244 (.x (.var 0) (.i (.var 1) (.i (.var 2) (.i (.var 3) (.x (.var 4) (.i (.var 5) (.i (.var 6) (.x (.var 7) (.i (.var 8) (.i (.var 9) (.x (.var 10) (.x (.var 11) (.x (.var 12) .nil)))))))))))))) (.lit 0))
 (.ret ((.v (.one (.z (.bool (.lit true))))), [], 6))
 (.ite (.not (.fn 243 (.x (.var 0) (.i (.var 1) (.i (.var 2) (.i (.var 3) (.x (.var 4) (.i (.var 5) (.i (.var 6) (.x (.var 7) (.i (.var 8) (.i (.var 9) (.x (.var 10) (.x (.var 11) (.x (.var 12) .nil)))))))))))))))
 (.ret ((.v (.one (.z (.bool (.lit true))))), [], 6))
 (.ite (.cmp .neq (.fn 53 (.i (.var 1) (.i (.var 2) (.i (.var 3) (.x (.var 4) (.i (.var 13) (.i (.var 14) (.i (.var 16) (.i (.var 17) .nil))))))))) (.lit 0))
 (.ret ((.v (.one (.z (.bool (.lit true))))), [], 6))
 (.ite (.not (.fn 52 (.i (.var 1) (.i (.var 2) (.i (.var 3) (.x (.var 4) (.i (.var 13) (.i (.var 14) (.i (.var 16) (.i (.var 17) .nil))))))))))
 (.ret ((.v (.one (.z (.bool (.lit true))))), [], 6))
 (.ite (.cmp .lss (.var 13) (.lit 0))
 (.ret ((.v (.one (.z (.bool (.lit true))))), [], 6))
 (.ite (.cmp .geq (.var 13) (.len (.var 11)))
 (.ret ((.v (.one (.z (.bool (.lit true))))), [], 6))
 (.ite (.cmp .geq (.var 13) (.len (.var 4)))
 (.ret ((.v (.one (.z (.bool (.lit true))))), [], 6))
 (.ob (.tru (.cmp .leq (.lit 0) (.var 13)))
 (.ob (.tru (.cmp .lss (.var 13) (.len (.var 11))))
 (.loop 1 8000 ⟨[(0, (.lit 0))], [], []⟩
 (.ite (.cmp .lss (.var 8000) (.len (.var 0)))
 (.ob (.tru (.cmp .leq (.lit 0) (.var 8000)))
 (.ob (.tru (.cmp .lss (.var 8000) (.len (.var 0))))
 (.ite (.cmp .eql (.rd (.var 0) (.var 8000) 0) (.rd (.var 11) (.var 13) 0))
 (.ite (.cmp .lss (.var 8000) (.lit 0))
 (.ob (.tru (.cmp .leq (.lit 0) (.var 13)))
 (.ob (.tru (.cmp .lss (.var 13) (.len (.var 4))))
 (.ret ((.v (.one (.z (.bool (.lit false))))), [], 10))))
 (.ob (.tru (.cmp .leq (.lit 0) (.var 8000)))
 (.ob (.tru (.cmp .lss (.var 8000) (.len (.var 0))))
 (.ob (.tru (.cmp .leq (.lit 0) (.var 13)))
 (.ob (.tru (.cmp .lss (.var 13) (.len (.var 4))))
 (.ite (.cmp .neq (.fn 253 (.i (.rd (.var 0) (.var 8000) 3) (.i (.rd (.var 0) (.var 8000) 4) (.i (.rd (.var 0) (.var 8000) 5) (.i (.rd (.var 0) (.var 8000) 6) (.i (.rd (.var 0) (.var 8000) 7) (.i (.rd (.var 0) (.var 8000) 8) (.i (.rd (.var 0) (.var 8000) 9) (.i (.var 16) (.i (.var 17) (.i (.var 18) (.i (.var 19) .nil)))))))))))) (.lit 0))
 (.ret ((.v (.one (.z (.bool (.lit true))))), [], 10))
 (.ite (.not (.fn 252 (.i (.rd (.var 0) (.var 8000) 3) (.i (.rd (.var 0) (.var 8000) 4) (.i (.rd (.var 0) (.var 8000) 5) (.i (.rd (.var 0) (.var 8000) 6) (.i (.rd (.var 0) (.var 8000) 7) (.i (.rd (.var 0) (.var 8000) 8) (.i (.rd (.var 0) (.var 8000) 9) (.i (.var 16) (.i (.var 17) (.i (.var 18) (.i (.var 19) .nil)))))))))))))
 (.ret ((.v (.one (.z (.bool (.lit true))))), [], 10))
 (.ite (.cmp .lss (.var 15) (.rd (.var 4) (.var 13) 4))
 (.ret ((.v (.one (.z (.bool (.lit true))))), [], 10))
 (.ite (.cmp .gtr (.var 15) (.rd (.var 4) (.var 13) 5))
 (.ret ((.v (.one (.z (.bool (.lit true))))), [], 10))
 (.loop 2 11000 ⟨[], [(0, (.lit false))], []⟩
 (.ite (.var 11000)
 (.loop 3 12000 ⟨[(1, (.lit 0))], [(0, (.var 11001))], []⟩
 (.ite (.cmp .lss (.var 12001) (.len (.rd (.var 0) (.var 8000) 12)))
 (.ob (.tru (.cmp .leq (.lit 0) (.var 12001)))
 (.ob (.tru (.cmp .lss (.var 12001) (.len (.rd (.var 0) (.var 8000) 12))))
 (.loop 4 13000 ⟨[], [(0, (.lit false))], []⟩
 (.ite (.var 13000)
 (.next 3 ⟨[(1, (.ar .add .i64 (.var 12001) (.lit 1)))], [(0, (.var 13001))], []⟩)
 (.ite (.var 12000)
 (.ite (.cmp .eql (.fn 78 (.i (.rd (.rd (.var 0) (.var 8000) 12) (.var 12001) 0) (.i (.rd (.rd (.var 0) (.var 8000) 12) (.var 12001) 1) (.i (.rd (.rd (.var 0) (.var 8000) 12) (.var 12001) 2) (.i (.rd (.rd (.var 0) (.var 8000) 12) (.var 12001) 3) (.i (.rd (.rd (.var 0) (.var 8000) 12) (.var 12001) 4) (.x (.rd (.rd (.var 0) (.var 8000) 12) (.var 12001) 5) (.i (.rd (.rd (.var 0) (.var 8000) 12) (.var 12001) 6) (.i (.rd (.rd (.var 0) (.var 8000) 12) (.var 12001) 7) (.x (.rd (.rd (.var 0) (.var 8000) 12) (.var 12001) 8) (.i (.var 18) (.i (.var 19) .nil)))))))))))) (.lit 0))
 (.ite (.not (.fn 78 (.i (.rd (.rd (.var 0) (.var 8000) 12) (.var 12001) 0) (.i (.rd (.rd (.var 0) (.var 8000) 12) (.var 12001) 1) (.i (.rd (.rd (.var 0) (.var 8000) 12) (.var 12001) 2) (.i (.rd (.rd (.var 0) (.var 8000) 12) (.var 12001) 3) (.i (.rd (.rd (.var 0) (.var 8000) 12) (.var 12001) 4) (.x (.rd (.rd (.var 0) (.var 8000) 12) (.var 12001) 5) (.i (.rd (.rd (.var 0) (.var 8000) 12) (.var 12001) 6) (.i (.rd (.rd (.var 0) (.var 8000) 12) (.var 12001) 7) (.x (.rd (.rd (.var 0) (.var 8000) 12) (.var 12001) 8) (.i (.var 18) (.i (.var 19) .nil)))))))))))))
 (.next 4 ⟨[], [(1, (.lit true)), (6, (.lit true)), (7, (.cmp .eql (.fn 78 (.i (.rd (.rd (.var 0) (.var 8000) 12) (.var 12001) 0) (.i (.rd (.rd (.var 0) (.var 8000) 12) (.var 12001) 1) (.i (.rd (.rd (.var 0) (.var 8000) 12) (.var 12001) 2) (.i (.rd (.rd (.var 0) (.var 8000) 12) (.var 12001) 3) (.i (.rd (.rd (.var 0) (.var 8000) 12) (.var 12001) 4) (.x (.rd (.rd (.var 0) (.var 8000) 12) (.var 12001) 5) (.i (.rd (.rd (.var 0) (.var 8000) 12) (.var 12001) 6) (.i (.rd (.rd (.var 0) (.var 8000) 12) (.var 12001) 7) (.x (.rd (.rd (.var 0) (.var 8000) 12) (.var 12001) 8) (.i (.var 18) (.i (.var 19) .nil)))))))))))) (.lit 0))), (5, (.lit true)), (4, (.lit true)), (0, (.lit true))], []⟩)
 (.ob (.tru (.cmp .leq (.lit 0) (.var 12001)))
 (.ob (.tru (.cmp .lss (.var 12001) (.len (.rd (.var 0) (.var 8000) 12))))
 (.next 4 ⟨[], [(1, (.cmp .neq (.rd (.rd (.var 0) (.var 8000) 12) (.var 12001) 1) (.lit 6))), (6, (.lit true)), (7, (.cmp .eql (.fn 78 (.i (.rd (.rd (.var 0) (.var 8000) 12) (.var 12001) 0) (.i (.rd (.rd (.var 0) (.var 8000) 12) (.var 12001) 1) (.i (.rd (.rd (.var 0) (.var 8000) 12) (.var 12001) 2) (.i (.rd (.rd (.var 0) (.var 8000) 12) (.var 12001) 3) (.i (.rd (.rd (.var 0) (.var 8000) 12) (.var 12001) 4) (.x (.rd (.rd (.var 0) (.var 8000) 12) (.var 12001) 5) (.i (.rd (.rd (.var 0) (.var 8000) 12) (.var 12001) 6) (.i (.rd (.rd (.var 0) (.var 8000) 12) (.var 12001) 7) (.x (.rd (.rd (.var 0) (.var 8000) 12) (.var 12001) 8) (.i (.var 18) (.i (.var 19) .nil)))))))))))) (.lit 0))), (5, (.lit true)), (4, (.cmp .neq (.rd (.rd (.var 0) (.var 8000) 12) (.var 12001) 1) (.lit 6))), (0, (.lit true))], []⟩))))
 (.next 4 ⟨[], [(1, (.lit false)), (6, (.lit true)), (7, (.cmp .eql (.fn 78 (.i (.rd (.rd (.var 0) (.var 8000) 12) (.var 12001) 0) (.i (.rd (.rd (.var 0) (.var 8000) 12) (.var 12001) 1) (.i (.rd (.rd (.var 0) (.var 8000) 12) (.var 12001) 2) (.i (.rd (.rd (.var 0) (.var 8000) 12) (.var 12001) 3) (.i (.rd (.rd (.var 0) (.var 8000) 12) (.var 12001) 4) (.x (.rd (.rd (.var 0) (.var 8000) 12) (.var 12001) 5) (.i (.rd (.rd (.var 0) (.var 8000) 12) (.var 12001) 6) (.i (.rd (.rd (.var 0) (.var 8000) 12) (.var 12001) 7) (.x (.rd (.rd (.var 0) (.var 8000) 12) (.var 12001) 8) (.i (.var 18) (.i (.var 19) .nil)))))))))))) (.lit 0))), (5, (.lit false)), (4, (.lit false)), (0, (.lit true))], []⟩))
 (.next 4 ⟨[], [(1, (.lit false)), (6, (.lit false)), (7, (.lit false)), (5, (.lit false)), (4, (.lit false)), (0, (.lit true))], []⟩))))))
 (.ret ((.v (.one (.z (.bool (.var 12000))))), [], 13))))
 (.ite (.cmp .eql (.fn 261 (.i (.rd (.var 0) (.var 8000) 0) (.i (.rd (.var 0) (.var 8000) 1) (.i (.rd (.var 0) (.var 8000) 2) (.i (.rd (.var 0) (.var 8000) 3) (.i (.rd (.var 0) (.var 8000) 4) (.i (.rd (.var 0) (.var 8000) 5) (.i (.rd (.var 0) (.var 8000) 6) (.i (.rd (.var 0) (.var 8000) 7) (.i (.rd (.var 0) (.var 8000) 8) (.i (.rd (.var 0) (.var 8000) 9) (.i (.rd (.var 0) (.var 8000) 10) (.x (.rd (.var 0) (.var 8000) 11) (.x (.rd (.var 0) (.var 8000) 12) (.i (.var 18) (.i (.var 19) .nil)))))))))))))))) (.lit 0))
 (.ite (.cmp .eql (.fn 171 (.i (.var 5) (.i (.var 6) (.x (.var 7) (.i (.var 8) (.i (.var 9) (.x (.var 10) (.i (.fn 260 (.i (.rd (.var 0) (.var 8000) 0) (.i (.rd (.var 0) (.var 8000) 1) (.i (.rd (.var 0) (.var 8000) 2) (.i (.rd (.var 0) (.var 8000) 3) (.i (.rd (.var 0) (.var 8000) 4) (.i (.rd (.var 0) (.var 8000) 5) (.i (.rd (.var 0) (.var 8000) 6) (.i (.rd (.var 0) (.var 8000) 7) (.i (.rd (.var 0) (.var 8000) 8) (.i (.rd (.var 0) (.var 8000) 9) (.i (.rd (.var 0) (.var 8000) 10) (.x (.rd (.var 0) (.var 8000) 11) (.x (.rd (.var 0) (.var 8000) 12) (.i (.var 18) (.i (.var 19) .nil)))))))))))))))) (.i (.var 15) (.i (.var 14) (.i (.var 14) .nil))))))))))) (.lit 0))
 (.next 2 ⟨[], [(1, (.fn 171 (.i (.var 5) (.i (.var 6) (.x (.var 7) (.i (.var 8) (.i (.var 9) (.x (.var 10) (.i (.fn 260 (.i (.rd (.var 0) (.var 8000) 0) (.i (.rd (.var 0) (.var 8000) 1) (.i (.rd (.var 0) (.var 8000) 2) (.i (.rd (.var 0) (.var 8000) 3) (.i (.rd (.var 0) (.var 8000) 4) (.i (.rd (.var 0) (.var 8000) 5) (.i (.rd (.var 0) (.var 8000) 6) (.i (.rd (.var 0) (.var 8000) 7) (.i (.rd (.var 0) (.var 8000) 8) (.i (.rd (.var 0) (.var 8000) 9) (.i (.rd (.var 0) (.var 8000) 10) (.x (.rd (.var 0) (.var 8000) 11) (.x (.rd (.var 0) (.var 8000) 12) (.i (.var 18) (.i (.var 19) .nil)))))))))))))))) (.i (.var 15) (.i (.var 14) (.i (.var 14) .nil)))))))))))), (0, (.lit true))], []⟩)
 (.next 2 ⟨[], [(1, (.lit false)), (0, (.lit true))], []⟩))
 (.next 2 ⟨[], [(1, (.lit false)), (0, (.lit true))], []⟩)))))))))))))
 (.next 1 ⟨[(0, (.ar .add .i64 (.var 8000) (.lit 1)))], [], []⟩))))
 (.ob (.tru (.cmp .leq (.lit 0) (.var 13)))
 (.ob (.tru (.cmp .lss (.var 13) (.len (.var 4))))
 (.ret ((.v (.one (.z (.bool (.lit false))))), [], 10)))))))))))))))))))
def trLawSafe_h : List (Nat × St) := [
(5, ⟨(List.append [(.v (.one (.z (.ext [(.int .i64), (.int .i64), (.int .i64), (.int .i64), (.int .i64), (.int .i64), (.int .i64), (.int .i64), (.int .i64), (.int .i64), (.int .i64), (.sl [(.int .i64)]), (.sl [(.int .i64), (.int .i64), (.int .i64), (.int .i64), (.int .i64), (.sl [(.int .i64), (.int .i64)]), (.int .i64), (.int .i64), (.sl [(.int .i64), (.int .i64), (.int .i64), (.int .i64), (.int .i64), (.int .i64)])])] (.var 0) false)))), (.v (.agg [(.z (.int .i64 (.var 1))), (.z (.int .i64 (.var 2))), (.z (.int .i64 (.var 3))), (.z (.ext [(.int .i64), (.int .i64), (.int .i64), (.int .i64), (.int .i64), (.int .i64)] (.var 4) false))])), (.v (.one (.z .any))), (.v (.one (.z (.ptr 4 0)))), (.v (.one (.z (.bool (.lit false))))), (.v (.one (.z (.int .i64 (.var 6000))))), (.v (.one (.z (.ext [(.int .i64), (.int .i64), (.int .i64), (.int .i64), (.int .i64), (.int .i64), (.int .i64), (.int .i64), (.int .i64), (.int .i64), (.int .i64), (.sl [(.int .i64)]), (.sl [(.int .i64), (.int .i64), (.int .i64), (.int .i64), (.int .i64), (.sl [(.int .i64), (.int .i64)]), (.int .i64), (.int .i64), (.sl [(.int .i64), (.int .i64), (.int .i64), (.int .i64), (.int .i64), (.int .i64)])])] (.var 0) false)))), (.v (.one (.z (.int .i64 (.len (.var 0)))))), (.v (.one (.z (.bool (.cmp .gtr (.len (.var 0)) (.lit 4)))))), (.v (.one (.z (.bool (.lit false))))), (.v (.one (.z (.ptr 4 3)))), (.v (.one (.z (.ext [(.int .i64), (.int .i64), (.int .i64), (.int .i64), (.int .i64), (.int .i64)] (.var 4) false)))), (.v (.one (.z (.int .i64 (.len (.var 4)))))), (.v (.one (.z (.bool (.cmp .gtr (.len (.var 4)) (.lit 6)))))), (.v (.one (.z (.bool (.cmp .gtr (.len (.var 4)) (.lit 6))))))] (List.replicate 13 V.any)), [(4, (.cells 27 [(.z (.int .i64 (.var 1))), (.z (.int .i64 (.var 2))), (.z (.int .i64 (.var 3))), (.z (.ext [(.int .i64), (.int .i64), (.int .i64), (.int .i64), (.int .i64), (.int .i64)] (.var 4) false))])), (3, (.cells 60 [(.z (.int .i64 (.var 18))), (.z (.int .i64 (.var 19)))])), (2, (.cells 60 [(.z (.int .i64 (.var 16))), (.z (.int .i64 (.var 17)))])), (1, (.cells 40 [(.z (.ext [(.int .i64)] (.var 11) false)), (.z (.ext [(.int .u64)] (.var 12) false))])), (0, (.cells 35 [(.z (.ext [(.int .i64), (.int .i64), (.int .i64), (.int .i64), (.int .i64), (.int .i64), (.int .i64), (.int .i64), (.int .i64), (.int .i64), (.int .i64), (.sl [(.int .i64)]), (.sl [(.int .i64), (.int .i64), (.int .i64), (.int .i64), (.int .i64), (.sl [(.int .i64), (.int .i64)]), (.int .i64), (.int .i64), (.sl [(.int .i64), (.int .i64), (.int .i64), (.int .i64), (.int .i64), (.int .i64)])])] (.var 0) false)), (.z (.int .i64 (.var 1))), (.z (.int .i64 (.var 2))), (.z (.int .i64 (.var 3))), (.z (.ext [(.int .i64), (.int .i64), (.int .i64), (.int .i64), (.int .i64), (.int .i64)] (.var 4) false)), (.z (.int .i64 (.var 5))), (.z (.int .i64 (.var 6))), (.z (.ext [(.int .i64)] (.var 7) false)), (.z (.int .i64 (.var 8))), (.z (.int .i64 (.var 9))), (.z (.ext [(.int .i64), (.int .i64)] (.var 10) false))]))], 6, []⟩),
(7, ⟨(List.append [(.v (.one (.z (.ext [(.int .i64), (.int .i64), (.int .i64), (.int .i64), (.int .i64), (.int .i64), (.int .i64), (.int .i64), (.int .i64), (.int .i64), (.int .i64), (.sl [(.int .i64)]), (.sl [(.int .i64), (.int .i64), (.int .i64), (.int .i64), (.int .i64), (.sl [(.int .i64), (.int .i64)]), (.int .i64), (.int .i64), (.sl [(.int .i64), (.int .i64), (.int .i64), (.int .i64), (.int .i64), (.int .i64)])])] (.var 0) false)))), (.v (.one (.z (.int .i64 (.rd (.var 11) (.var 13) 0))))), (.v (.one (.z .any))), (.v (.one (.z .any))), (.v (.one (.z (.int .i64 (.lit 0))))), (.v (.one (.z (.int .i64 (.var 8000)))))] (List.replicate 14 V.any)), [(6, (.cells 57 [(.z (.int .i64 (.lit 0))), (.z (.int .i64 (.lit 0))), (.z (.int .i64 (.lit 0))), (.z (.int .i64 (.lit 0))), (.z (.int .i64 (.lit 0))), (.z (.int .i64 (.lit 0))), (.z (.int .i64 (.lit 0))), (.z (.int .i64 (.lit 0))), (.z (.int .i64 (.lit 0))), (.z (.int .i64 (.lit 0))), (.z (.int .i64 (.lit 0))), (.z (.const (.slice none 0 0))), (.z (.const (.slice none 0 0)))]))], 8, []⟩),
(11, ⟨(List.append (List.replicate 13 V.any) (List.append [(.v (.one (.z (.ptr 3 0)))), (.v (.one (.z (.bool (.lit false))))), (.v (.one (.z (.bool (.var 12000)))))] (List.append (List.replicate 4 V.any) (List.append [(.v (.one (.z (.ptr 8 0))))] (List.append (List.replicate 8 V.any) (List.append [(.v (.one (.z (.int .i64 (.var 12001)))))] (List.replicate 184 V.any))))))), [(9, .gone), (8, (.cells 57 [(.z (.int .i64 (.rd (.var 0) (.var 8000) 0))), (.z (.int .i64 (.rd (.var 0) (.var 8000) 1))), (.z (.int .i64 (.rd (.var 0) (.var 8000) 2))), (.z (.int .i64 (.rd (.var 0) (.var 8000) 3))), (.z (.int .i64 (.rd (.var 0) (.var 8000) 4))), (.z (.int .i64 (.rd (.var 0) (.var 8000) 5))), (.z (.int .i64 (.rd (.var 0) (.var 8000) 6))), (.z (.int .i64 (.rd (.var 0) (.var 8000) 7))), (.z (.int .i64 (.rd (.var 0) (.var 8000) 8))), (.z (.int .i64 (.rd (.var 0) (.var 8000) 9))), (.z (.int .i64 (.rd (.var 0) (.var 8000) 10))), (.z (.ext [(.int .i64)] (.rd (.var 0) (.var 8000) 11) false)), (.z (.ext [(.int .i64), (.int .i64), (.int .i64), (.int .i64), (.int .i64), (.sl [(.int .i64), (.int .i64)]), (.int .i64), (.int .i64), (.sl [(.int .i64), (.int .i64), (.int .i64), (.int .i64), (.int .i64), (.int .i64)])] (.rd (.var 0) (.var 8000) 12) false))])), (3, (.cells 60 [(.z (.int .i64 (.var 18))), (.z (.int .i64 (.var 19)))])), (2, .gone), (1, .gone), (0, .gone)], 12, []⟩)]
def trLawSafe_j : List (FuncId × Nat × Nat × St) := [
(9, 2000166, 10, ⟨(List.append (List.replicate 13 V.any) (List.append [(.v (.one (.z (.ptr 3 0)))), (.v (.one (.z (.bool (.lit false))))), (.v (.one (.z (.bool (.var 11001)))))] (List.append (List.replicate 4 V.any) (List.append [(.v (.one (.z (.ptr 8 0))))] (List.replicate 193 V.any))))), [(9, .gone), (8, (.cells 57 [(.z (.int .i64 (.rd (.var 0) (.var 8000) 0))), (.z (.int .i64 (.rd (.var 0) (.var 8000) 1))), (.z (.int .i64 (.rd (.var 0) (.var 8000) 2))), (.z (.int .i64 (.rd (.var 0) (.var 8000) 3))), (.z (.int .i64 (.rd (.var 0) (.var 8000) 4))), (.z (.int .i64 (.rd (.var 0) (.var 8000) 5))), (.z (.int .i64 (.rd (.var 0) (.var 8000) 6))), (.z (.int .i64 (.rd (.var 0) (.var 8000) 7))), (.z (.int .i64 (.rd (.var 0) (.var 8000) 8))), (.z (.int .i64 (.rd (.var 0) (.var 8000) 9))), (.z (.int .i64 (.rd (.var 0) (.var 8000) 10))), (.z (.ext [(.int .i64)] (.rd (.var 0) (.var 8000) 11) false)), (.z (.ext [(.int .i64), (.int .i64), (.int .i64), (.int .i64), (.int .i64), (.sl [(.int .i64), (.int .i64)]), (.int .i64), (.int .i64), (.sl [(.int .i64), (.int .i64), (.int .i64), (.int .i64), (.int .i64), (.int .i64)])] (.rd (.var 0) (.var 8000) 12) false))])), (3, (.cells 60 [(.z (.int .i64 (.var 18))), (.z (.int .i64 (.var 19)))])), (2, .gone), (1, .gone), (0, .gone)], 11, []⟩),
(9, 2000195, 11, ⟨(List.append (List.replicate 13 V.any) (List.append [(.v (.one (.z (.ptr 3 0)))), (.v (.one (.z (.bool (.lit false))))), (.v (.one (.z (.bool (.var 12001)))))] (List.append (List.replicate 4 V.any) (List.append [(.v (.one (.z (.ptr 8 0))))] (List.append (List.replicate 8 V.any) (List.append [(.v (.one (.z (.int .i64 (.lit 0))))), (.v (.one (.z (.bool (.fn 78 (.i (.rd (.rd (.var 0) (.var 8000) 12) (.lit 0) 0) (.i (.rd (.rd (.var 0) (.var 8000) 12) (.lit 0) 1) (.i (.rd (.rd (.var 0) (.var 8000) 12) (.lit 0) 2) (.i (.rd (.rd (.var 0) (.var 8000) 12) (.lit 0) 3) (.i (.rd (.rd (.var 0) (.var 8000) 12) (.lit 0) 4) (.x (.rd (.rd (.var 0) (.var 8000) 12) (.lit 0) 5) (.i (.rd (.rd (.var 0) (.var 8000) 12) (.lit 0) 6) (.i (.rd (.rd (.var 0) (.var 8000) 12) (.lit 0) 7) (.x (.rd (.rd (.var 0) (.var 8000) 12) (.lit 0) 8) (.i (.var 18) (.i (.var 19) .nil)))))))))))))))), (.v (.one (.z (.int .i64 (.fn 78 (.i (.rd (.rd (.var 0) (.var 8000) 12) (.lit 0) 0) (.i (.rd (.rd (.var 0) (.var 8000) 12) (.lit 0) 1) (.i (.rd (.rd (.var 0) (.var 8000) 12) (.lit 0) 2) (.i (.rd (.rd (.var 0) (.var 8000) 12) (.lit 0) 3) (.i (.rd (.rd (.var 0) (.var 8000) 12) (.lit 0) 4) (.x (.rd (.rd (.var 0) (.var 8000) 12) (.lit 0) 5) (.i (.rd (.rd (.var 0) (.var 8000) 12) (.lit 0) 6) (.i (.rd (.rd (.var 0) (.var 8000) 12) (.lit 0) 7) (.x (.rd (.rd (.var 0) (.var 8000) 12) (.lit 0) 8) (.i (.var 18) (.i (.var 19) .nil))))))))))))))))] (List.append (List.replicate 146 V.any) (List.append [(.v (.one (.z (.int .i64 (.lit 0))))), (.v (.one (.z (.ptr 8 12)))), (.v (.one (.z (.ext [(.int .i64), (.int .i64), (.int .i64), (.int .i64), (.int .i64), (.sl [(.int .i64), (.int .i64)]), (.int .i64), (.int .i64), (.sl [(.int .i64), (.int .i64), (.int .i64), (.int .i64), (.int .i64), (.int .i64)])] (.rd (.var 0) (.var 8000) 12) false)))), (.v (.one (.z (.int .i64 (.len (.rd (.var 0) (.var 8000) 12)))))), (.v (.one (.z (.bool (.cmp .lss (.lit 0) (.len (.rd (.var 0) (.var 8000) 12))))))), (.v (.one (.z .any))), (.v (.one (.z .any))), (.v (.one (.z .any))), (.v (.one (.z (.ptr 8 12)))), (.v (.one (.z (.ext [(.int .i64), (.int .i64), (.int .i64), (.int .i64), (.int .i64), (.sl [(.int .i64), (.int .i64)]), (.int .i64), (.int .i64), (.sl [(.int .i64), (.int .i64), (.int .i64), (.int .i64), (.int .i64), (.int .i64)])] (.rd (.var 0) (.var 8000) 12) false)))), (.v (.one (.z (.int .i64 (.lit 0))))), (.v (.one (.z (.eptr [(.int .i64), (.int .i64), (.int .i64), (.int .i64), (.int .i64), (.sl [(.int .i64), (.int .i64)]), (.int .i64), (.int .i64), (.sl [(.int .i64), (.int .i64), (.int .i64), (.int .i64), (.int .i64), (.int .i64)])] (.rd (.var 0) (.var 8000) 12) (.lit 0) 0)))), (.v (.agg [(.z (.int .i64 (.rd (.rd (.var 0) (.var 8000) 12) (.lit 0) 0))), (.z (.int .i64 (.rd (.rd (.var 0) (.var 8000) 12) (.lit 0) 1))), (.z (.int .i64 (.rd (.rd (.var 0) (.var 8000) 12) (.lit 0) 2))), (.z (.int .i64 (.rd (.rd (.var 0) (.var 8000) 12) (.lit 0) 3))), (.z (.int .i64 (.rd (.rd (.var 0) (.var 8000) 12) (.lit 0) 4))), (.z (.ext [(.int .i64), (.int .i64)] (.rd (.rd (.var 0) (.var 8000) 12) (.lit 0) 5) false)), (.z (.int .i64 (.rd (.rd (.var 0) (.var 8000) 12) (.lit 0) 6))), (.z (.int .i64 (.rd (.rd (.var 0) (.var 8000) 12) (.lit 0) 7))), (.z (.ext [(.int .i64), (.int .i64), (.int .i64), (.int .i64), (.int .i64), (.int .i64)] (.rd (.rd (.var 0) (.var 8000) 12) (.lit 0) 8) false))])), (.v (.agg [(.z (.int .i64 (.var 18))), (.z (.int .i64 (.var 19)))])), (.v (.one (.z .any))), (.v (.one (.z (.bool (.fn 78 (.i (.rd (.rd (.var 0) (.var 8000) 12) (.lit 0) 0) (.i (.rd (.rd (.var 0) (.var 8000) 12) (.lit 0) 1) (.i (.rd (.rd (.var 0) (.var 8000) 12) (.lit 0) 2) (.i (.rd (.rd (.var 0) (.var 8000) 12) (.lit 0) 3) (.i (.rd (.rd (.var 0) (.var 8000) 12) (.lit 0) 4) (.x (.rd (.rd (.var 0) (.var 8000) 12) (.lit 0) 5) (.i (.rd (.rd (.var 0) (.var 8000) 12) (.lit 0) 6) (.i (.rd (.rd (.var 0) (.var 8000) 12) (.lit 0) 7) (.x (.rd (.rd (.var 0) (.var 8000) 12) (.lit 0) 8) (.i (.var 18) (.i (.var 19) .nil)))))))))))))))), (.v (.one (.z (.int .i64 (.fn 78 (.i (.rd (.rd (.var 0) (.var 8000) 12) (.lit 0) 0) (.i (.rd (.rd (.var 0) (.var 8000) 12) (.lit 0) 1) (.i (.rd (.rd (.var 0) (.var 8000) 12) (.lit 0) 2) (.i (.rd (.rd (.var 0) (.var 8000) 12) (.lit 0) 3) (.i (.rd (.rd (.var 0) (.var 8000) 12) (.lit 0) 4) (.x (.rd (.rd (.var 0) (.var 8000) 12) (.lit 0) 5) (.i (.rd (.rd (.var 0) (.var 8000) 12) (.lit 0) 6) (.i (.rd (.rd (.var 0) (.var 8000) 12) (.lit 0) 7) (.x (.rd (.rd (.var 0) (.var 8000) 12) (.lit 0) 8) (.i (.var 18) (.i (.var 19) .nil)))))))))))))))), (.v (.one (.z (.bool (.var 11001))))), (.v (.one (.z (.bool (.var 12006))))), (.v (.one (.z .any))), (.v (.one (.z .any))), (.v (.one (.z (.bool (.var 12007))))), (.v (.one (.z (.bool (.var 12005)))))] (List.append (List.replicate 11 V.any) [(.v (.one (.z (.bool (.var 12004))))), (.v (.one (.z .any)))]))))))))), [(9, .gone), (8, (.cells 57 [(.z (.int .i64 (.rd (.var 0) (.var 8000) 0))), (.z (.int .i64 (.rd (.var 0) (.var 8000) 1))), (.z (.int .i64 (.rd (.var 0) (.var 8000) 2))), (.z (.int .i64 (.rd (.var 0) (.var 8000) 3))), (.z (.int .i64 (.rd (.var 0) (.var 8000) 4))), (.z (.int .i64 (.rd (.var 0) (.var 8000) 5))), (.z (.int .i64 (.rd (.var 0) (.var 8000) 6))), (.z (.int .i64 (.rd (.var 0) (.var 8000) 7))), (.z (.int .i64 (.rd (.var 0) (.var 8000) 8))), (.z (.int .i64 (.rd (.var 0) (.var 8000) 9))), (.z (.int .i64 (.rd (.var 0) (.var 8000) 10))), (.z (.ext [(.int .i64)] (.rd (.var 0) (.var 8000) 11) false)), (.z (.ext [(.int .i64), (.int .i64), (.int .i64), (.int .i64), (.int .i64), (.sl [(.int .i64), (.int .i64)]), (.int .i64), (.int .i64), (.sl [(.int .i64), (.int .i64), (.int .i64), (.int .i64), (.int .i64), (.int .i64)])] (.rd (.var 0) (.var 8000) 12) false))])), (3, (.cells 60 [(.z (.int .i64 (.var 18))), (.z (.int .i64 (.var 19)))])), (2, .gone), (1, .gone), (0, .gone)], 12, []⟩),
(9, 2000195, 12, ⟨(List.append (List.replicate 13 V.any) (List.append [(.v (.one (.z (.ptr 3 0)))), (.v (.one (.z (.bool (.lit false))))), (.v (.one (.z (.bool (.var 13001)))))] (List.append (List.replicate 4 V.any) (List.append [(.v (.one (.z (.ptr 8 0))))] (List.append (List.replicate 8 V.any) (List.append [(.v (.one (.z (.int .i64 (.var 12001))))), (.v (.one (.z (.bool (.fn 78 (.i (.rd (.rd (.var 0) (.var 8000) 12) (.var 12001) 0) (.i (.rd (.rd (.var 0) (.var 8000) 12) (.var 12001) 1) (.i (.rd (.rd (.var 0) (.var 8000) 12) (.var 12001) 2) (.i (.rd (.rd (.var 0) (.var 8000) 12) (.var 12001) 3) (.i (.rd (.rd (.var 0) (.var 8000) 12) (.var 12001) 4) (.x (.rd (.rd (.var 0) (.var 8000) 12) (.var 12001) 5) (.i (.rd (.rd (.var 0) (.var 8000) 12) (.var 12001) 6) (.i (.rd (.rd (.var 0) (.var 8000) 12) (.var 12001) 7) (.x (.rd (.rd (.var 0) (.var 8000) 12) (.var 12001) 8) (.i (.var 18) (.i (.var 19) .nil)))))))))))))))), (.v (.one (.z (.int .i64 (.fn 78 (.i (.rd (.rd (.var 0) (.var 8000) 12) (.var 12001) 0) (.i (.rd (.rd (.var 0) (.var 8000) 12) (.var 12001) 1) (.i (.rd (.rd (.var 0) (.var 8000) 12) (.var 12001) 2) (.i (.rd (.rd (.var 0) (.var 8000) 12) (.var 12001) 3) (.i (.rd (.rd (.var 0) (.var 8000) 12) (.var 12001) 4) (.x (.rd (.rd (.var 0) (.var 8000) 12) (.var 12001) 5) (.i (.rd (.rd (.var 0) (.var 8000) 12) (.var 12001) 6) (.i (.rd (.rd (.var 0) (.var 8000) 12) (.var 12001) 7) (.x (.rd (.rd (.var 0) (.var 8000) 12) (.var 12001) 8) (.i (.var 18) (.i (.var 19) .nil))))))))))))))))] (List.append (List.replicate 146 V.any) (List.append [(.v (.one (.z (.int .i64 (.var 12001))))), (.v (.one (.z (.ptr 8 12)))), (.v (.one (.z (.ext [(.int .i64), (.int .i64), (.int .i64), (.int .i64), (.int .i64), (.sl [(.int .i64), (.int .i64)]), (.int .i64), (.int .i64), (.sl [(.int .i64), (.int .i64), (.int .i64), (.int .i64), (.int .i64), (.int .i64)])] (.rd (.var 0) (.var 8000) 12) false)))), (.v (.one (.z (.int .i64 (.len (.rd (.var 0) (.var 8000) 12)))))), (.v (.one (.z (.bool (.cmp .lss (.var 12001) (.len (.rd (.var 0) (.var 8000) 12))))))), (.v (.one (.z .any))), (.v (.one (.z .any))), (.v (.one (.z .any))), (.v (.one (.z (.ptr 8 12)))), (.v (.one (.z (.ext [(.int .i64), (.int .i64), (.int .i64), (.int .i64), (.int .i64), (.sl [(.int .i64), (.int .i64)]), (.int .i64), (.int .i64), (.sl [(.int .i64), (.int .i64), (.int .i64), (.int .i64), (.int .i64), (.int .i64)])] (.rd (.var 0) (.var 8000) 12) false)))), (.v (.one (.z (.int .i64 (.var 12001))))), (.v (.one (.z (.eptr [(.int .i64), (.int .i64), (.int .i64), (.int .i64), (.int .i64), (.sl [(.int .i64), (.int .i64)]), (.int .i64), (.int .i64), (.sl [(.int .i64), (.int .i64), (.int .i64), (.int .i64), (.int .i64), (.int .i64)])] (.rd (.var 0) (.var 8000) 12) (.var 12001) 0)))), (.v (.agg [(.z (.int .i64 (.rd (.rd (.var 0) (.var 8000) 12) (.var 12001) 0))), (.z (.int .i64 (.rd (.rd (.var 0) (.var 8000) 12) (.var 12001) 1))), (.z (.int .i64 (.rd (.rd (.var 0) (.var 8000) 12) (.var 12001) 2))), (.z (.int .i64 (.rd (.rd (.var 0) (.var 8000) 12) (.var 12001) 3))), (.z (.int .i64 (.rd (.rd (.var 0) (.var 8000) 12) (.var 12001) 4))), (.z (.ext [(.int .i64), (.int .i64)] (.rd (.rd (.var 0) (.var 8000) 12) (.var 12001) 5) false)), (.z (.int .i64 (.rd (.rd (.var 0) (.var 8000) 12) (.var 12001) 6))), (.z (.int .i64 (.rd (.rd (.var 0) (.var 8000) 12) (.var 12001) 7))), (.z (.ext [(.int .i64), (.int .i64), (.int .i64), (.int .i64), (.int .i64), (.int .i64)] (.rd (.rd (.var 0) (.var 8000) 12) (.var 12001) 8) false))])), (.v (.agg [(.z (.int .i64 (.var 18))), (.z (.int .i64 (.var 19)))])), (.v (.one (.z .any))), (.v (.one (.z (.bool (.fn 78 (.i (.rd (.rd (.var 0) (.var 8000) 12) (.var 12001) 0) (.i (.rd (.rd (.var 0) (.var 8000) 12) (.var 12001) 1) (.i (.rd (.rd (.var 0) (.var 8000) 12) (.var 12001) 2) (.i (.rd (.rd (.var 0) (.var 8000) 12) (.var 12001) 3) (.i (.rd (.rd (.var 0) (.var 8000) 12) (.var 12001) 4) (.x (.rd (.rd (.var 0) (.var 8000) 12) (.var 12001) 5) (.i (.rd (.rd (.var 0) (.var 8000) 12) (.var 12001) 6) (.i (.rd (.rd (.var 0) (.var 8000) 12) (.var 12001) 7) (.x (.rd (.rd (.var 0) (.var 8000) 12) (.var 12001) 8) (.i (.var 18) (.i (.var 19) .nil)))))))))))))))), (.v (.one (.z (.int .i64 (.fn 78 (.i (.rd (.rd (.var 0) (.var 8000) 12) (.var 12001) 0) (.i (.rd (.rd (.var 0) (.var 8000) 12) (.var 12001) 1) (.i (.rd (.rd (.var 0) (.var 8000) 12) (.var 12001) 2) (.i (.rd (.rd (.var 0) (.var 8000) 12) (.var 12001) 3) (.i (.rd (.rd (.var 0) (.var 8000) 12) (.var 12001) 4) (.x (.rd (.rd (.var 0) (.var 8000) 12) (.var 12001) 5) (.i (.rd (.rd (.var 0) (.var 8000) 12) (.var 12001) 6) (.i (.rd (.rd (.var 0) (.var 8000) 12) (.var 12001) 7) (.x (.rd (.rd (.var 0) (.var 8000) 12) (.var 12001) 8) (.i (.var 18) (.i (.var 19) .nil)))))))))))))))), (.v (.one (.z (.bool (.var 12000))))), (.v (.one (.z (.bool (.var 13006))))), (.v (.one (.z .any))), (.v (.one (.z .any))), (.v (.one (.z (.bool (.var 13007))))), (.v (.one (.z (.bool (.var 13005)))))] (List.append (List.replicate 11 V.any) [(.v (.one (.z (.bool (.var 13004))))), (.v (.one (.z .any)))]))))))))), [(9, .gone), (8, (.cells 57 [(.z (.int .i64 (.rd (.var 0) (.var 8000) 0))), (.z (.int .i64 (.rd (.var 0) (.var 8000) 1))), (.z (.int .i64 (.rd (.var 0) (.var 8000) 2))), (.z (.int .i64 (.rd (.var 0) (.var 8000) 3))), (.z (.int .i64 (.rd (.var 0) (.var 8000) 4))), (.z (.int .i64 (.rd (.var 0) (.var 8000) 5))), (.z (.int .i64 (.rd (.var 0) (.var 8000) 6))), (.z (.int .i64 (.rd (.var 0) (.var 8000) 7))), (.z (.int .i64 (.rd (.var 0) (.var 8000) 8))), (.z (.int .i64 (.rd (.var 0) (.var 8000) 9))), (.z (.int .i64 (.rd (.var 0) (.var 8000) 10))), (.z (.ext [(.int .i64)] (.rd (.var 0) (.var 8000) 11) false)), (.z (.ext [(.int .i64), (.int .i64), (.int .i64), (.int .i64), (.int .i64), (.sl [(.int .i64), (.int .i64)]), (.int .i64), (.int .i64), (.sl [(.int .i64), (.int .i64), (.int .i64), (.int .i64), (.int .i64), (.int .i64)])] (.rd (.var 0) (.var 8000) 12) false))])), (3, (.cells 60 [(.z (.int .i64 (.var 18))), (.z (.int .i64 (.var 19)))])), (2, .gone), (1, .gone), (0, .gone)], 13, []⟩)]
set_option maxRecDepth 100000 in
theorem trLawSafe_is : T.norm 0 (call Tryz.prog ctV3 ⟨Lt.un (Lt.of [(9, 2000166), (9, 2000195), (9, 3000000)]), trLawSafe_h, trLawSafe_j⟩ 100 9 (symArgs 0 [caseS, certS, it, it, it, pt, pt]) [] 0) TT.ret = trLawSafe := by kernel_rfl
theorem trLawSafe_low : trLawSafe.low 1000 = true := by kernel_rfl
end Go.Proofs.YtkjjkckcjgkhmaaGreat
/- Chapter 40: the law CheckSafe. -/
namespace Go.Proofs.YtkjjkckcjgkhmaaGreat
open Go.RowKit
theorem shoN_cases {r : Rows} {px py : Int} : ∀ (f i : Nat) (m : Int), shoN r px py f i m = m ∨ ∃ k : Nat, i ≤ k ∧ k < i + f ∧ covRow r k px py = true ∧ shoN r px py f i m = lg r k 6
  | 0, i, m => .inl rfl
  | f + 1, i, m => by
    rw [shoN]
    by_cases c : lg r i 6 < m ∧ covRow r i px py = true
    · rw [if_pos c]
      rcases shoN_cases (r := r) (px := px) (py := py) f (i + 1) (lg r i 6) with h3 | ⟨k, g1, g2, g3, g4⟩
      · exact .inr ⟨i, by omega, by omega, c.2, h3⟩
      · exact .inr ⟨k, by omega, by omega, g3, g4⟩
    · rw [if_neg c]
      rcases shoN_cases (r := r) (px := px) (py := py) f (i + 1) m with h3 | ⟨k, g1, g2, g3, g4⟩
      · exact .inl h3
      · exact .inr ⟨k, by omega, by omega, g3, g4⟩
section
variable {a b c dA dB dC dD dE dF dR cap : Int} {dd fs : Rows} {lo hi off : Int} {r : Rows} {k : Nat} {d m : Int} {sq : Rows} {st ph : Int} {hts : Rows} {t px py qx qy v : Int}
theorem safe_leg (h : legE [.i a, .i b, .i c, .i dA, .i dB, .i dC, .i dD, .i dE, .i dF, .i dR, .i cap, .l dd, .l fs, .i lo, .i hi, .i off, .l r, .i k, .i d, .i m, .l sq, .i st, .i ph, .l hts] = 0)
    (hh : holdsR [.i lo, .i hi, .i off, .l r, .i k, .i t, .i px, .i py] = true) (hf : fitR [.i dA, .i dB, .i dC, .i dD, .i dE, .i dF, .i dR, .i px, .i py, .i qx, .i qy] = true) (v0 : lg r k 4 ≤ v) (v1 : v ≤ lg r k 5) :
    (listB fs = true ∧ placeB qx qy = true ∧ cap ≤ 100000) ∧ deR [.i d, .i m, .l sq, .i st, .i ph, .l hts, .i cap, .i v, .i t, .i t] = true ∧
    ∀ j : Nat, j < fs.length → covRow fs j qx qy = true → lg fs j 1 ≠ 6 ∧ deR [.i d, .i m, .l sq, .i st, .i ph, .l hts, .i (lg fs j 6), .i v, .i t, .i t] = true := by
  have hfact := leg_fact h
  have h' := h
  rw [legE_zero] at h
  obtain ⟨g1, g2, g3, g4, g5, g6, g7⟩ := h
  have a2 : (psgB lo hi off r && (decide (0 ≤ (k : Int) ∧ (k : Int) < r.length) && (kevB d m sq && tideB st ph hts))) = true := g2
  have a3 : decide (dA = 1000000 ∧ dB = 0 ∧ dD = 0 ∧ dE = 1000000) = true := g3
  have a4 : durE [.i lo, .i hi, .i off, .l r, .i k] = 0 := g4
  have a5 : psgB lo hi (off + 2 * dR) (mvLegs r dC dF) = true := g5
  have eK : ∀ x, lgK [.i a, .i b, .i c, .i dA, .i dB, .i dC, .i dD, .i dE, .i dF, .i dR, .i cap, .l dd, .l fs, .i lo, .i hi, .i off, .l r, .i k, .i d, .i m, .l sq, .i st, .i ph, .l hts] x = [.i d, .i m, .l sq, .i st, .i ph, .l hts, .i x, .i (lg (mvLegs r dC dF) k 5), .i (durL [.i lo, .i hi, .i off, .l r, .i k]), .i (durH [.i lo, .i hi, .i off, .l r, .i k])] := fun _ => rfl
  clear g2 g3 g4 g5
  simp only [Bool.and_eq_true, decide_eq_true_eq] at a2 a3
  obtain ⟨pB, hk, _, _⟩ := a2
  have hk : k < r.length := by omega
  obtain ⟨rfl, rfl, rfl, rfl⟩ := a3
  have e : holdsR [.i lo, .i hi, .i off, .l r, .i k, .i t, .i px, .i py] = (placeB px py && timeB t && decide (durE [.i lo, .i hi, .i off, .l r, .i k] = 0) && nearR [.i px, .i py, .i (lg r k 0), .i (lg r k 1), .i (lg r k 2), .i (lg r k 3), .i off] && decide (durL [.i lo, .i hi, .i off, .l r, .i k] ≤ t ∧ t ≤ durH [.i lo, .i hi, .i off, .l r, .i k])) := rfl
  rw [e] at hh
  simp only [Bool.and_eq_true, decide_eq_true_eq] at hh
  obtain ⟨⟨⟨⟨hp, _⟩, _⟩, hn⟩, ht⟩ := hh
  have e2 : fitR [.i 1000000, .i 0, .i dC, .i 0, .i 1000000, .i dF, .i dR, .i px, .i py, .i qx, .i qy] = ((datB 1000000 0 dC 0 1000000 dF dR && (placeB px py && placeB qx qy)) && decide ((-(1000000 * dR) ≤ 1000000 * qx - (1000000 * px + 0 * py + 1000000 * dC) ∧ 1000000 * qx - (1000000 * px + 0 * py + 1000000 * dC) ≤ 1000000 * dR) ∧ (-(1000000 * dR) ≤ 1000000 * qy - (0 * px + 1000000 * py + 1000000 * dF) ∧ 1000000 * qy - (0 * px + 1000000 * py + 1000000 * dF) ≤ 1000000 * dR))) := rfl
  rw [e2] at hf
  simp only [Bool.and_eq_true, decide_eq_true_eq] at hf
  obtain ⟨⟨hd, _, hq⟩, f1, f2⟩ := hf
  unfold datB at hd
  simp only [Bool.and_eq_true, decide_eq_true_eq] at hd
  have hres := hd.2.2.2.2
  obtain ⟨_, _, p3, p4⟩ := psgB_iff pB
  obtain ⟨_, _, q3, q4⟩ := psgB_iff a5
  have hml : (mvLegs r dC dF).length = r.length := mvLegs_len
  have hl := p4 k hk
  have hl' := q4 k (by omega)
  obtain ⟨l1, l2⟩ := leg_places hl
  have lv := (legB_iff.1 hl).2.2
  obtain ⟨mv1, mv2, _, mv5⟩ := (mvLegs_mv (s := dC) (t := dF) (psg_leg4 pB)).2 k hk
  rw [(nearR_eq hp l1 l2 (by omega)).1] at hn
  have hn2 := near_moved (s := dC) (t := dF) (e := dR) (qx := qx) (qy := qy) (by omega) hres.1 hn (by omega) (by omega)
  rw [← mv1.1, ← mv1.2, ← mv2.1, ← mv2.2] at hn2
  rw [eK, mv5] at g6
  refine ⟨⟨hfact.2.2, hq, hfact.2.1⟩, deR_at (by omega) v1 ht.1 ht.2 g6, fun j hj hc => ?_⟩
  have hfe := (lis_spec hfact.2.2).2.1 j hj
  have hx := near_at hl' (show 0 ≤ off + 2 * dR ∧ off + 2 * dR ≤ 100000 by omega) (featB_iff.1 hfe) hq hn2 hc
  have hR : nearPR (lgN [.i a, .i b, .i c, .i 1000000, .i 0, .i dC, .i 0, .i 1000000, .i dF, .i dR, .i cap, .l dd, .l fs, .i lo, .i hi, .i off, .l r, .i k, .i d, .i m, .l sq, .i st, .i ph, .l hts] j) = true := by
    show ((psgB lo hi (off + 2 * dR) (mvLegs r dC dF) && (decide (0 ≤ (k : Int) ∧ (k : Int) < (mvLegs r dC dF).length) && featRow fs j)) && nearX (mvLegs r dC dF) k (off + 2 * dR) (lg fs j 1) (lg fs j 2) (lg fs j 3) (lg fs j 4) (lr fs j 5)) = true
    rw [a5, decide_eq_true (by omega), hfe, hx]; rfl
  have hE : nearPE (lgN [.i a, .i b, .i c, .i 1000000, .i 0, .i dC, .i 0, .i 1000000, .i dF, .i dR, .i cap, .l dd, .l fs, .i lo, .i hi, .i off, .l r, .i k, .i d, .i m, .l sq, .i st, .i ph, .l hts] j) = 0 :=
    (nearP_far (d := off + 2 * dR) (e := off + 2 * dR) (by omega) (Int.le_refl _) a5 hfe hR).1
  have hno := g7 j hj
  have key : ¬ (lg fs j 1 = 6 ∨ deR (lgK [.i a, .i b, .i c, .i 1000000, .i 0, .i dC, .i 0, .i 1000000, .i dF, .i dR, .i cap, .l dd, .l fs, .i lo, .i hi, .i off, .l r, .i k, .i d, .i m, .l sq, .i st, .i ph, .l hts] (lg fs j 6)) = false) := fun q => by
    rw [lgF_iff.2 ⟨hE, hR, q⟩] at hno; cases hno
  have k1 : lg fs j 1 ≠ 6 := fun q => key (.inl q)
  have k2 : deR (lgK [.i a, .i b, .i c, .i 1000000, .i 0, .i dC, .i 0, .i 1000000, .i dF, .i dR, .i cap, .l dd, .l fs, .i lo, .i hi, .i off, .l r, .i k, .i d, .i m, .l sq, .i st, .i ph, .l hts] (lg fs j 6)) = true := by
    cases q : deR (lgK [.i a, .i b, .i c, .i 1000000, .i 0, .i dC, .i 0, .i 1000000, .i dF, .i dR, .i cap, .l dd, .l fs, .i lo, .i hi, .i off, .l r, .i k, .i d, .i m, .l sq, .i st, .i ph, .l hts] (lg fs j 6)) with
    | true => rfl
    | false => exact absurd (.inr q) key
  rw [eK, mv5] at k2
  exact ⟨k1, deR_at (by omega) v1 ht.1 ht.2 k2⟩
theorem safe_all (h : legE [.i a, .i b, .i c, .i dA, .i dB, .i dC, .i dD, .i dE, .i dF, .i dR, .i cap, .l dd, .l fs, .i lo, .i hi, .i off, .l r, .i k, .i d, .i m, .l sq, .i st, .i ph, .l hts] = 0)
    (hh : holdsR [.i lo, .i hi, .i off, .l r, .i k, .i t, .i px, .i py] = true) (hf : fitR [.i dA, .i dB, .i dC, .i dD, .i dE, .i dF, .i dR, .i px, .i py, .i qx, .i qy] = true) (v0 : lg r k 4 ≤ v) (v1 : v ≤ lg r k 5) :
    shsE [.i a, .i b, .i c, .i dA, .i dB, .i dC, .i dD, .i dE, .i dF, .i dR, .i cap, .l dd, .l fs, .i qx, .i qy] = 0 ∧ deR [.i d, .i m, .l sq, .i st, .i ph, .l hts, .i (shsR [.i a, .i b, .i c, .i dA, .i dB, .i dC, .i dD, .i dE, .i dF, .i dR, .i cap, .l dd, .l fs, .i qx, .i qy]), .i v, .i t, .i t] = true ∧
    ∀ j : Nat, j < fs.length → covE [.i (lg fs j 0), .i (lg fs j 1), .i (lg fs j 2), .i (lg fs j 3), .i (lg fs j 4), .l (lr fs j 5), .i (lg fs j 6), .i (lg fs j 7), .l (lr fs j 8), .i qx, .i qy] = 0 ∧ (covR [.i (lg fs j 0), .i (lg fs j 1), .i (lg fs j 2), .i (lg fs j 3), .i (lg fs j 4), .l (lr fs j 5), .i (lg fs j 6), .i (lg fs j 7), .l (lr fs j 8), .i qx, .i qy] = true → lg fs j 1 ≠ 6) := by
  obtain ⟨⟨s1, s2, s3⟩, s4, s5⟩ := safe_leg h hh hf v0 v1
  have hs : sheetL [.i a, .i b, .i c, .i dA, .i dB, .i dC, .i dD, .i dE, .i dF, .i dR, .i cap, .l dd, .l fs, .i qx, .i qy] = true := (legE_zero.1 h).1
  have hO : shownO [.l fs, .i qx, .i qy] = true := by show (listB fs && placeB qx qy) = true; rw [s1, s2]; rfl
  have hE : shownE [.l fs, .i qx, .i qy] = 0 := by unfold shownE; rw [hO]; rfl
  have hR : shownR [.l fs, .i qx, .i qy] = shoN fs qx qy fs.length 0 100000 := by unfold shownR; rw [hO]; rfl
  have eE : shsE [.i a, .i b, .i c, .i dA, .i dB, .i dC, .i dD, .i dE, .i dF, .i dR, .i cap, .l dd, .l fs, .i qx, .i qy] = 0 := by unfold shsE; rw [hs, if_pos rfl]; exact hE
  have eR : shsR [.i a, .i b, .i c, .i dA, .i dB, .i dC, .i dD, .i dE, .i dF, .i dR, .i cap, .l dd, .l fs, .i qx, .i qy] = min (shoN fs qx qy fs.length 0 100000) cap := by
    unfold shsR; rw [hs, if_pos rfl, if_pos (show shownE (shsL [.i a, .i b, .i c, .i dA, .i dB, .i dC, .i dD, .i dE, .i dF, .i dR, .i cap, .l dd, .l fs, .i qx, .i qy]) = 0 from hE)]
    show min (shownR [.l fs, .i qx, .i qy]) cap = _
    rw [hR]
  refine ⟨eE, ?_, fun j hj => ?_⟩
  · rw [eR]
    rcases shoN_cases (r := fs) (px := qx) (py := qy) fs.length 0 100000 with q | ⟨j, _, j2, j3, j4⟩
    · rw [q, Int.min_eq_right (by omega)]; exact s4
    · rw [j4]
      rcases Int.le_total (lg fs j 6) cap with w | w
      · rw [Int.min_eq_left w]; exact (s5 j (by omega) j3).2
      · rw [Int.min_eq_right w]; exact s4
  · have hfe := (lis_spec s1).2.1 j hj
    have eO : covO [.i (lg fs j 0), .i (lg fs j 1), .i (lg fs j 2), .i (lg fs j 3), .i (lg fs j 4), .l (lr fs j 5), .i (lg fs j 6), .i (lg fs j 7), .l (lr fs j 8), .i qx, .i qy] = true := by
      show (featRow fs j && placeB qx qy) = true
      rw [hfe, s2]; rfl
    refine ⟨by unfold covE; rw [eO]; rfl, fun q => ?_⟩
    have q : (covO [.i (lg fs j 0), .i (lg fs j 1), .i (lg fs j 2), .i (lg fs j 3), .i (lg fs j 4), .l (lr fs j 5), .i (lg fs j 6), .i (lg fs j 7), .l (lr fs j 8), .i qx, .i qy] && covRow fs j qx qy) = true := q
    rw [eO, Bool.true_and] at q
    exact (s5 j hj q).1
end
theorem ver_leg {ds : List D} (h : verR ds = true) {k : Nat} (hk : k < (rAt ds 4).length) : verI ds k < (rAt ds 0).length ∧ lg (rAt ds 0) (verI ds k) 0 = lg (rAt ds 11) k 0 ∧ legE (rowLeg (mkD ds k) (verI ds k)) = 0 := by
  unfold verR at h
  simp only [Bool.and_eq_true, decide_eq_true_eq] at h
  have key : ∀ f i, verN ds f i = true → ∀ l, i ≤ l → l < i + f → verK ds l = true := fun f => by
    induction f with
    | zero => intro i _ l h1 h2; omega
    | succ f ih =>
      intro i hv l h1 h2
      rw [verN, Bool.and_eq_true] at hv
      by_cases e : l = i
      · subst e; exact hv.1
      · exact ih (i + 1) hv.2 l (by omega) (by omega)
  have hK := key _ _ h.2.2 k (Nat.zero_le _) (by omega)
  unfold verK at hK
  simp only [Bool.and_eq_true, decide_eq_true_eq] at hK
  refine ⟨hK.1, ?_, hK.2.2.2⟩
  have sp : ∀ f i, idxN (rAt ds 0) (lg (rAt ds 11) k 0) f i < i + f → lg (rAt ds 0) (idxN (rAt ds 0) (lg (rAt ds 11) k 0) f i) 0 = lg (rAt ds 11) k 0 := fun f => by
    induction f with
    | zero => intro i q; exact absurd q (by simp [idxN])
    | succ f ih =>
      intro i q
      rw [idxN] at q ⊢
      by_cases e : lg (rAt ds 0) i 0 = lg (rAt ds 11) k 0
      · rw [if_pos e]; exact e
      · rw [if_neg e] at q ⊢
        exact ih (i + 1) (by omega)
  exact sp _ 0 (by have := hK.1; unfold verI at this; omega)
def sV (ds : List D) : List D := [.l (rAt ds 0), .i (iAt ds 1), .i (iAt ds 2), .i (iAt ds 3), .l (rAt ds 4), .i (iAt ds 5), .i (iAt ds 6), .l (rAt ds 7), .i (iAt ds 8), .i (iAt ds 9), .l (rAt ds 10), .l (rAt ds 11), .l (rAt ds 12)]
theorem N12i260 (W : World) (ds l : List D) : (envOf N12 W ds).fi 260 l = shsR l := by simp only [envOf, N12, N11, N10, N9c, N9b, N9, N8, N7, N6, N5, N4, N3, N2, N1, KG, KF, KE, KD, KC, KB, KA, K9, K8, K7, K6, K5, K]
theorem N12i261 (W : World) (ds l : List D) : (envOf N12 W ds).fi 261 l = shsE l := by simp only [envOf, N12, N11, N10, N9c, N9b, N9, N8, N7, N6, N5, N4, N3, N2, N1, KG, KF, KE, KD, KC, KB, KA, K9, K8, K7, K6, K5, K]
theorem N12b243 (W : World) (ds l : List D) : (envOf N12 W ds).fb 243 l = verR l := by simp only [envOf, N12, N11, N10, N9c, N9b, N9, N8, N7, N6, N5, N4, N3, N2, N1, KG, KF, KE, KD, KC, KB, KA, K9, K8, K7, K6, K5, K]
theorem N12i244 (W : World) (ds l : List D) : (envOf N12 W ds).fi 244 l = verE l := by simp only [envOf, N12, N11, N10, N9c, N9b, N9, N8, N7, N6, N5, N4, N3, N2, N1, KG, KF, KE, KD, KC, KB, KA, K9, K8, K7, K6, K5, K]
theorem N12b52 (W : World) (ds l : List D) : (envOf N12 W ds).fb 52 l = holdsR l := by simp only [envOf, N12, N11, N10, N9c, N9b, N9, N8, N7, N6, N5, N4, N3, N2, N1, KG, KF, KE, KD, KC, KB, KA, K9, K8, K7, K6, K5, K]
theorem N12i53 (W : World) (ds l : List D) : (envOf N12 W ds).fi 53 l = holdsE l := by simp only [envOf, N12, N11, N10, N9c, N9b, N9, N8, N7, N6, N5, N4, N3, N2, N1, KG, KF, KE, KD, KC, KB, KA, K9, K8, K7, K6, K5, K]
theorem N12b252 (W : World) (ds l : List D) : (envOf N12 W ds).fb 252 l = fitR l := by simp only [envOf, N12, N11, N10, N9c, N9b, N9, N8, N7, N6, N5, N4, N3, N2, N1, KG, KF, KE, KD, KC, KB, KA, K9, K8, K7, K6, K5, K]
theorem N12i253 (W : World) (ds l : List D) : (envOf N12 W ds).fi 253 l = fitE l := by simp only [envOf, N12, N11, N10, N9c, N9b, N9, N8, N7, N6, N5, N4, N3, N2, N1, KG, KF, KE, KD, KC, KB, KA, K9, K8, K7, K6, K5, K]
theorem N12b171 (W : World) (ds l : List D) : (envOf N12 W ds).fb 171 l = deR l := by simp only [envOf, N12, N11, N10, N9c, N9b, N9, N8, N7, N6, N5, N4, N3, N2, N1, KG, KF, KE, KD, KC, KB, KA, K9, K8, K7, K6, K5, K]
theorem N12i171 (W : World) (ds l : List D) : (envOf N12 W ds).fi 171 l = deE l := by simp only [envOf, N12, N11, N10, N9c, N9b, N9, N8, N7, N6, N5, N4, N3, N2, N1, KG, KF, KE, KD, KC, KB, KA, K9, K8, K7, K6, K5, K]
theorem N12b78 (W : World) (ds l : List D) : (envOf N12 W ds).fb 78 l = covR l := by simp only [envOf, N12, N11, N10, N9c, N9b, N9, N8, N7, N6, N5, N4, N3, N2, N1, KG, KF, KE, KD, KC, KB, KA, K9, K8, K7, K6, K5, K]
theorem N12i78 (W : World) (ds l : List D) : (envOf N12 W ds).fi 78 l = covE l := by simp only [envOf, N12, N11, N10, N9c, N9b, N9, N8, N7, N6, N5, N4, N3, N2, N1, KG, KF, KE, KD, KC, KB, KA, K9, K8, K7, K6, K5, K]
set_option maxHeartbeats 4000000 in
theorem gSafeLaw : Gives Tryz.prog 9 [caseS, certS, it, it, it, pt, pt] (fun _ => .bool true) := by
  refine GivesIf.all (fn_gives N12 (by kernel_rfl) (fun ρ h => ctV3_ok (Sees.of h 270) (fun n l hn => by rw [h.2.2]; rfl)) (by kernel_rfl) trLawSafe_is trLawSafe_low (by decide) (fun W vals ds hr _ => ?_))
  have eV : [D.l (rAt ds 0), .i (iAt ds 1), .i (iAt ds 2), .i (iAt ds 3), .l (rAt ds 4), .i (iAt ds 5), .i (iAt ds 6), .l (rAt ds 7), .i (iAt ds 8), .i (iAt ds 9), .l (rAt ds 10), .l (rAt ds 11), .l (rAt ds 12)] = sV ds := rfl
  simp only [trLawSafe, TT.sat_ret, TT.sat_ite, TT.sat_ob, TT.sat_next, TT.sat_stuck, put_i, put_b, put_d, put_fi, put_fb, put_fd, Ob.ok, B.ev, E.ev, X.ev, AL.ev, cmp_t, cmp_f, arEv, V.plain, V2.plain, S.plain, S0.plain, V.val, V2.val, S.val, S0.val, bV, iV, List.all_cons, List.all_nil, Bool.and_true, Bool.and_self, envOf_i, envOf_b, envOf_d, List.map_cons, List.map_nil, true_and, Bool.not_eq_true', Bool.not_eq_false', Bool.not_not, Bool.and_eq_true, and_f, cell_lg, cell_lb, cell_lr, cmpP, val_i, val_b, val_d, aget, Nat.reduceBEq, beq_self_eq_true, Bool.false_eq_true, if_true, if_false, Nat.reduceLT, Nat.reduceSub, Nat.sub_self, Nat.lt_irrefl]
  clear hr
  refine ⟨fun _ => trivial, fun h4 => ⟨fun _ => trivial, fun h6 => ?_⟩⟩
  refine TT.sat_loop (fun v => ∃ i : Nat, v.i 0 = i ∧ i ≤ (rAt ds 0).length) (fun v => (rAt ds 0).length - (v.i 0).toNat) ⟨0, by simp [val_i, aget, E.ev], by omega⟩ (fun v hv => ?_)
  obtain ⟨i, i0, i1⟩ := hv
  simp only [TT.sat_ret, TT.sat_ite, TT.sat_ob, TT.sat_next, TT.sat_stuck, put_i, put_b, put_d, put_fi, put_fb, put_fd, Ob.ok, B.ev, E.ev, X.ev, AL.ev, cmp_t, cmp_f, arEv, V.plain, V2.plain, S.plain, S0.plain, V.val, V2.val, S.val, S0.val, bV, iV, List.all_cons, List.all_nil, Bool.and_true, Bool.and_self, envOf_i, envOf_b, envOf_d, List.map_cons, List.map_nil, true_and, Bool.not_eq_true', Bool.not_eq_false', Bool.not_not, Bool.and_eq_true, and_f, cell_lg, cell_lb, cell_lr, cmpP, val_i, val_b, val_d, aget, Nat.reduceBEq, beq_self_eq_true, Bool.false_eq_true, if_true, if_false, Nat.reduceLT, Nat.reduceSub, Nat.sub_self, Nat.lt_irrefl, i0, N12b243, N12i244, N12b52, N12i53, eV]
  refine ⟨fun hc => ⟨by omega, hc, fun _ => trivial, fun _ => ?_⟩, fun hc => ⟨fun _ => trivial, fun hE => ⟨fun _ => trivial, fun hV => ⟨fun _ => trivial, fun hHE => ⟨fun _ => trivial, fun hH => ⟨fun _ => trivial, fun k0 => ⟨fun _ => trivial, fun k1 => ⟨fun _ => trivial, fun k2 => ⟨by omega, by omega, ?_⟩⟩⟩⟩⟩⟩⟩⟩⟩
  · rw [wrap_in ((i : Int) + 1) (by omega) (by omega)]
    exact ⟨⟨i + 1, rfl, by omega⟩, by omega⟩
  clear i0 i1 hc
  obtain ⟨k, hk⟩ := Int.eq_ofNat_of_zero_le (a := iAt ds 13) (by omega)
  have hk2 : k < (rAt ds 4).length := by omega
  obtain ⟨z1, z2, z3⟩ := ver_leg hV hk2
  have z1 : verI (sV ds) k < (rAt ds 0).length := z1
  have z2 : lg (rAt ds 0) (verI (sV ds) k) 0 = lg (rAt ds 11) k 0 := z2
  rw [hk] at hH
  refine TT.sat_loop (fun u => ∃ n : Nat, u.i 0 = n ∧ n ≤ (rAt ds 0).length ∧ idxN (rAt ds 0) (lg (rAt ds 11) k 0) ((rAt ds 0).length - n) n = verI (sV ds) k) (fun u => (rAt ds 0).length - (u.i 0).toNat) ⟨0, by simp [val_i, aget, E.ev], by omega, rfl⟩ (fun u hu => ?_)
  obtain ⟨n, n0, n1, n2⟩ := hu
  simp only [TT.sat_ret, TT.sat_ite, TT.sat_ob, TT.sat_next, TT.sat_stuck, put_i, put_b, put_d, put_fi, put_fb, put_fd, Ob.ok, B.ev, E.ev, X.ev, AL.ev, cmp_t, cmp_f, arEv, V.plain, V2.plain, S.plain, S0.plain, V.val, V2.val, S.val, S0.val, bV, iV, List.all_cons, List.all_nil, Bool.and_true, Bool.and_self, envOf_i, envOf_b, envOf_d, List.map_cons, List.map_nil, true_and, Bool.not_eq_true', Bool.not_eq_false', Bool.not_not, Bool.and_eq_true, and_f, cell_lg, cell_lb, cell_lr, cmpP, val_i, val_b, val_d, aget, Nat.reduceBEq, beq_self_eq_true, Bool.false_eq_true, if_true, if_false, Nat.reduceLT, Nat.reduceSub, Nat.sub_self, Nat.lt_irrefl, n0, hk, N12b252, N12i253, N12i260, N12i261, N12b171, N12i171]
  refine ⟨fun hc => ?_, fun hc => ?_⟩
  rotate_left
  · have h0 : (rAt ds 0).length - n = 0 := by omega
    rw [h0, idxN] at n2
    omega
  obtain ⟨f, hf⟩ : ∃ f, (rAt ds 0).length - n = f + 1 := ⟨(rAt ds 0).length - n - 1, by omega⟩
  have hf' : (rAt ds 0).length - (n + 1) = f := by omega
  rw [hf, idxN] at n2
  rw [wrap_in ((n : Int) + 1) (by omega) (by omega)]
  refine ⟨by omega, hc, fun g => ?_, fun g => ⟨⟨n + 1, rfl, by omega, by rw [hf', ← n2, if_neg g]⟩, by omega⟩⟩
  rw [if_pos g] at n2
  refine ⟨fun q => absurd q (by omega), fun _ => ⟨by omega, hc, by omega, by omega, fun _ => trivial, fun hFE => ⟨fun _ => trivial, fun hF => ⟨fun _ => trivial, fun w0 => ⟨fun _ => trivial, fun w1 => ?_⟩⟩⟩⟩⟩
  rw [← n2] at z3
  obtain ⟨s1, s2, s3⟩ := safe_all (v := iAt ds 15) (k := k) z3 hH hF (show lg (rAt ds 4) k 4 ≤ iAt ds 15 by omega) (show iAt ds 15 ≤ lg (rAt ds 4) k 5 by omega)
  have s1 : shsE [.i (lg (rAt ds 0) n 0), .i (lg (rAt ds 0) n 1), .i (lg (rAt ds 0) n 2), .i (lg (rAt ds 0) n 3), .i (lg (rAt ds 0) n 4), .i (lg (rAt ds 0) n 5), .i (lg (rAt ds 0) n 6), .i (lg (rAt ds 0) n 7), .i (lg (rAt ds 0) n 8), .i (lg (rAt ds 0) n 9), .i (lg (rAt ds 0) n 10), .l (lr (rAt ds 0) n 11), .l (lr (rAt ds 0) n 12), .i (iAt ds 18), .i (iAt ds 19)] = 0 := s1
  have s2 : deR [.i (iAt ds 5), .i (iAt ds 6), .l (rAt ds 7), .i (iAt ds 8), .i (iAt ds 9), .l (rAt ds 10), .i (shsR [.i (lg (rAt ds 0) n 0), .i (lg (rAt ds 0) n 1), .i (lg (rAt ds 0) n 2), .i (lg (rAt ds 0) n 3), .i (lg (rAt ds 0) n 4), .i (lg (rAt ds 0) n 5), .i (lg (rAt ds 0) n 6), .i (lg (rAt ds 0) n 7), .i (lg (rAt ds 0) n 8), .i (lg (rAt ds 0) n 9), .i (lg (rAt ds 0) n 10), .l (lr (rAt ds 0) n 11), .l (lr (rAt ds 0) n 12), .i (iAt ds 18), .i (iAt ds 19)]), .i (iAt ds 15), .i (iAt ds 14), .i (iAt ds 14)] = true := s2
  have s2E := deR_E s2
  have hlf : (lr (rAt ds 0) n 12).length ≤ 300 := (lis_spec (leg_fact z3).2.2).1
  refine TT.sat_join (fun v => v.b 1 = true) (fun v hv => ?_) (fun v hv hR => ?_)
  · simp only [TT.sat_ret, TT.sat_ite, TT.sat_ob, TT.sat_next, TT.sat_stuck, put_i, put_b, put_d, put_fi, put_fb, put_fd, Ob.ok, B.ev, E.ev, X.ev, AL.ev, cmp_t, cmp_f, arEv, V.plain, V2.plain, S.plain, S0.plain, V.val, V2.val, S.val, S0.val, bV, iV, List.all_cons, List.all_nil, Bool.and_true, Bool.and_self, envOf_i, envOf_b, envOf_d, List.map_cons, List.map_nil, true_and, Bool.not_eq_true', Bool.not_eq_false', Bool.not_not, Bool.and_eq_true, and_f, cell_lg, cell_lb, cell_lr, cmpP, val_i, val_b, val_d, aget, Nat.reduceBEq, beq_self_eq_true, Bool.false_eq_true, if_true, if_false, Nat.reduceLT, Nat.reduceSub, Nat.sub_self, Nat.lt_irrefl, n0, hk, hv, N12i260, N12i261, N12b171, N12i171, s1, s2, s2E]
    simp
  refine TT.sat_loop (fun u => ∃ j : Nat, u.i 1 = j ∧ j ≤ (lr (rAt ds 0) n 12).length ∧ u.b 0 = true) (fun u => (lr (rAt ds 0) n 12).length - (u.i 1).toNat) ⟨0, by simp [val_i, aget, E.ev], by omega, by simpa only [TT.sat_ret, TT.sat_ite, TT.sat_ob, TT.sat_next, TT.sat_stuck, put_i, put_b, put_d, put_fi, put_fb, put_fd, Ob.ok, B.ev, E.ev, X.ev, AL.ev, cmp_t, cmp_f, arEv, V.plain, V2.plain, S.plain, S0.plain, V.val, V2.val, S.val, S0.val, bV, iV, List.all_cons, List.all_nil, Bool.and_true, Bool.and_self, envOf_i, envOf_b, envOf_d, List.map_cons, List.map_nil, true_and, Bool.not_eq_true', Bool.not_eq_false', Bool.not_not, Bool.and_eq_true, and_f, cell_lg, cell_lb, cell_lr, cmpP, val_i, val_b, val_d, aget, Nat.reduceBEq, beq_self_eq_true, Bool.false_eq_true, if_true, if_false, Nat.reduceLT, Nat.reduceSub, Nat.sub_self, Nat.lt_irrefl] using hR⟩ (fun u hu => ?_)
  obtain ⟨j, j0, j1, j2⟩ := hu
  have ec : ((rAt ds 0)[n]?.getD [])[12]?.getD (.i 0) = cellAt (rAt ds 0) n 12 := by unfold cellAt; rfl
  simp only [TT.sat_ret, TT.sat_ite, TT.sat_ob, TT.sat_next, TT.sat_stuck, put_i, put_b, put_d, put_fi, put_fb, put_fd, Ob.ok, B.ev, E.ev, X.ev, AL.ev, cmp_t, cmp_f, arEv, V.plain, V2.plain, S.plain, S0.plain, V.val, V2.val, S.val, S0.val, bV, iV, List.all_cons, List.all_nil, Bool.and_true, Bool.and_self, envOf_i, envOf_b, envOf_d, List.map_cons, List.map_nil, true_and, Bool.not_eq_true', Bool.not_eq_false', Bool.not_not, Bool.and_eq_true, and_f, cell_lg, cell_lb, cell_lr, cmpP, val_i, val_b, val_d, aget, Nat.reduceBEq, beq_self_eq_true, Bool.false_eq_true, if_true, if_false, Nat.reduceLT, Nat.reduceSub, Nat.sub_self, Nat.lt_irrefl, n0, j0, j2]
  refine ⟨fun hd => ⟨by omega, hd, ?_⟩, fun hd => ?_⟩
  · refine TT.sat_join (fun y => y.b 1 = true) (fun y hy => ?_) (fun y hy hY => ?_)
    · simp only [TT.sat_ret, TT.sat_ite, TT.sat_ob, TT.sat_next, TT.sat_stuck, put_i, put_b, put_d, put_fi, put_fb, put_fd, Ob.ok, B.ev, E.ev, X.ev, AL.ev, cmp_t, cmp_f, arEv, V.plain, V2.plain, S.plain, S0.plain, V.val, V2.val, S.val, S0.val, bV, iV, List.all_cons, List.all_nil, Bool.and_true, Bool.and_self, envOf_i, envOf_b, envOf_d, List.map_cons, List.map_nil, true_and, Bool.not_eq_true', Bool.not_eq_false', Bool.not_not, Bool.and_eq_true, and_f, cell_lg, cell_lb, cell_lr, cmpP, val_i, val_b, val_d, aget, Nat.reduceBEq, beq_self_eq_true, Bool.false_eq_true, if_true, if_false, Nat.reduceLT, Nat.reduceSub, Nat.sub_self, Nat.lt_irrefl, n0, j0, j2, hy, N12b78, N12i78]
      obtain ⟨w1, w2⟩ := s3 j (show j < (lr (rAt ds 0) n 12).length by omega)
      have w1 : covE [.i (lg (lr (rAt ds 0) n 12) j 0), .i (lg (lr (rAt ds 0) n 12) j 1), .i (lg (lr (rAt ds 0) n 12) j 2), .i (lg (lr (rAt ds 0) n 12) j 3), .i (lg (lr (rAt ds 0) n 12) j 4), .l (lr (lr (rAt ds 0) n 12) j 5), .i (lg (lr (rAt ds 0) n 12) j 6), .i (lg (lr (rAt ds 0) n 12) j 7), .l (lr (lr (rAt ds 0) n 12) j 8), .i (iAt ds 18), .i (iAt ds 19)] = 0 := w1
      have w2 : covR [.i (lg (lr (rAt ds 0) n 12) j 0), .i (lg (lr (rAt ds 0) n 12) j 1), .i (lg (lr (rAt ds 0) n 12) j 2), .i (lg (lr (rAt ds 0) n 12) j 3), .i (lg (lr (rAt ds 0) n 12) j 4), .l (lr (lr (rAt ds 0) n 12) j 5), .i (lg (lr (rAt ds 0) n 12) j 6), .i (lg (lr (rAt ds 0) n 12) j 7), .l (lr (lr (rAt ds 0) n 12) j 8), .i (iAt ds 18), .i (iAt ds 19)] = true → lg (lr (rAt ds 0) n 12) j 1 ≠ 6 := w2
      have hb : (0 : Int) ≤ j ∧ (j : Int) < (lr (rAt ds 0) n 12).length := ⟨by omega, hd⟩
      rw [w1]
      refine ⟨fun _ => ⟨fun _ => ⟨fun _ => ?_, fun q => ?_⟩, fun q => absurd rfl q⟩, fun q => by cases q⟩
      · simp
      · have hne := w2 q
        simp [cmpEv, hne, hb.1, hb.2]
    · simp only [TT.sat_ret, TT.sat_ite, TT.sat_ob, TT.sat_next, TT.sat_stuck, put_i, put_b, put_d, put_fi, put_fb, put_fd, Ob.ok, B.ev, E.ev, X.ev, AL.ev, cmp_t, cmp_f, arEv, V.plain, V2.plain, S.plain, S0.plain, V.val, V2.val, S.val, S0.val, bV, iV, List.all_cons, List.all_nil, Bool.and_true, Bool.and_self, envOf_i, envOf_b, envOf_d, List.map_cons, List.map_nil, true_and, Bool.not_eq_true', Bool.not_eq_false', Bool.not_not, Bool.and_eq_true, and_f, cell_lg, cell_lb, cell_lr, cmpP, val_i, val_b, val_d, aget, Nat.reduceBEq, beq_self_eq_true, Bool.false_eq_true, if_true, if_false, Nat.reduceLT, Nat.reduceSub, Nat.sub_self, Nat.lt_irrefl, n0, j0, j2, hy, hY]
      rw [wrap_in ((j : Int) + 1) (by omega) (by omega)]
      exact ⟨⟨j + 1, rfl, by omega, trivial⟩, by omega⟩
  · simp
end Go.Proofs.YtkjjkckcjgkhmaaGreat
