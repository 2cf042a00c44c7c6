/- The law MooringFeature, by the symbolic executor. -/
import Derived.Test.YtfefbckpocbeaaaGreatKd
namespace Go.Proofs.YtfefbckpocbeaaaGreat
open Go.RowKit

theorem buoyOk_facts {id ax ay r sym : Int} (h : buoyOk id ax ay r sym = true) : (1 ≤ id ∧ id ≤ 100000 ∧ 0 ≤ sym ∧ sym ≤ 999 ∧ 0 ≤ r ∧ r ≤ 100000) ∧ (-1000000 ≤ ax ∧ ax ≤ 1000000 ∧ -1000000 ≤ ay ∧ ay ≤ 1000000) ∧ (-1000000 ≤ ax - r ∧ ax + r ≤ 1000000 ∧ -1000000 ≤ ay - r ∧ ay + r ≤ 1000000) := by
  simp only [buoyOk, roomOk, Bool.and_eq_true, decide_eq_true_eq] at h
  exact ⟨h.1, by have := h.2.1; simpa [placeOk] using this, h.2.2⟩
/-- A narrower span of heights has no greater radius. -/
theorem radius_part {ax ay dlo dhi ch tlo thi plo phi : Int} (h1 : (radiusF ax ay dlo dhi ch plo phi).2 = 0) (h2 : (radiusF ax ay dlo dhi ch tlo thi).2 = 0) (h3 : ¬ plo < tlo) (h4 : ¬ phi > thi) :
    (radiusF ax ay dlo dhi ch plo phi).1 ≤ (radiusF ax ay dlo dhi ch tlo thi).1 := by
  rcases radiusF_cases ax ay dlo dhi ch plo phi with (h | h) | ⟨a1, a2, _, _⟩
  · rw [h] at h1; simp at h1
  · rw [h] at h1; simp at h1
  rcases radiusF_cases ax ay dlo dhi ch tlo thi with (h | h) | ⟨b1, b2, _, _⟩
  · rw [h] at h2; simp at h2
  · rw [h] at h2; simp at h2
  exact (wider_radius a1 a1 a2 b2 ⟨Int.le_refl _, Int.le_refl _, by omega, by omega, Int.le_refl _⟩).1 h1 h2

set_option maxRecDepth 100000 in
set_option maxHeartbeats 4000000 in
theorem law_feature (ax ay dlo dhi ch tlo thi plo phi id sym : Int) (w : World) :
    Calls Tryz.prog 4 #[.agg #[.int .i64 ax, .int .i64 ay, .int .i64 dlo, .int .i64 dhi, .int .i64 ch], .agg #[.int .i64 tlo, .int .i64 thi], .agg #[.int .i64 plo, .int .i64 phi], .int .i64 id, .int .i64 sym] w (Ret w (.bool true)) := by
  let ρ : Env := { i := fun k => [ax, ay, dlo, dhi, ch, tlo, thi, plo, phi, id, sym].getD k 0, b := fun _ => false, x := fun _ => undef, fi := kfi, fb := kfb, w := w }
  refine exec_args (ρ := ρ) (by kernel_rfl) (ctF_ok rfl rfl) (ctEnter_of (by kernel_rfl)) treeMF_is (Below.refl _ _) rfl ?_
  have v0 : ρ.i 0 = ax := rfl
  have v1 : ρ.i 1 = ay := rfl
  have v2 : ρ.i 2 = dlo := rfl
  have v3 : ρ.i 3 = dhi := rfl
  have v4 : ρ.i 4 = ch := rfl
  have v5 : ρ.i 5 = tlo := rfl
  have v6 : ρ.i 6 = thi := rfl
  have v7 : ρ.i 7 = plo := rfl
  have v8 : ρ.i 8 = phi := rfl
  have v9 : ρ.i 9 = id := rfl
  have v10 : ρ.i 10 = sym := rfl
  have hfi : ρ.fi = kfi := rfl
  have hfb : ρ.fb = kfb := rfl
  clear_value ρ
  have hm := @radius_part ax ay dlo dhi ch tlo thi plo phi
  have b1 := @buoyOk_facts id ax ay (radiusF ax ay dlo dhi ch plo phi).1 sym
  have b2 := @buoyOk_facts id ax ay (radiusF ax ay dlo dhi ch tlo thi).1 sym
  generalize hx1 : (radiusF ax ay dlo dhi ch plo phi).1 = rp at *
  generalize hx2 : (radiusF ax ay dlo dhi ch plo phi).2 = ep at *
  generalize hx3 : (radiusF ax ay dlo dhi ch tlo thi).1 = rt at *
  generalize hx4 : (radiusF ax ay dlo dhi ch tlo thi).2 = et at *
  generalize hx5 : buoyOk id ax ay rp sym = op at *
  generalize hx6 : buoyOk id ax ay rt sym = ot at *
  unfold treeMF
  by_cases h1 : plo < tlo
  · exact T.sat_true (by simp only [B.ev, E.ev, cmpEv, v7, v5, decide_eq_true_eq]; exact h1) ⟨rfl, rfl⟩
  refine T.sat_false (by simp only [B.ev, E.ev, cmpEv, v7, v5, decide_eq_false_iff_not]; exact h1) ?_
  by_cases h2 : phi > thi
  · exact T.sat_true (by simp only [B.ev, E.ev, cmpEv, v8, v6, decide_eq_true_eq]; exact h2) ⟨rfl, rfl⟩
  refine T.sat_false (by simp only [B.ev, E.ev, cmpEv, v8, v6, decide_eq_false_iff_not]; exact h2) ?_
  have w1 : (-1000000 ≤ ax ∧ ax ≤ 1000000 ∧ -1000000 ≤ ay ∧ ay ≤ 1000000 ∧ 0 ≤ rp ∧ rp ≤ 100000) → IntKind.i64.wrap (ax - rp) = ax - rp ∧ IntKind.i64.wrap (ay - rp) = ay - rp ∧ IntKind.i64.wrap (ax + rp) = ax + rp ∧ IntKind.i64.wrap (ay + rp) = ay + rp :=
    fun _ => ⟨IntWalk.i64_in _ (by omega), IntWalk.i64_in _ (by omega), IntWalk.i64_in _ (by omega), IntWalk.i64_in _ (by omega)⟩
  have w2 : (-1000000 ≤ ax ∧ ax ≤ 1000000 ∧ -1000000 ≤ ay ∧ ay ≤ 1000000 ∧ 0 ≤ rt ∧ rt ≤ 100000) → IntKind.i64.wrap (ax - rt) = ax - rt ∧ IntKind.i64.wrap (ay - rt) = ay - rt ∧ IntKind.i64.wrap (ax + rt) = ax + rt ∧ IntKind.i64.wrap (ay + rt) = ay + rt :=
    fun _ => ⟨IntWalk.i64_in _ (by omega), IntWalk.i64_in _ (by omega), IntWalk.i64_in _ (by omega), IntWalk.i64_in _ (by omega)⟩
  have w3 : (0 ≤ rp ∧ rp ≤ rt ∧ rt ≤ 100000) → IntKind.i64.wrap (rt - rp) = rt - rp ∧ IntKind.i64.wrap ((rt - rp) * (rt - rp)) = (rt - rp) * (rt - rp) ∧ 0 ≤ (rt - rp) * (rt - rp) := by
    intro h
    have hq : 0 ≤ (rt - rp) * (rt - rp) := Int.mul_nonneg (by omega) (by omega)
    have hq2 : (rt - rp) * (rt - rp) ≤ 100000 * 100000 := Int.mul_le_mul (by omega) (by omega) (by omega) (by omega)
    exact ⟨IntWalk.i64_in _ (by omega), IntWalk.i64_in _ (by omega), hq⟩
  have w4 : IntKind.i64.wrap (ax - ax) = 0 ∧ IntKind.i64.wrap (ay - ay) = 0 ∧ IntKind.i64.wrap (0 * 0) = 0 ∧ IntKind.i64.wrap (0 + 0) = 0 := ⟨by rw [Int.sub_self]; rfl, by rw [Int.sub_self]; rfl, rfl, rfl⟩
  by_cases hmain : ep = 0 ∧ et = 0 ∧ op = true ∧ ot = true
  · obtain ⟨h3, h5, rfl, rfl⟩ := hmain
    have b1 := b1 rfl
    have b2 := b2 rfl
    have hm := hm h3 h5 h1 h2
    obtain ⟨e1, e2, e3, e4⟩ := w1 (by omega)
    obtain ⟨e5, e6, e7, e8⟩ := w2 (by omega)
    obtain ⟨e9, e10, e11⟩ := w3 (by omega)
    clear w1 w2 w3
    obtain ⟨f1, f2, f3, f4⟩ := w4
    repeat' first
      | exact ⟨rfl, rfl⟩
      | (refine T.sat_true ?_ ?_; (focus (simp only [B.ev, E.ev, AL.ev, cmpEv, arEv, v0, v1, v2, v3, v4, v5, v6, v7, v8, v9, v10, hfi, hfb, kfi_0, kfi_1, kfb_22, hx1, hx2, hx3, hx4, hx5, hx6, decide_eq_true_eq, beq_iff_eq, bne_iff_ne, Bool.not_eq_true', decide_eq_false_iff_not, ne_eq, e1, e2, e3, e4, e5, e6, e7, e8, e9, e10, f1, f2, f3, f4]; first | done | omega)))
      | (refine T.sat_false ?_ ?_; (focus (simp only [B.ev, E.ev, AL.ev, cmpEv, arEv, v0, v1, v2, v3, v4, v5, v6, v7, v8, v9, v10, hfi, hfb, kfi_0, kfi_1, kfb_22, hx1, hx2, hx3, hx4, hx5, hx6, decide_eq_false_iff_not, beq_eq_false_iff_ne, bne_eq_false_iff_eq, Bool.not_eq_false', decide_eq_true_eq, ne_eq, e1, e2, e3, e4, e5, e6, e7, e8, e9, e10, f1, f2, f3, f4]; first | done | omega)))
  · clear w1 w2 w3 w4 hm b1 b2
    by_cases h3 : ep = 0 <;> by_cases h5 : et = 0 <;> cases op <;> cases ot
    all_goals try (simp [h3, h5] at hmain; done)
    all_goals
      clear hmain
      repeat' first
        | exact ⟨rfl, rfl⟩
        | (refine T.sat_true ?_ ?_; (focus (simp only [B.ev, E.ev, AL.ev, cmpEv, arEv, v0, v1, v2, v3, v4, v5, v6, v7, v8, v9, v10, hfi, hfb, kfi_0, kfi_1, kfb_22, hx1, hx2, hx3, hx4, hx5, hx6, decide_eq_true_eq, beq_iff_eq, bne_iff_ne, Bool.not_eq_true', decide_eq_false_iff_not, ne_eq]; first | done | omega)))
        | (refine T.sat_false ?_ ?_; (focus (simp only [B.ev, E.ev, AL.ev, cmpEv, arEv, v0, v1, v2, v3, v4, v5, v6, v7, v8, v9, v10, hfi, hfb, kfi_0, kfi_1, kfb_22, hx1, hx2, hx3, hx4, hx5, hx6, decide_eq_false_iff_not, beq_eq_false_iff_ne, bne_eq_false_iff_eq, Bool.not_eq_false', decide_eq_true_eq, ne_eq]; first | done | omega)))
end Go.Proofs.YtfefbckpocbeaaaGreat
