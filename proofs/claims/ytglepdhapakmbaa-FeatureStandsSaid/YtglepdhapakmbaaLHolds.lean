/- LHolds, merged: Qp. -/
import Derived.Test.YtglepdhapakmbaaMX
set_option linter.unusedSimpArgs false
set_option linter.unusedVariables false
/- Chapter 07: the law FeatureHolds. -/
namespace Go.Proofs.Ytglepdhapakmbaa
open Go.RowKit
section
variable {i1 k1 x1 y1 r1 d1 s1 i2 k2 x2 y2 r2 d2 s2 i3 k3 x3 y3 r3 d3 s3 : Int} {a1 t1 a2 t2 a3 t3 : Rows}
theorem liesB_iff {px py r qx qy s : Int} : liesB px py r qx qy s = true ↔ r ≤ s ∧ dist2 px py qx qy ≤ (s - r) * (s - r) := by unfold liesB; exact decide_eq_true_iff
theorem hold_trans (h1 : featB i1 k1 x1 y1 r1 a1 d1 s1 t1 = true) (h2 : featB i2 k2 x2 y2 r2 a2 d2 s2 t2 = true) (h3 : featB i3 k3 x3 y3 r3 a3 d3 s3 t3 = true) (p : holdX k1 x1 y1 r1 a1 k2 x2 y2 r2 a2 = true) (q : holdX k2 x2 y2 r2 a2 k3 x3 y3 r3 a3 = true) : holdX k1 x1 y1 r1 a1 k3 x3 y3 r3 a3 = true := by
  unfold holdX at p q ⊢
  by_cases n3 : k3 = 4
  · by_cases n1 : k1 = 4
    · rw [if_pos n1, decide_eq_true n3]
    · rw [if_neg n1]; simp only [if_pos n3, ite_self]
  have n2 : k2 ≠ 4 := fun h => by rw [if_pos h, decide_eq_true_eq] at q; exact n3 q
  have n1 : k1 ≠ 4 := fun h => by rw [if_pos h, decide_eq_true_eq] at p; exact n2 p
  simp only [if_neg n1, if_neg n2] at p
  simp only [if_neg n2, if_neg n3] at q
  simp only [if_neg n1, if_neg n3]
  by_cases e1 : k1 = 3 ∨ k1 = 6
  · have A1 := feat_area h1 e1
    have S1 := poly_simple A1
    have R1 := poly_area A1
    have F1 := poly_first A1
    have l1 : 0 < a1.length := by have := polyB_len A1; omega
    rw [if_pos e1] at p ⊢
    by_cases e2 : k2 = 3 ∨ k2 = 6
    · have A2 := feat_area h2 e2
      have l2 : 0 < a2.length := by have := polyB_len A2; omega
      rw [if_pos e2] at p q
      have E12 := ho_edges A1 A2 p
      by_cases e3 : k3 = 3 ∨ k3 = 6
      · have A3 := feat_area h3 e3
        rw [if_pos e3] at q ⊢
        exact ho_of_edges A1 A3 (edges_trans S1 R1 F1 l2 E12 (ho_edges A2 A3 q))
      · obtain ⟨g1, g2⟩ := feat_disc h3 (by omega) (by omega)
        rw [if_neg e3, decide_eq_true_eq] at q ⊢
        obtain ⟨c1, c2⟩ := (dis_iff A2 g1 (by omega)).mp q
        exact (dis_iff A1 g1 (by omega)).mpr ⟨inside S1 R1 F1 l2 E12 c1, off_sub S1 R1 F1 l2 E12 c1 c2⟩
    · obtain ⟨f1, f2⟩ := feat_disc h2 (by omega) (by omega)
      rw [if_neg e2, decide_eq_true_eq] at p
      rw [if_neg e2] at q
      obtain ⟨c1, c2⟩ := (dis_iff A1 f1 (by omega)).mp p
      by_cases e3 : k3 = 3 ∨ k3 = 6
      · have A3 := feat_area h3 e3
        rw [if_pos e3] at q ⊢
        refine ho_of_edges A1 A3 (fun i hi K u v hK hs => disc_in l1 c1 c2 hK (seg_disc ?_ ?_ hK hs))
        · exact (allD_iff _ _).mp q i (by omega) (by omega)
        · exact (allD_iff _ _).mp q _ (by omega) (by have := nxt_lt hi; omega)
      · obtain ⟨g1, g2⟩ := feat_disc h3 (by omega) (by omega)
        rw [if_neg e3, liesB_iff] at q
        rw [if_neg e3, decide_eq_true_eq]
        refine (dis_iff A1 g1 (by omega)).mpr ⟨?_, off_disc g2.1 q.1 q.2 c2⟩
        have := disc_in (K := 1) (u := 1 * x3) (v := 1 * y3) l1 c1 c2 (by omega) (by
          have w := Int.mul_le_mul (show r2 - r3 ≤ r2 by omega) (show r2 - r3 ≤ r2 by omega) (by omega) (by omega)
          have q2 := q.2
          unfold dist2 at q2
          grind)
        exact (InP_mul (by omega)).mp this
  · obtain ⟨b1, b2⟩ := feat_disc h1 (by omega) (by omega)
    rw [if_neg e1] at p ⊢
    by_cases e2 : k2 = 3 ∨ k2 = 6
    · have A2 := feat_area h2 e2
      have l2 : 0 < a2.length := by have := polyB_len A2; omega
      rw [if_pos e2] at p q
      have P2 : ∀ k, k < a2.length → dist2 x1 y1 (cx a2 k) (cy a2 k) ≤ r1 * r1 := fun k hk => (allD_iff _ _).mp p k (by omega) (by omega)
      by_cases e3 : k3 = 3 ∨ k3 = 6
      · have A3 := feat_area h3 e3
        rw [if_pos e3] at q ⊢
        have E23 := ho_edges A2 A3 q
        refine (allD_iff _ _).mpr (fun k _ hk => disc_has l2 (by omega) P2 ?_)
        have := E23 k (by omega) 1 (1 * cx a3 k) (1 * cy a3 k) (by omega) (seg_start _ _ _ _ (by omega))
        exact (InP_mul (by omega)).mp this
      · obtain ⟨g1, g2⟩ := feat_disc h3 (by omega) (by omega)
        rw [if_neg e3, decide_eq_true_eq] at q
        rw [if_neg e3, liesB_iff]
        obtain ⟨c1, c2⟩ := (dis_iff A2 g1 (by omega)).mp q
        exact disc_disc l2 (by omega) g2.1 P2 c1 c2
    · obtain ⟨f1, f2⟩ := feat_disc h2 (by omega) (by omega)
      rw [if_neg e2, liesB_iff] at p
      rw [if_neg e2] at q
      by_cases e3 : k3 = 3 ∨ k3 = 6
      · have A3 := feat_area h3 e3
        rw [if_pos e3] at q ⊢
        refine (allD_iff _ _).mpr (fun k _ hk => ?_)
        have w := (allD_iff _ _).mp q k (by omega) (by omega)
        obtain ⟨p1, p2⟩ := p
        unfold dist2 at w p2 ⊢
        have ht := triangle7 (ux := x2 - x1) (uy := y2 - y1) (vx := cx a3 k - x2) (vy := cy a3 k - y2) (a := r1 - r2) (b := r2) (by omega) (by omega) (by grind) w
        rw [show x2 - x1 + (cx a3 k - x2) = cx a3 k - x1 by omega, show y2 - y1 + (cy a3 k - y2) = cy a3 k - y1 by omega, show r1 - r2 + r2 = r1 by omega] at ht
        exact ht
      · rw [if_neg e3, liesB_iff] at q
        rw [if_neg e3, liesB_iff]
        obtain ⟨p1, p2⟩ := p
        obtain ⟨q1, q2⟩ := q
        refine ⟨by omega, ?_⟩
        unfold dist2 at p2 q2 ⊢
        have ht := triangle7 (ux := x2 - x3) (uy := y2 - y3) (vx := x1 - x2) (vy := y1 - y2) (a := r2 - r3) (b := r1 - r2) (by omega) (by omega) q2 p2
        rw [show x2 - x3 + (x1 - x2) = x1 - x3 by omega, show y2 - y3 + (y1 - y2) = y1 - y3 by omega, show r2 - r3 + (r1 - r2) = r1 - r3 by omega] at ht
        exact ht
end
set_option maxHeartbeats 8000000 in
theorem gHoldsLaw : Gives Try.prog 4 [feat, feat, feat] (fun _ => .bool true) := by
  refine GivesIf.all (fn_gives K76 (by kernel_rfl) (fun ρ h => ctE7_ok (Sees.of h 122)) (by kernel_rfl) trHolds7_is trHolds7_low (by decide) (fun W vals ds hr _ => ?_))
  simp only [trHolds7, TT.sat_ret, TT.sat_ite, TT.sat_ob, TT.sat_next, TT.sat_stuck, put_i, put_b, put_d, put_fi, put_fb, put_fd, Ob.ok, B.ev, E.ev, X.ev, AL.ev, cmp_t, cmp_f, arEv, V.plain, V2.plain, S.plain, S0.plain, V.val, V2.val, S.val, S0.val, bV, iV, List.all_cons, List.all_nil, Bool.and_true, Bool.and_self, envOf_i, envOf_b, envOf_d, List.map_cons, List.map_nil, true_and, Bool.not_eq_true', Bool.not_eq_false', Bool.not_not, Bool.and_eq_true, and_f, cell_lg, cell_lb, cell_lr, cmpP, val_i, val_b, val_d, aget, Nat.reduceBEq, beq_self_eq_true, Bool.false_eq_true, if_true, if_false, Nat.reduceLT, Nat.reduceSub, Nat.sub_self, Nat.lt_irrefl, K76b76, K76b119, K76i119, feE_18, feHoR_18, feat_nine]
  have H := hold_self (i1 := iAt ds 0) (k1 := iAt ds 1) (x1 := iAt ds 2) (y1 := iAt ds 3) (r1 := iAt ds 4) (a1 := rAt ds 5) (d1 := iAt ds 6) (s1 := iAt ds 7) (t1 := rAt ds 8)
  have T := hold_trans (i1 := iAt ds 0) (k1 := iAt ds 1) (x1 := iAt ds 2) (y1 := iAt ds 3) (r1 := iAt ds 4) (a1 := rAt ds 5) (d1 := iAt ds 6) (s1 := iAt ds 7) (t1 := rAt ds 8) (i2 := iAt ds 9) (k2 := iAt ds 10) (x2 := iAt ds 11) (y2 := iAt ds 12) (r2 := iAt ds 13) (a2 := rAt ds 14) (d2 := iAt ds 15) (s2 := iAt ds 16) (t2 := rAt ds 17) (i3 := iAt ds 18) (k3 := iAt ds 19) (x3 := iAt ds 20) (y3 := iAt ds 21) (r3 := iAt ds 22) (a3 := rAt ds 23) (d3 := iAt ds 24) (s3 := iAt ds 25) (t3 := rAt ds 26)
  clear hr
  generalize holdX (iAt ds 1) (iAt ds 2) (iAt ds 3) (iAt ds 4) (rAt ds 5) (iAt ds 1) (iAt ds 2) (iAt ds 3) (iAt ds 4) (rAt ds 5) = h11 at *
  generalize holdX (iAt ds 1) (iAt ds 2) (iAt ds 3) (iAt ds 4) (rAt ds 5) (iAt ds 10) (iAt ds 11) (iAt ds 12) (iAt ds 13) (rAt ds 14) = h12 at *
  generalize holdX (iAt ds 10) (iAt ds 11) (iAt ds 12) (iAt ds 13) (rAt ds 14) (iAt ds 19) (iAt ds 20) (iAt ds 21) (iAt ds 22) (rAt ds 23) = h23 at *
  generalize holdX (iAt ds 1) (iAt ds 2) (iAt ds 3) (iAt ds 4) (rAt ds 5) (iAt ds 19) (iAt ds 20) (iAt ds 21) (iAt ds 22) (rAt ds 23) = h13 at *
  generalize featB (iAt ds 0) (iAt ds 1) (iAt ds 2) (iAt ds 3) (iAt ds 4) (rAt ds 5) (iAt ds 6) (iAt ds 7) (rAt ds 8) = v1 at *
  generalize featB (iAt ds 9) (iAt ds 10) (iAt ds 11) (iAt ds 12) (iAt ds 13) (rAt ds 14) (iAt ds 15) (iAt ds 16) (rAt ds 17) = v2 at *
  generalize featB (iAt ds 18) (iAt ds 19) (iAt ds 20) (iAt ds 21) (iAt ds 22) (rAt ds 23) (iAt ds 24) (iAt ds 25) (rAt ds 26) = v3 at *
  cases v1 <;> cases v2 <;> cases v3 <;> cases h11 <;> cases h12 <;> cases h23 <;> cases h13 <;> first | exact absurd (H rfl) (by decide) | exact absurd (T rfl rfl rfl rfl rfl) (by decide) | simp [cmpEv]
end Go.Proofs.Ytglepdhapakmbaa
