/- LZones, merged: Lz0, TLz, Pg, Lz. -/
import Derived.Test.YtinfmmofcadjgaaMI
import Derived.Test.YtinfmmofcadjgaaMH
import Derived.Test.YtinfmmofcadjgaaLNear
set_option linter.unusedSimpArgs false
set_option linter.unusedVariables false
/- Chapter 38: contracts for the law PassageZones. -/
namespace Go.Proofs.Ytinfmmofcadjgaa
open Go.RowKit
def ctZone2 : Ct := (26, cFeBox) :: ctLaw
theorem ctZone2_ok {ρ : Env} (h : Sees ρ KI 90) : CtOk Try.prog ρ ctZone2 := .cons (cFeBox_ok h) (ctLaw_ok (KH_KG (KI_KH h)))
end Go.Proofs.Ytinfmmofcadjgaa
/- Chapter 38: tree of the law PassageZones. -/
namespace Go.Proofs.Ytinfmmofcadjgaa
open Go.RowKit
-- term trZonesLaw: call Try.prog ctZone2 [] 100 9 (symArgs 0 [psg, it, it, pt, feat]) [] 0
def trZonesLaw : TT OpR :=
(.ite (.cmp .neq (.fn 58 (.i (.var 0) (.i (.var 1) (.i (.var 2) (.x (.var 3) (.i (.var 4) .nil)))))) (.lit 0))
  (.ite (.cmp .eql (.fn 58 (.i (.var 0) (.i (.var 1) (.i (.var 2) (.x (.var 3) (.i (.var 4) .nil)))))) (.lit 1))
    (.ret ((.v (.one (.z (.bool (.lit true))))), [], 4))
    (.ret ((.v (.one (.z (.bool (.cmp .eql (.fn 58 (.i (.var 0) (.i (.var 1) (.i (.var 2) (.x (.var 3) (.i (.var 4) .nil)))))) (.lit 3)))))), [], 4)))
  (.ite (.cmp .eql (.fn 53 (.i (.var 0) (.i (.var 1) (.i (.var 2) (.x (.var 3) (.i (.var 4) (.i (.var 5) (.i (.var 6) (.i (.var 7) .nil))))))))) (.lit 0))
    (.ite (.fn 52 (.i (.var 0) (.i (.var 1) (.i (.var 2) (.x (.var 3) (.i (.var 4) (.i (.var 5) (.i (.var 6) (.i (.var 7) .nil)))))))))
      (.ite (.cmp .eql (.fn 36 (.i (.var 6) (.i (.var 6) (.i (.var 7) (.i (.var 7) (.i (.fn 54 (.i (.var 0) (.i (.var 1) (.i (.var 2) (.x (.var 3) (.i (.var 4) .nil)))))) (.i (.fn 55 (.i (.var 0) (.i (.var 1) (.i (.var 2) (.x (.var 3) (.i (.var 4) .nil)))))) (.i (.fn 56 (.i (.var 0) (.i (.var 1) (.i (.var 2) (.x (.var 3) (.i (.var 4) .nil)))))) (.i (.fn 57 (.i (.var 0) (.i (.var 1) (.i (.var 2) (.x (.var 3) (.i (.var 4) .nil)))))) .nil))))))))) (.lit 0))
        (.ite (.cmp .neq (.fn 77 (.i (.var 0) (.i (.var 1) (.i (.var 2) (.x (.var 3) (.i (.var 4) (.i (.var 8) (.i (.var 9) (.i (.var 10) (.i (.var 11) (.i (.var 12) (.x (.var 13) (.i (.var 14) (.i (.var 15) (.x (.var 16) .nil))))))))))))))) (.lit 0))
          (.ret ((.v (.one (.z (.bool (.fn 51 (.i (.var 6) (.i (.var 6) (.i (.var 7) (.i (.var 7) (.i (.fn 54 (.i (.var 0) (.i (.var 1) (.i (.var 2) (.x (.var 3) (.i (.var 4) .nil)))))) (.i (.fn 55 (.i (.var 0) (.i (.var 1) (.i (.var 2) (.x (.var 3) (.i (.var 4) .nil)))))) (.i (.fn 56 (.i (.var 0) (.i (.var 1) (.i (.var 2) (.x (.var 3) (.i (.var 4) .nil)))))) (.i (.fn 57 (.i (.var 0) (.i (.var 1) (.i (.var 2) (.x (.var 3) (.i (.var 4) .nil)))))) .nil))))))))))))), [], 7))
          (.ite (.cmp .neq (.fn 89 (.i (.var 8) (.i (.var 9) (.i (.var 10) (.i (.var 11) (.i (.var 12) (.x (.var 13) (.i (.var 14) (.i (.var 15) (.x (.var 16) .nil)))))))))) (.lit 0))
            (.ret ((.v (.one (.z (.bool (.fn 51 (.i (.var 6) (.i (.var 6) (.i (.var 7) (.i (.var 7) (.i (.fn 54 (.i (.var 0) (.i (.var 1) (.i (.var 2) (.x (.var 3) (.i (.var 4) .nil)))))) (.i (.fn 55 (.i (.var 0) (.i (.var 1) (.i (.var 2) (.x (.var 3) (.i (.var 4) .nil)))))) (.i (.fn 56 (.i (.var 0) (.i (.var 1) (.i (.var 2) (.x (.var 3) (.i (.var 4) .nil)))))) (.i (.fn 57 (.i (.var 0) (.i (.var 1) (.i (.var 2) (.x (.var 3) (.i (.var 4) .nil)))))) .nil))))))))))))), [], 7))
            (.ite (.not (.fn 77 (.i (.var 0) (.i (.var 1) (.i (.var 2) (.x (.var 3) (.i (.var 4) (.i (.var 8) (.i (.var 9) (.i (.var 10) (.i (.var 11) (.i (.var 12) (.x (.var 13) (.i (.var 14) (.i (.var 15) (.x (.var 16) .nil))))))))))))))))
              (.ret ((.v (.one (.z (.bool (.fn 51 (.i (.var 6) (.i (.var 6) (.i (.var 7) (.i (.var 7) (.i (.fn 54 (.i (.var 0) (.i (.var 1) (.i (.var 2) (.x (.var 3) (.i (.var 4) .nil)))))) (.i (.fn 55 (.i (.var 0) (.i (.var 1) (.i (.var 2) (.x (.var 3) (.i (.var 4) .nil)))))) (.i (.fn 56 (.i (.var 0) (.i (.var 1) (.i (.var 2) (.x (.var 3) (.i (.var 4) .nil)))))) (.i (.fn 57 (.i (.var 0) (.i (.var 1) (.i (.var 2) (.x (.var 3) (.i (.var 4) .nil)))))) .nil))))))))))))), [], 7))
              (.ite (.fn 51 (.i (.var 6) (.i (.var 6) (.i (.var 7) (.i (.var 7) (.i (.fn 54 (.i (.var 0) (.i (.var 1) (.i (.var 2) (.x (.var 3) (.i (.var 4) .nil)))))) (.i (.fn 55 (.i (.var 0) (.i (.var 1) (.i (.var 2) (.x (.var 3) (.i (.var 4) .nil)))))) (.i (.fn 56 (.i (.var 0) (.i (.var 1) (.i (.var 2) (.x (.var 3) (.i (.var 4) .nil)))))) (.i (.fn 57 (.i (.var 0) (.i (.var 1) (.i (.var 2) (.x (.var 3) (.i (.var 4) .nil)))))) .nil)))))))))
                (.ret ((.v (.one (.z (.bool (.cmp .eql (.fn 41 (.i (.fn 85 (.i (.var 8) (.i (.var 9) (.i (.var 10) (.i (.var 11) (.i (.var 12) (.x (.var 13) (.i (.var 14) (.i (.var 15) (.x (.var 16) .nil)))))))))) (.i (.fn 86 (.i (.var 8) (.i (.var 9) (.i (.var 10) (.i (.var 11) (.i (.var 12) (.x (.var 13) (.i (.var 14) (.i (.var 15) (.x (.var 16) .nil)))))))))) (.i (.fn 87 (.i (.var 8) (.i (.var 9) (.i (.var 10) (.i (.var 11) (.i (.var 12) (.x (.var 13) (.i (.var 14) (.i (.var 15) (.x (.var 16) .nil)))))))))) (.i (.fn 88 (.i (.var 8) (.i (.var 9) (.i (.var 10) (.i (.var 11) (.i (.var 12) (.x (.var 13) (.i (.var 14) (.i (.var 15) (.x (.var 16) .nil)))))))))) (.i (.fn 54 (.i (.var 0) (.i (.var 1) (.i (.var 2) (.x (.var 3) (.i (.var 4) .nil)))))) (.i (.fn 55 (.i (.var 0) (.i (.var 1) (.i (.var 2) (.x (.var 3) (.i (.var 4) .nil)))))) (.i (.fn 56 (.i (.var 0) (.i (.var 1) (.i (.var 2) (.x (.var 3) (.i (.var 4) .nil)))))) (.i (.fn 57 (.i (.var 0) (.i (.var 1) (.i (.var 2) (.x (.var 3) (.i (.var 4) .nil)))))) .nil))))))))) (.lit 0)))))), [], 8))
                (.ret ((.v (.one (.z (.bool (.lit false))))), [], 8))))))
        (.ite (.cmp .neq (.fn 77 (.i (.var 0) (.i (.var 1) (.i (.var 2) (.x (.var 3) (.i (.var 4) (.i (.var 8) (.i (.var 9) (.i (.var 10) (.i (.var 11) (.i (.var 12) (.x (.var 13) (.i (.var 14) (.i (.var 15) (.x (.var 16) .nil))))))))))))))) (.lit 0))
          (.ret ((.v (.one (.z (.bool (.lit false))))), [], 7))
          (.ite (.cmp .neq (.fn 89 (.i (.var 8) (.i (.var 9) (.i (.var 10) (.i (.var 11) (.i (.var 12) (.x (.var 13) (.i (.var 14) (.i (.var 15) (.x (.var 16) .nil)))))))))) (.lit 0))
            (.ret ((.v (.one (.z (.bool (.lit false))))), [], 7))
            (.ite (.not (.fn 77 (.i (.var 0) (.i (.var 1) (.i (.var 2) (.x (.var 3) (.i (.var 4) (.i (.var 8) (.i (.var 9) (.i (.var 10) (.i (.var 11) (.i (.var 12) (.x (.var 13) (.i (.var 14) (.i (.var 15) (.x (.var 16) .nil))))))))))))))))
              (.ret ((.v (.one (.z (.bool (.lit false))))), [], 7))
              (.ret ((.v (.one (.z (.bool (.lit false))))), [], 8))))))
      (.ite (.cmp .neq (.fn 77 (.i (.var 0) (.i (.var 1) (.i (.var 2) (.x (.var 3) (.i (.var 4) (.i (.var 8) (.i (.var 9) (.i (.var 10) (.i (.var 11) (.i (.var 12) (.x (.var 13) (.i (.var 14) (.i (.var 15) (.x (.var 16) .nil))))))))))))))) (.lit 0))
        (.ret ((.v (.one (.z (.bool (.lit true))))), [], 5))
        (.ite (.cmp .neq (.fn 89 (.i (.var 8) (.i (.var 9) (.i (.var 10) (.i (.var 11) (.i (.var 12) (.x (.var 13) (.i (.var 14) (.i (.var 15) (.x (.var 16) .nil)))))))))) (.lit 0))
          (.ret ((.v (.one (.z (.bool (.lit true))))), [], 5))
          (.ite (.not (.fn 77 (.i (.var 0) (.i (.var 1) (.i (.var 2) (.x (.var 3) (.i (.var 4) (.i (.var 8) (.i (.var 9) (.i (.var 10) (.i (.var 11) (.i (.var 12) (.x (.var 13) (.i (.var 14) (.i (.var 15) (.x (.var 16) .nil))))))))))))))))
            (.ret ((.v (.one (.z (.bool (.lit true))))), [], 5))
            (.ret ((.v (.one (.z (.bool (.cmp .eql (.fn 41 (.i (.fn 85 (.i (.var 8) (.i (.var 9) (.i (.var 10) (.i (.var 11) (.i (.var 12) (.x (.var 13) (.i (.var 14) (.i (.var 15) (.x (.var 16) .nil)))))))))) (.i (.fn 86 (.i (.var 8) (.i (.var 9) (.i (.var 10) (.i (.var 11) (.i (.var 12) (.x (.var 13) (.i (.var 14) (.i (.var 15) (.x (.var 16) .nil)))))))))) (.i (.fn 87 (.i (.var 8) (.i (.var 9) (.i (.var 10) (.i (.var 11) (.i (.var 12) (.x (.var 13) (.i (.var 14) (.i (.var 15) (.x (.var 16) .nil)))))))))) (.i (.fn 88 (.i (.var 8) (.i (.var 9) (.i (.var 10) (.i (.var 11) (.i (.var 12) (.x (.var 13) (.i (.var 14) (.i (.var 15) (.x (.var 16) .nil)))))))))) (.i (.fn 54 (.i (.var 0) (.i (.var 1) (.i (.var 2) (.x (.var 3) (.i (.var 4) .nil)))))) (.i (.fn 55 (.i (.var 0) (.i (.var 1) (.i (.var 2) (.x (.var 3) (.i (.var 4) .nil)))))) (.i (.fn 56 (.i (.var 0) (.i (.var 1) (.i (.var 2) (.x (.var 3) (.i (.var 4) .nil)))))) (.i (.fn 57 (.i (.var 0) (.i (.var 1) (.i (.var 2) (.x (.var 3) (.i (.var 4) .nil)))))) .nil))))))))) (.lit 0)))))), [], 6))))))
    (.ite (.cmp .neq (.fn 77 (.i (.var 0) (.i (.var 1) (.i (.var 2) (.x (.var 3) (.i (.var 4) (.i (.var 8) (.i (.var 9) (.i (.var 10) (.i (.var 11) (.i (.var 12) (.x (.var 13) (.i (.var 14) (.i (.var 15) (.x (.var 16) .nil))))))))))))))) (.lit 0))
      (.ret ((.v (.one (.z (.bool (.lit true))))), [], 5))
      (.ite (.cmp .neq (.fn 89 (.i (.var 8) (.i (.var 9) (.i (.var 10) (.i (.var 11) (.i (.var 12) (.x (.var 13) (.i (.var 14) (.i (.var 15) (.x (.var 16) .nil)))))))))) (.lit 0))
        (.ret ((.v (.one (.z (.bool (.lit true))))), [], 5))
        (.ite (.not (.fn 77 (.i (.var 0) (.i (.var 1) (.i (.var 2) (.x (.var 3) (.i (.var 4) (.i (.var 8) (.i (.var 9) (.i (.var 10) (.i (.var 11) (.i (.var 12) (.x (.var 13) (.i (.var 14) (.i (.var 15) (.x (.var 16) .nil))))))))))))))))
          (.ret ((.v (.one (.z (.bool (.lit true))))), [], 5))
          (.ret ((.v (.one (.z (.bool (.cmp .eql (.fn 41 (.i (.fn 85 (.i (.var 8) (.i (.var 9) (.i (.var 10) (.i (.var 11) (.i (.var 12) (.x (.var 13) (.i (.var 14) (.i (.var 15) (.x (.var 16) .nil)))))))))) (.i (.fn 86 (.i (.var 8) (.i (.var 9) (.i (.var 10) (.i (.var 11) (.i (.var 12) (.x (.var 13) (.i (.var 14) (.i (.var 15) (.x (.var 16) .nil)))))))))) (.i (.fn 87 (.i (.var 8) (.i (.var 9) (.i (.var 10) (.i (.var 11) (.i (.var 12) (.x (.var 13) (.i (.var 14) (.i (.var 15) (.x (.var 16) .nil)))))))))) (.i (.fn 88 (.i (.var 8) (.i (.var 9) (.i (.var 10) (.i (.var 11) (.i (.var 12) (.x (.var 13) (.i (.var 14) (.i (.var 15) (.x (.var 16) .nil)))))))))) (.i (.fn 54 (.i (.var 0) (.i (.var 1) (.i (.var 2) (.x (.var 3) (.i (.var 4) .nil)))))) (.i (.fn 55 (.i (.var 0) (.i (.var 1) (.i (.var 2) (.x (.var 3) (.i (.var 4) .nil)))))) (.i (.fn 56 (.i (.var 0) (.i (.var 1) (.i (.var 2) (.x (.var 3) (.i (.var 4) .nil)))))) (.i (.fn 57 (.i (.var 0) (.i (.var 1) (.i (.var 2) (.x (.var 3) (.i (.var 4) .nil)))))) .nil))))))))) (.lit 0)))))), [], 6)))))))
-- end trZonesLaw
set_option maxRecDepth 100000 in
theorem trZonesLaw_is : T.norm 0 (call Try.prog ctZone2 [] 100 9 (symArgs 0 [psg, it, it, pt, feat]) [] 0) TT.ret = trZonesLaw := by kernel_rfl
theorem trZonesLaw_low : trZonesLaw.low 1000 = true := by kernel_rfl
end Go.Proofs.Ytinfmmofcadjgaa
/- Plane geometry: boxes about what is near; a polygon's box. -/
namespace Go.Proofs.Ytinfmmofcadjgaa
open Go.RowKit
theorem abs_le_of_sq {k d a b : Int} (hk : 0 < k) (hd : 0 ≤ d) (h : a * a + b * b ≤ (k * d) * (k * d)) : -(k * d) ≤ a ∧ a ≤ k * d := by
  have hkd := Int.mul_nonneg (show 0 ≤ k by omega) hd
  have hb := sq_nn b
  have h1 : a ≤ k * d := sq_le hkd (by omega)
  have h2 : -a ≤ k * d := sq_le hkd (by rw [Int.neg_mul_neg]; omega)
  omega
/-- What is near a segment lies in the segment's box, made greater. -/
theorem near_box {px py ax ay bx by' d : Int} (hd : 0 ≤ d) (h : nearB px py ax ay bx by' d = true) :
    (min ax bx - d ≤ px ∧ px ≤ max ax bx + d) ∧ min ay by' - d ≤ py ∧ py ≤ max ay by' + d := by
  obtain ⟨k, x, y, hk, hs, hq⟩ := seg_of_near h
  have q1 := abs_le_of_sq hk hd hq
  have q2 := abs_le_of_sq hk hd (show (k * py - y) * (k * py - y) + (k * px - x) * (k * px - x) ≤ k * d * (k * d) by omega)
  have x1 := seg_le hs (Int.le_max_left ax bx) (Int.le_max_right ax bx)
  have x2 := seg_ge hs (Int.min_le_left ax bx) (Int.min_le_right ax bx)
  have y1 := seg_le (seg_flip hs) (Int.le_max_left ay by') (Int.le_max_right ay by')
  have y2 := seg_ge (seg_flip hs) (Int.min_le_left ay by') (Int.min_le_right ay by')
  refine ⟨⟨?_, ?_⟩, ?_, ?_⟩
  · exact Int.le_of_mul_le_mul_left (by rw [Int.mul_sub]; omega) hk
  · exact Int.le_of_mul_le_mul_left (by rw [Int.mul_add]; omega) hk
  · exact Int.le_of_mul_le_mul_left (by rw [Int.mul_sub]; omega) hk
  · exact Int.le_of_mul_le_mul_left (by rw [Int.mul_add]; omega) hk
theorem clo_box {ax ay bx by' cx cy dx dy d : Int} (hd : 0 ≤ d) (h : Clo ax ay bx by' cx cy dx dy d) :
    (min ax bx - d ≤ max cx dx ∧ min cx dx ≤ max ax bx + d) ∧ min ay by' - d ≤ max cy dy ∧ min cy dy ≤ max ay by' + d := by
  obtain ⟨k, x, y, u, v, hk, hs, ht, hq⟩ := h
  have q1 := abs_le_of_sq hk hd hq
  have q2 := abs_le_of_sq hk hd (show (y - v) * (y - v) + (x - u) * (x - u) ≤ k * d * (k * d) by omega)
  have x1 := seg_le hs (Int.le_max_left ax bx) (Int.le_max_right ax bx)
  have x2 := seg_ge hs (Int.min_le_left ax bx) (Int.min_le_right ax bx)
  have y1 := seg_le (seg_flip hs) (Int.le_max_left ay by') (Int.le_max_right ay by')
  have y2 := seg_ge (seg_flip hs) (Int.min_le_left ay by') (Int.min_le_right ay by')
  have u1 := seg_le ht (Int.le_max_left cx dx) (Int.le_max_right cx dx)
  have u2 := seg_ge ht (Int.min_le_left cx dx) (Int.min_le_right cx dx)
  have v1 := seg_le (seg_flip ht) (Int.le_max_left cy dy) (Int.le_max_right cy dy)
  have v2 := seg_ge (seg_flip ht) (Int.min_le_left cy dy) (Int.min_le_right cy dy)
  refine ⟨⟨?_, ?_⟩, ?_, ?_⟩
  · exact Int.le_of_mul_le_mul_left (by rw [Int.mul_sub]; omega) hk
  · exact Int.le_of_mul_le_mul_left (by rw [Int.mul_add]; omega) hk
  · exact Int.le_of_mul_le_mul_left (by rw [Int.mul_sub]; omega) hk
  · exact Int.le_of_mul_le_mul_left (by rw [Int.mul_add]; omega) hk

/-! ### A polygon's box -/
theorem order_le {a b x y : Int} (h : orderI a b x y < 0) : a ≤ x := by unfold orderI at h; (repeat' split at h) <;> omega
theorem order_ge {a b x y : Int} (h : ¬ orderI a b x y < 0) : x ≤ a := by unfold orderI at h; (repeat' split at h) <;> omega
theorem order_ge' {a b x y : Int} (h : 0 < orderI a b x y) : x ≤ a := by unfold orderI at h; (repeat' split at h) <;> omega
theorem order_le' {a b x y : Int} (h : ¬ 0 < orderI a b x y) : a ≤ x := by unfold orderI at h; (repeat' split at h) <;> omega
theorem minO_spec (r : Rows) : ∀ (f i : Nat) (x y : Int), minO r f i x y ≤ x ∧ (∀ k, i ≤ k → k < i + f → minO r f i x y ≤ cx r k) ∧ (minO r f i x y = x ∨ ∃ k, i ≤ k ∧ k < i + f ∧ minO r f i x y = cx r k)
  | 0, i, x, y => ⟨Int.le_refl _, fun k h1 h2 => by omega, .inl rfl⟩
  | f + 1, i, x, y => by
    rw [minO]
    split
    · rename_i h
      obtain ⟨h1, h2, h3⟩ := minO_spec r f (i + 1) (lg r i 0) (lg r i 1)
      have := order_le h
      refine ⟨by omega, fun k g1 g2 => ?_, ?_⟩
      · by_cases e : k = i
        · subst e; exact h1
        · exact h2 k (by omega) (by omega)
      · rcases h3 with h3 | ⟨k, g1, g2, g3⟩
        · exact .inr ⟨i, by omega, by omega, h3⟩
        · exact .inr ⟨k, by omega, by omega, g3⟩
    · rename_i h
      obtain ⟨h1, h2, h3⟩ := minO_spec r f (i + 1) x y
      have := order_ge h
      refine ⟨h1, fun k g1 g2 => ?_, ?_⟩
      · by_cases e : k = i
        · subst e; exact Int.le_trans h1 this
        · exact h2 k (by omega) (by omega)
      · rcases h3 with h3 | ⟨k, g1, g2, g3⟩
        · exact .inl h3
        · exact .inr ⟨k, by omega, by omega, g3⟩
theorem maxO_spec (r : Rows) : ∀ (f i : Nat) (x y : Int), x ≤ maxO r f i x y ∧ (∀ k, i ≤ k → k < i + f → cx r k ≤ maxO r f i x y) ∧ (maxO r f i x y = x ∨ ∃ k, i ≤ k ∧ k < i + f ∧ maxO r f i x y = cx r k)
  | 0, i, x, y => ⟨Int.le_refl _, fun k h1 h2 => by omega, .inl rfl⟩
  | f + 1, i, x, y => by
    rw [maxO]
    split
    · rename_i h
      obtain ⟨h1, h2, h3⟩ := maxO_spec r f (i + 1) (lg r i 0) (lg r i 1)
      have := order_ge' h
      refine ⟨by omega, fun k g1 g2 => ?_, ?_⟩
      · by_cases e : k = i
        · subst e; exact h1
        · exact h2 k (by omega) (by omega)
      · rcases h3 with h3 | ⟨k, g1, g2, g3⟩
        · exact .inr ⟨i, by omega, by omega, h3⟩
        · exact .inr ⟨k, by omega, by omega, g3⟩
    · rename_i h
      obtain ⟨h1, h2, h3⟩ := maxO_spec r f (i + 1) x y
      have := order_le' h
      refine ⟨h1, fun k g1 g2 => ?_, ?_⟩
      · by_cases e : k = i
        · subst e; exact Int.le_trans this h1
        · exact h2 k (by omega) (by omega)
      · rcases h3 with h3 | ⟨k, g1, g2, g3⟩
        · exact .inl h3
        · exact .inr ⟨k, by omega, by omega, g3⟩
theorem minY_spec (r : Rows) : ∀ (f i : Nat) (y : Int), minY r f i y ≤ y ∧ (∀ k, i ≤ k → k < i + f → minY r f i y ≤ cy r k) ∧ (minY r f i y = y ∨ ∃ k, i ≤ k ∧ k < i + f ∧ minY r f i y = cy r k)
  | 0, i, y => ⟨Int.le_refl _, fun k h1 h2 => by omega, .inl rfl⟩
  | f + 1, i, y => by
    rw [minY]
    split
    · rename_i h
      obtain ⟨h1, h2, h3⟩ := minY_spec r f (i + 1) (lg r i 1)
      refine ⟨by omega, fun k g1 g2 => ?_, ?_⟩
      · by_cases e : k = i
        · subst e; exact h1
        · exact h2 k (by omega) (by omega)
      · rcases h3 with h3 | ⟨k, g1, g2, g3⟩
        · exact .inr ⟨i, by omega, by omega, h3⟩
        · exact .inr ⟨k, by omega, by omega, g3⟩
    · rename_i h
      obtain ⟨h1, h2, h3⟩ := minY_spec r f (i + 1) y
      refine ⟨h1, fun k g1 g2 => ?_, ?_⟩
      · by_cases e : k = i
        · subst e; exact Int.le_trans h1 (show y ≤ lg r k 1 by omega)
        · exact h2 k (by omega) (by omega)
      · rcases h3 with h3 | ⟨k, g1, g2, g3⟩
        · exact .inl h3
        · exact .inr ⟨k, by omega, by omega, g3⟩
theorem maxY_spec (r : Rows) : ∀ (f i : Nat) (y : Int), y ≤ maxY r f i y ∧ (∀ k, i ≤ k → k < i + f → cy r k ≤ maxY r f i y) ∧ (maxY r f i y = y ∨ ∃ k, i ≤ k ∧ k < i + f ∧ maxY r f i y = cy r k)
  | 0, i, y => ⟨Int.le_refl _, fun k h1 h2 => by omega, .inl rfl⟩
  | f + 1, i, y => by
    rw [maxY]
    split
    · rename_i h
      obtain ⟨h1, h2, h3⟩ := maxY_spec r f (i + 1) (lg r i 1)
      refine ⟨by omega, fun k g1 g2 => ?_, ?_⟩
      · by_cases e : k = i
        · subst e; exact h1
        · exact h2 k (by omega) (by omega)
      · rcases h3 with h3 | ⟨k, g1, g2, g3⟩
        · exact .inr ⟨i, by omega, by omega, h3⟩
        · exact .inr ⟨k, by omega, by omega, g3⟩
    · rename_i h
      obtain ⟨h1, h2, h3⟩ := maxY_spec r f (i + 1) y
      refine ⟨h1, fun k g1 g2 => ?_, ?_⟩
      · by_cases e : k = i
        · subst e; exact Int.le_trans (show lg r k 1 ≤ y by omega) h1
        · exact h2 k (by omega) (by omega)
      · rcases h3 with h3 | ⟨k, g1, g2, g3⟩
        · exact .inl h3
        · exact .inr ⟨k, by omega, by omega, g3⟩
/-- The box of a valid polygon has its corners, and is valid. -/
theorem pb_spec {r : Rows} (hr : polyB r = true) : (∀ k, k < r.length → (pbA [.l r] ≤ cx r k ∧ cx r k ≤ pbB [.l r]) ∧ pbC [.l r] ≤ cy r k ∧ cy r k ≤ pbD [.l r]) ∧ boxB (pbA [.l r]) (pbB [.l r]) (pbC [.l r]) (pbD [.l r]) = true := by
  have hl := polyB_len hr
  have eA : pbA [.l r] = minO r (r.length - 1) 1 (cx r 0) (cy r 0) := by unfold pbA; rw [show rAt [.l r] 0 = r from rfl, hr]; rfl
  have eB : pbB [.l r] = maxO r (r.length - 1) 1 (cx r 0) (cy r 0) := by unfold pbB; rw [show rAt [.l r] 0 = r from rfl, hr]; rfl
  have eC : pbC [.l r] = minY r (r.length - 1) 1 (cy r 0) := by unfold pbC; rw [show rAt [.l r] 0 = r from rfl, hr]; rfl
  have eD : pbD [.l r] = maxY r (r.length - 1) 1 (cy r 0) := by unfold pbD; rw [show rAt [.l r] 0 = r from rfl, hr]; rfl
  obtain ⟨a1, a2, a3⟩ := minO_spec r (r.length - 1) 1 (cx r 0) (cy r 0)
  obtain ⟨b1, b2, b3⟩ := maxO_spec r (r.length - 1) 1 (cx r 0) (cy r 0)
  obtain ⟨c1, c2, c3⟩ := minY_spec r (r.length - 1) 1 (cy r 0)
  obtain ⟨d1, d2, d3⟩ := maxY_spec r (r.length - 1) 1 (cy r 0)
  rw [eA, eB, eC, eD]
  have hp := fun k hk => placeB_iff.mp (polyB_pl hr (k := k) hk)
  have hp0 := hp 0 (by omega)
  refine ⟨fun k hk => ?_, ?_⟩
  · by_cases e : k = 0
    · subst e; exact ⟨⟨a1, b1⟩, c1, d1⟩
    · exact ⟨⟨a2 k (by omega) (by omega), b2 k (by omega) (by omega)⟩, c2 k (by omega) (by omega), d2 k (by omega) (by omega)⟩
  · rw [boxB_t]
    have A : -1000000 ≤ minO r (r.length - 1) 1 (cx r 0) (cy r 0) := by
      rcases a3 with h | ⟨k, _, hk, h⟩
      · omega
      · have := hp k (by omega); omega
    have zB : maxO r (r.length - 1) 1 (cx r 0) (cy r 0) ≤ 1000000 := by
      rcases b3 with h | ⟨k, _, hk, h⟩
      · omega
      · have := hp k (by omega); omega
    have C : -1000000 ≤ minY r (r.length - 1) 1 (cy r 0) := by
      rcases c3 with h | ⟨k, _, hk, h⟩
      · omega
      · have := hp k (by omega); omega
    have zD : maxY r (r.length - 1) 1 (cy r 0) ≤ 1000000 := by
      rcases d3 with h | ⟨k, _, hk, h⟩
      · omega
      · have := hp k (by omega); omega
    omega
theorem tele_g {r : Rows} {x y : Int} (g : Nat → Bool) (h : ∀ k, k < r.length → crE r x y k = (g k ^^ g (nxt r.length k))) : ∀ (f i : Nat), i + f + 1 = r.length → parN r x y (f + 1) i = (g i ^^ g 0)
  | 0, i, e => by
    rw [parN, parN, Bool.xor_false, h i (by omega), show nxt r.length i = 0 by unfold nxt; rw [if_pos (by omega)]]
  | f + 1, i, e => by
    rw [show parN r x y (f + 1 + 1) i = (crE r x y i ^^ parN r x y (f + 1) (i + 1)) from rfl, tele_g g h f (i + 1) (by omega), h i (by omega), show nxt r.length i = i + 1 by unfold nxt; rw [if_neg (by omega)]]
    cases g i <;> cases g (i + 1) <;> cases g 0 <;> rfl
theorem par_zero {r : Rows} (hn : 0 < r.length) {x y : Int} (g : Nat → Bool) (h : ∀ k, k < r.length → crE r x y k = (g k ^^ g (nxt r.length k))) : parN r x y r.length 0 = false := by
  have := tele_g g h (r.length - 1) 0 (by omega)
  rw [show r.length - 1 + 1 = r.length by omega, Bool.xor_self] at this
  exact this
theorem cross_right {x y ax ay bx by' : Int} (h1 : ax < x) (h2 : bx < x) : crossP x y ax ay bx by' = false := by
  unfold crossP
  split
  · refine decide_eq_false (fun ⟨g1, g2, g3⟩ => ?_)
    have e : crossI bx by' ax ay x y = (ax - x) * (y - by') - (x - bx) * (ay - y) := by unfold crossI; grind
    have q1 := Int.mul_nonneg (show 0 ≤ x - ax by omega) (show 0 ≤ y - by' by omega)
    have q2 := Int.mul_pos (show 0 < x - bx by omega) (show 0 < ay - y by omega)
    grind
  · refine decide_eq_false (fun ⟨g1, g2, g3⟩ => ?_)
    have e : crossI ax ay bx by' x y = (bx - x) * (y - ay) - (x - ax) * (by' - y) := by unfold crossI; grind
    have q1 := Int.mul_nonneg (show 0 ≤ x - bx by omega) (show 0 ≤ y - ay by omega)
    have q2 := Int.mul_pos (show 0 < x - ax by omega) (show 0 < by' - y by omega)
    grind
theorem cross_left {x y ax ay bx by' : Int} (h1 : x < ax) (h2 : x < bx) : crossP x y ax ay bx by' = (decide (ay ≤ y) ^^ decide (by' ≤ y)) := by
  unfold crossP
  split
  · by_cases c1 : by' ≤ y
    · by_cases c2 : y < ay
      · have e : crossI bx by' ax ay x y = (ax - x) * (y - by') - (x - bx) * (ay - y) := by unfold crossI; grind
        have q1 := Int.mul_nonneg (show 0 ≤ ax - x by omega) (show 0 ≤ y - by' by omega)
        have q2 := Int.mul_pos (show 0 < bx - x by omega) (show 0 < ay - y by omega)
        rw [decide_eq_true (p := by' ≤ y ∧ y < ay ∧ _) ⟨c1, c2, by grind⟩, decide_eq_false (p := ay ≤ y) (by omega), decide_eq_true c1]; rfl
      · rw [decide_eq_false (p := by' ≤ y ∧ y < ay ∧ _) (by omega), decide_eq_true (p := ay ≤ y) (by omega), decide_eq_true c1]; rfl
    · rw [decide_eq_false (p := by' ≤ y ∧ y < ay ∧ _) (by omega), decide_eq_false (p := ay ≤ y) (by omega), decide_eq_false c1]; rfl
  · by_cases c1 : ay ≤ y
    · by_cases c2 : y < by'
      · have e : crossI ax ay bx by' x y = (bx - x) * (y - ay) - (x - ax) * (by' - y) := by unfold crossI; grind
        have q1 := Int.mul_nonneg (show 0 ≤ bx - x by omega) (show 0 ≤ y - ay by omega)
        have q2 := Int.mul_pos (show 0 < ax - x by omega) (show 0 < by' - y by omega)
        rw [decide_eq_true (p := ay ≤ y ∧ y < by' ∧ _) ⟨c1, c2, by grind⟩, decide_eq_false (p := by' ≤ y) (by omega), decide_eq_true c1]; rfl
      · rw [decide_eq_false (p := ay ≤ y ∧ y < by' ∧ _) (by omega), decide_eq_true (p := by' ≤ y) (by omega), decide_eq_true c1]; rfl
    · rw [decide_eq_false (p := ay ≤ y ∧ y < by' ∧ _) (by omega), decide_eq_false (p := by' ≤ y) (by omega), decide_eq_false c1]; rfl
/-- A place of a polygon lies in a box that has the corners. -/
theorem in_box {r : Rows} (hr : polyB r = true) {x y : Int} (hq : placeB x y = true) {a b c d : Int} (hb : ∀ k, k < r.length → (a ≤ cx r k ∧ cx r k ≤ b) ∧ c ≤ cy r k ∧ cy r k ≤ d)
    (h : 0 ≤ placeN r x y r.length 0 false) : (a ≤ x ∧ x ≤ b) ∧ c ≤ y ∧ y ≤ d := by
  have hl := polyB_len hr
  rw [placeN_eq hr hq _ _ _ (by omega)] at h
  cases ho : onN r x y r.length 0 with
  | true =>
    obtain ⟨k, _, hk, hon⟩ := onN_true _ _ ho
    have h1 := hb k (by omega)
    have h2 := hb (nxt r.length k) (nxt_lt (by omega))
    simp only [onB, decide_eq_true_eq] at hon
    omega
  | false =>
    rw [ho] at h
    cases hp : parN r x y r.length 0 with
    | false => rw [hp] at h; simp at h
    | true =>
      have no : ∀ g : Nat → Bool, ¬ (∀ k, k < r.length → crE r x y k = (g k ^^ g (nxt r.length k))) := fun g hg => by
        rw [par_zero (by omega) g hg] at hp; exact absurd hp (by decide)
      refine ⟨⟨?_, ?_⟩, ?_, ?_⟩
      · rcases Int.lt_or_le x a with q | q
        · refine absurd (fun k hk => ?_) (no (fun k => decide (cy r k ≤ y)))
          have h1 := hb k hk
          have h2 := hb (nxt r.length k) (nxt_lt hk)
          exact cross_left (by omega) (by omega)
        · exact q
      · rcases Int.lt_or_le b x with q | q
        · refine absurd (fun k hk => ?_) (no (fun _ => false))
          have h1 := hb k hk
          have h2 := hb (nxt r.length k) (nxt_lt hk)
          exact cross_right (by omega) (by omega)
        · exact q
      · rcases Int.lt_or_le y c with q | q
        · refine absurd (fun k hk => ?_) (no (fun _ => false))
          have h1 := hb k hk
          have h2 := hb (nxt r.length k) (nxt_lt hk)
          unfold crE crossP
          split
          · exact decide_eq_false (by omega)
          · exact decide_eq_false (by omega)
        · exact q
      · rcases Int.lt_or_le d y with q | q
        · refine absurd (fun k hk => ?_) (no (fun _ => false))
          have h1 := hb k hk
          have h2 := hb (nxt r.length k) (nxt_lt hk)
          unfold crE crossP
          split
          · exact decide_eq_false (by omega)
          · exact decide_eq_false (by omega)
        · exact q
end Go.Proofs.Ytinfmmofcadjgaa
/- Chapter 38: the law PassageZones. -/
namespace Go.Proofs.Ytinfmmofcadjgaa
open Go.RowKit
theorem zone_spec {a b c : Int} {r : Rows} {k : Int} : (zoneE (pk a b c r k) = 1 ∨ zoneE (pk a b c r k) = 3) ∨ (zoneE (pk a b c r k) = 0 ∧ psgB a b c r = true ∧ (∃ n : Nat, k = n ∧ n < r.length) ∧
    zoneA (pk a b c r k) = min (lg r k 0) (lg r k 2) - c ∧ zoneB (pk a b c r k) = max (lg r k 0) (lg r k 2) + c ∧ zoneC (pk a b c r k) = min (lg r k 1) (lg r k 3) - c ∧ zoneD (pk a b c r k) = max (lg r k 1) (lg r k 3) + c ∧
    boxB (zoneA (pk a b c r k)) (zoneB (pk a b c r k)) (zoneC (pk a b c r k)) (zoneD (pk a b c r k)) = true) := by
  have e0 : zoneO (pk a b c r k) = (psgB a b c r && decide (0 ≤ k ∧ k < r.length)) := rfl
  have e1 : growX (zoneL (pk a b c r k)) = (growO (zoneL (pk a b c r k)) && boxB (min (lg r k 0) (lg r k 2) - c) (max (lg r k 0) (lg r k 2) + c) (min (lg r k 1) (lg r k 3) - c) (max (lg r k 1) (lg r k 3) + c)) := rfl
  cases h : zoneO (pk a b c r k) with
  | false => left; left; unfold zoneE; rw [h]; rfl
  | true =>
    cases hx : growX (zoneL (pk a b c r k)) with
    | false =>
      left
      unfold zoneE growE
      rw [h, hx]
      cases growO (zoneL (pk a b c r k))
      · exact .inl rfl
      · exact .inr rfl
    | true =>
      right
      rw [e0, Bool.and_eq_true, decide_eq_true_eq] at h
      have h0 : zoneO (pk a b c r k) = true := by rw [e0, h.1, decide_eq_true h.2]; rfl
      have zA : zoneA (pk a b c r k) = min (lg r k 0) (lg r k 2) - c := by unfold zoneA growA; rw [h0, hx]; rfl
      have zB : zoneB (pk a b c r k) = max (lg r k 0) (lg r k 2) + c := by unfold zoneB growB; rw [h0, hx]; rfl
      have zC : zoneC (pk a b c r k) = min (lg r k 1) (lg r k 3) - c := by unfold zoneC growC; rw [h0, hx]; rfl
      have zD : zoneD (pk a b c r k) = max (lg r k 1) (lg r k 3) + c := by unfold zoneD growD; rw [h0, hx]; rfl
      have zE : zoneE (pk a b c r k) = 0 := by unfold zoneE growE; rw [h0, hx]; rfl
      rw [e1, Bool.and_eq_true] at hx
      obtain ⟨n, hn⟩ := Int.eq_ofNat_of_zero_le h.2.1
      exact ⟨zE, h.1, ⟨n, hn, by omega⟩, zA, zB, zC, zD, by rw [zA, zB, zC, zD]; exact hx.2⟩
theorem KIi58 (W : World) (ds l : List D) : (envOf KI W ds).fi 58 l = zoneE l := by simp only [envOf, KI, KH, KG, KF, KE, KD, KC, KB, KA, K9, K8, K7, K6, K5, K]
theorem KIi54 (W : World) (ds l : List D) : (envOf KI W ds).fi 54 l = zoneA l := by simp only [envOf, KI, KH, KG, KF, KE, KD, KC, KB, KA, K9, K8, K7, K6, K5, K]
theorem KIi55 (W : World) (ds l : List D) : (envOf KI W ds).fi 55 l = zoneB l := by simp only [envOf, KI, KH, KG, KF, KE, KD, KC, KB, KA, K9, K8, K7, K6, K5, K]
theorem KIi56 (W : World) (ds l : List D) : (envOf KI W ds).fi 56 l = zoneC l := by simp only [envOf, KI, KH, KG, KF, KE, KD, KC, KB, KA, K9, K8, K7, K6, K5, K]
theorem KIi57 (W : World) (ds l : List D) : (envOf KI W ds).fi 57 l = zoneD l := by simp only [envOf, KI, KH, KG, KF, KE, KD, KC, KB, KA, K9, K8, K7, K6, K5, K]
theorem KIi53 (W : World) (ds l : List D) : (envOf KI W ds).fi 53 l = holdsE l := by simp only [envOf, KI, KH, KG, KF, KE, KD, KC, KB, KA, K9, K8, K7, K6, K5, K]
theorem KIb52 (W : World) (ds l : List D) : (envOf KI W ds).fb 52 l = holdsR l := by simp only [envOf, KI, KH, KG, KF, KE, KD, KC, KB, KA, K9, K8, K7, K6, K5, K]
theorem KIi36 (W : World) (ds l : List D) : (envOf KI W ds).fi 36 l = uniE l := by simp only [envOf, KI, KH, KG, KF, KE, KD, KC, KB, KA, K9, K8, K7, K6, K5, K]
theorem KIb51 (W : World) (ds l : List D) : (envOf KI W ds).fb 51 l = withinR l := by simp only [envOf, KI, KH, KG, KF, KE, KD, KC, KB, KA, K9, K8, K7, K6, K5, K]
theorem KIb77 (W : World) (ds l : List D) : (envOf KI W ds).fb 77 l = nearPR l := by simp only [envOf, KI, KH, KG, KF, KE, KD, KC, KB, KA, K9, K8, K7, K6, K5, K]
theorem KIi77 (W : World) (ds l : List D) : (envOf KI W ds).fi 77 l = nearPE l := by simp only [envOf, KI, KH, KG, KF, KE, KD, KC, KB, KA, K9, K8, K7, K6, K5, K]
theorem KIi85 (W : World) (ds l : List D) : (envOf KI W ds).fi 85 l = fbA l := by simp only [envOf, KI, KH, KG, KF, KE, KD, KC, KB, KA, K9, K8, K7, K6, K5, K]
theorem KIi86 (W : World) (ds l : List D) : (envOf KI W ds).fi 86 l = fbB l := by simp only [envOf, KI, KH, KG, KF, KE, KD, KC, KB, KA, K9, K8, K7, K6, K5, K]
theorem KIi87 (W : World) (ds l : List D) : (envOf KI W ds).fi 87 l = fbC l := by simp only [envOf, KI, KH, KG, KF, KE, KD, KC, KB, KA, K9, K8, K7, K6, K5, K]
theorem KIi88 (W : World) (ds l : List D) : (envOf KI W ds).fi 88 l = fbD l := by simp only [envOf, KI, KH, KG, KF, KE, KD, KC, KB, KA, K9, K8, K7, K6, K5, K]
theorem KIi89 (W : World) (ds l : List D) : (envOf KI W ds).fi 89 l = fbE l := by simp only [envOf, KI, KH, KG, KF, KE, KD, KC, KB, KA, K9, K8, K7, K6, K5, K]
theorem KIi41 (W : World) (ds l : List D) : (envOf KI W ds).fi 41 l = meetE l := by simp only [envOf, KI, KH, KG, KF, KE, KD, KC, KB, KA, K9, K8, K7, K6, K5, K]
theorem holds_in {a b c : Int} {r : Rows} (hp : psgB a b c r = true) {n : Nat} (hn : n < r.length) {t x y : Int} (h : holdsR [.i a, .i b, .i c, .l r, .i n, .i t, .i x, .i y] = true) :
    placeB x y = true ∧ (min (lg r n 0) (lg r n 2) - c ≤ x ∧ x ≤ max (lg r n 0) (lg r n 2) + c) ∧ min (lg r n 1) (lg r n 3) - c ≤ y ∧ y ≤ max (lg r n 1) (lg r n 3) + c := by
  have e : holdsR [.i a, .i b, .i c, .l r, .i n, .i t, .i x, .i y] = (placeB x y && timeB t && decide (durE (pk a b c r n) = 0) && nearR [.i x, .i y, .i (lg r n 0), .i (lg r n 1), .i (lg r n 2), .i (lg r n 3), .i c] && decide (durL (pk a b c r n) ≤ t ∧ t ≤ durH (pk a b c r n))) := rfl
  rw [e] at h
  simp only [Bool.and_eq_true] at h
  obtain ⟨⟨⟨⟨hq, _⟩, _⟩, hr⟩, _⟩ := h
  obtain ⟨p1, p2, p3, p4⟩ := psgB_iff hp
  obtain ⟨l1, l2⟩ := leg_places (p4 n hn)
  rw [(nearR_eq hq l1 l2 (by omega)).1] at hr
  exact ⟨hq, near_box (by omega) hr⟩
/-- The box of a feature that a ship can be near has a place in common with the leg's zone. -/
theorem near_meet {r : Rows} {k off : Int} (hl : legB r k = true) (ho : 0 ≤ off ∧ off ≤ 100000) {id kind x y rad depth sym : Int} {area sc : Rows} (hf : featP id kind x y rad area depth sym sc)
    (h : nearX r k off kind x y rad area = true) :
    boxB (fbox kind x rad (pbA [.l area]) (-1)) (fbox kind x rad (pbB [.l area]) 1) (fbox kind y rad (pbC [.l area]) (-1)) (fbox kind y rad (pbD [.l area]) 1) = true ∧
    (fbox kind x rad (pbA [.l area]) (-1) ≤ max (lg r k 0) (lg r k 2) + off ∧ min (lg r k 0) (lg r k 2) - off ≤ fbox kind x rad (pbB [.l area]) 1) ∧
    fbox kind y rad (pbC [.l area]) (-1) ≤ max (lg r k 1) (lg r k 3) + off ∧ min (lg r k 1) (lg r k 3) - off ≤ fbox kind y rad (pbD [.l area]) 1 := by
  obtain ⟨l1, l2⟩ := leg_places hl
  obtain ⟨_, _, _, hr, q | q | q⟩ := hf
  · obtain ⟨hk, hp, hp1, hp2, _⟩ := q
    rw [nearX, if_neg (by omega), if_neg (by omega), (nearR_eq hp l1 l2 (by omega)).1] at h
    have := near_box (by omega) h
    rw [placeB_iff] at hp hp1 hp2
    unfold fbox
    simp only [if_neg (show ¬ kind = 4 by omega), if_neg (show ¬ (kind = 3 ∨ kind = 6) by omega), boxB_t]
    omega
  · obtain ⟨hk, hp, _⟩ := q
    have hk' : kind = 3 ∨ kind = 6 := by omega
    obtain ⟨hb, hv⟩ := pb_spec hp
    rw [nearX, if_neg (by omega), if_pos hk', Bool.or_eq_true, decide_eq_true_eq] at h
    unfold fbox
    simp only [if_neg (show ¬ kind = 4 by omega), if_pos hk']
    refine ⟨hv, ?_⟩
    rcases h with h | h
    · rw [(pinR_eq hp l1).1] at h
      have := in_box hp l1 hb h
      omega
    · rw [bes_true] at h
      obtain ⟨j, _, hj, hc⟩ := h
      have hj' : j < area.length := by omega
      have hc' := (closeR_eq (r := off) l1 l2 (polyB_pl hp (prv_lt hj')) (polyB_pl hp hj') (by omega)).symm.trans hc
      have := clo_box (by omega) (clo_of_close hc')
      have b1 := hb j hj'
      have b2 := hb (prv area.length j) (prv_lt hj')
      omega
  · rw [nearX, if_pos q.1] at h
    exact absurd h (by decide)
/-- A feature. -/
def fe (id kind x y rad : Int) (area : Rows) (depth sym : Int) (sc : Rows) : List D := [.i id, .i kind, .i x, .i y, .i rad, .l area, .i depth, .i sym, .l sc]
theorem fe_eq (id kind x y rad : Int) (area : Rows) (depth sym : Int) (sc : Rows) : [D.i id, .i kind, .i x, .i y, .i rad, .l area, .i depth, .i sym, .l sc] = fe id kind x y rad area depth sym sc := rfl
theorem meetE_oct (a b c d e f g h : Int) : meetE [.i a, .i b, .i c, .i d, .i e, .i f, .i g, .i h] = if ((boxB a b c d && boxB e f g h) && decide (max a e ≤ min b f ∧ max c g ≤ min d h)) then 0 else if (boxB a b c d && boxB e f g h) then 4 else 1 := rfl
theorem zones_law {a b c : Int} {r : Rows} (hp : psgB a b c r = true) {n : Nat} (hn : n < r.length) {id kind x y rad depth sym e f g h : Int} {area sc : Rows}
    (z1 : e = min (lg r n 0) (lg r n 2) - c) (z2 : f = max (lg r n 0) (lg r n 2) + c) (z3 : g = min (lg r n 1) (lg r n 3) - c) (z4 : h = max (lg r n 1) (lg r n 3) + c) (hb : boxB e f g h = true)
    (hx : nearPR (pkf a b c r n id kind x y rad area depth sym sc) = true) :
    meetE [.i (fbA (fe id kind x y rad area depth sym sc)), .i (fbB (fe id kind x y rad area depth sym sc)), .i (fbC (fe id kind x y rad area depth sym sc)), .i (fbD (fe id kind x y rad area depth sym sc)), .i e, .i f, .i g, .i h] = 0 := by
  obtain ⟨p1, p2, p3, p4⟩ := psgB_iff hp
  rw [nearPR_pkf, nearPO_pkf, Bool.and_eq_true, Bool.and_eq_true, Bool.and_eq_true] at hx
  obtain ⟨⟨_, _, hf⟩, hx⟩ := hx
  have hfe : featL (fe id kind x y rad area depth sym sc) = true := hf
  obtain ⟨m1, m2, m3⟩ := near_meet (p4 n hn) (show 0 ≤ c ∧ c ≤ 100000 by omega) (featB_iff.mp hf) hx
  have eA : fbA (fe id kind x y rad area depth sym sc) = fbox kind x rad (pbA [.l area]) (-1) := by unfold fbA; rw [hfe]; rfl
  have eB : fbB (fe id kind x y rad area depth sym sc) = fbox kind x rad (pbB [.l area]) 1 := by unfold fbB; rw [hfe]; rfl
  have eC : fbC (fe id kind x y rad area depth sym sc) = fbox kind y rad (pbC [.l area]) (-1) := by unfold fbC; rw [hfe]; rfl
  have eD : fbD (fe id kind x y rad area depth sym sc) = fbox kind y rad (pbD [.l area]) 1 := by unfold fbD; rw [hfe]; rfl
  rw [eA, eB, eC, eD, meetE_oct, m1, hb]
  have hb' := hb
  rw [boxB_t] at m1 hb'
  rw [decide_eq_true (by omega)]
  rfl
set_option maxHeartbeats 1000000 in
theorem gZonesLaw : Gives Try.prog 9 [psg, it, it, pt, feat] (fun _ => .bool true) := by
  refine GivesIf.all (fn_gives KI (by kernel_rfl) (fun ρ h => ctZone2_ok (Sees.of h 90)) (by kernel_rfl) trZonesLaw_is trZonesLaw_low (by decide) (fun W vals ds hr _ => ?_))
  simp only [trZonesLaw, TT.sat_ret, TT.sat_ite, TT.sat_ob, TT.sat_next, TT.sat_stuck, put_i, put_b, put_d, put_fi, put_fb, put_fd, Ob.ok, B.ev, E.ev, X.ev, AL.ev, cmp_t, cmp_f, arEv, V.plain, V2.plain, S.plain, S0.plain, V.val, V2.val, S.val, S0.val, bV, iV, List.all_cons, List.all_nil, Bool.and_true, Bool.and_self, envOf_i, envOf_b, envOf_d, List.map_cons, List.map_nil, true_and, Bool.not_eq_true', Bool.not_eq_false', Bool.not_not, Bool.and_eq_true, and_f, cell_lg, cell_lb, cell_lr, cmpP, val_i, val_b, val_d, aget, Nat.reduceBEq, beq_self_eq_true, Bool.false_eq_true, if_true, if_false, Nat.reduceLT, Nat.reduceSub, Nat.sub_self, Nat.lt_irrefl, KIi58, KIi54, KIi55, KIi56, KIi57, KIi53, KIb52, KIi36, KIb51, KIb77, KIi77, KIi85, KIi86, KIi87, KIi88, KIi89, KIi41, pk_eq, pkf_eq, fe_eq]
  rcases @zone_spec (iAt ds 0) (iAt ds 1) (iAt ds 2) (rAt ds 3) (iAt ds 4) with hz | ⟨hz, hp, ⟨n, hn, hn'⟩, z1, z2, z3, z4, hb⟩
  · refine ⟨fun _ => ⟨fun _ => trivial, fun q => ?_⟩, fun q => absurd hz (by omega)⟩
    rw [show zoneE (pk (iAt ds 0) (iAt ds 1) (iAt ds 2) (rAt ds 3) (iAt ds 4)) = 3 by omega]; rfl
  · have T : holdsE [.i (iAt ds 0), .i (iAt ds 1), .i (iAt ds 2), .l (rAt ds 3), .i (iAt ds 4), .i (iAt ds 5), .i (iAt ds 6), .i (iAt ds 7)] = 0 → holdsR [.i (iAt ds 0), .i (iAt ds 1), .i (iAt ds 2), .l (rAt ds 3), .i (iAt ds 4), .i (iAt ds 5), .i (iAt ds 6), .i (iAt ds 7)] = true →
        uniE [.i (iAt ds 6), .i (iAt ds 6), .i (iAt ds 7), .i (iAt ds 7), .i (zoneA (pk (iAt ds 0) (iAt ds 1) (iAt ds 2) (rAt ds 3) (iAt ds 4))), .i (zoneB (pk (iAt ds 0) (iAt ds 1) (iAt ds 2) (rAt ds 3) (iAt ds 4))), .i (zoneC (pk (iAt ds 0) (iAt ds 1) (iAt ds 2) (rAt ds 3) (iAt ds 4))), .i (zoneD (pk (iAt ds 0) (iAt ds 1) (iAt ds 2) (rAt ds 3) (iAt ds 4)))] = 0 ∧
        withinR [.i (iAt ds 6), .i (iAt ds 6), .i (iAt ds 7), .i (iAt ds 7), .i (zoneA (pk (iAt ds 0) (iAt ds 1) (iAt ds 2) (rAt ds 3) (iAt ds 4))), .i (zoneB (pk (iAt ds 0) (iAt ds 1) (iAt ds 2) (rAt ds 3) (iAt ds 4))), .i (zoneC (pk (iAt ds 0) (iAt ds 1) (iAt ds 2) (rAt ds 3) (iAt ds 4))), .i (zoneD (pk (iAt ds 0) (iAt ds 1) (iAt ds 2) (rAt ds 3) (iAt ds 4)))] = true := by
      intro _ hh
      rw [hn] at hh
      obtain ⟨hq, hi⟩ := holds_in hp hn' hh
      rw [uniE8, withinR_oct, hb, show boxB (iAt ds 6) (iAt ds 6) (iAt ds 7) (iAt ds 7) = true by rw [boxB_t]; rw [placeB_iff] at hq; omega]
      rw [← hn, ← z1, ← z2, ← z3, ← z4] at hi
      exact ⟨rfl, by rw [Bool.true_and, Bool.true_and, decide_eq_true_eq]; omega⟩
    have M : nearPR (pkf (iAt ds 0) (iAt ds 1) (iAt ds 2) (rAt ds 3) (iAt ds 4) (iAt ds 8) (iAt ds 9) (iAt ds 10) (iAt ds 11) (iAt ds 12) (rAt ds 13) (iAt ds 14) (iAt ds 15) (rAt ds 16)) = true →
        meetE [.i (fbA (fe (iAt ds 8) (iAt ds 9) (iAt ds 10) (iAt ds 11) (iAt ds 12) (rAt ds 13) (iAt ds 14) (iAt ds 15) (rAt ds 16))), .i (fbB (fe (iAt ds 8) (iAt ds 9) (iAt ds 10) (iAt ds 11) (iAt ds 12) (rAt ds 13) (iAt ds 14) (iAt ds 15) (rAt ds 16))), .i (fbC (fe (iAt ds 8) (iAt ds 9) (iAt ds 10) (iAt ds 11) (iAt ds 12) (rAt ds 13) (iAt ds 14) (iAt ds 15) (rAt ds 16))), .i (fbD (fe (iAt ds 8) (iAt ds 9) (iAt ds 10) (iAt ds 11) (iAt ds 12) (rAt ds 13) (iAt ds 14) (iAt ds 15) (rAt ds 16))), .i (zoneA (pk (iAt ds 0) (iAt ds 1) (iAt ds 2) (rAt ds 3) (iAt ds 4))), .i (zoneB (pk (iAt ds 0) (iAt ds 1) (iAt ds 2) (rAt ds 3) (iAt ds 4))), .i (zoneC (pk (iAt ds 0) (iAt ds 1) (iAt ds 2) (rAt ds 3) (iAt ds 4))), .i (zoneD (pk (iAt ds 0) (iAt ds 1) (iAt ds 2) (rAt ds 3) (iAt ds 4)))] = 0 := by
      intro hx
      rw [hn] at hx z1 z2 z3 z4 hb ⊢
      exact zones_law hp hn' z1 z2 z3 z4 hb hx
    refine ⟨fun q => absurd hz q, fun _ => ⟨fun h0 => ⟨fun h1 => ?_, fun _ => ⟨fun _ => trivial, fun _ => ⟨fun _ => trivial, fun _ => ⟨fun _ => trivial, fun hx => ?_⟩⟩⟩⟩, fun _ => ⟨fun _ => trivial, fun _ => ⟨fun _ => trivial, fun _ => ⟨fun _ => trivial, fun hx => ?_⟩⟩⟩⟩⟩
    · obtain ⟨t1, t2⟩ := T h0 h1
      refine ⟨fun _ => ⟨fun _ => ?_, fun _ => ⟨fun _ => ?_, fun _ => ⟨fun _ => ?_, fun hx => ⟨fun _ => ?_, fun q => ?_⟩⟩⟩⟩, fun q => absurd t1 q⟩
      · rw [t2]
      · rw [t2]
      · rw [t2]
      · rw [M hx]; rfl
      · rw [t2] at q; exact absurd q (by decide)
    · rw [M hx]; rfl
    · rw [M hx]; rfl
end Go.Proofs.Ytinfmmofcadjgaa
