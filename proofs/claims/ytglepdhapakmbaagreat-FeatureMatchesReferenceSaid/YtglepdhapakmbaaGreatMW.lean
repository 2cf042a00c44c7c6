/- MW, merged: Wa, TWa, Wb, Wc, TWb, Wd, We. -/
import Derived.Test.YtglepdhapakmbaaGreatMT
import Derived.Test.YtglepdhapakmbaaGreatMJ
import Derived.Test.YtglepdhapakmbaaGreatMV
set_option linter.unusedSimpArgs false
set_option linter.unusedVariables false
/- Chapter 07: what the reference of polygons says of directions, as package poly does. -/
namespace Go.Proofs.YtglepdhapakmbaaGreat
open Go.RowKit
def crDir (a b c d : Int) : Int := a * d - b * c
def opDir (r : Rows) (i : Nat) (u v : Int) : Bool :=
  if 0 < crDir (lg r (nxt r.length i) 0 - lg r i 0) (lg r (nxt r.length i) 1 - lg r i 1) (lg r (prv r.length i) 0 - lg r i 0) (lg r (prv r.length i) 1 - lg r i 1) then
    decide (0 ≤ crDir (lg r (nxt r.length i) 0 - lg r i 0) (lg r (nxt r.length i) 1 - lg r i 1) u v) && decide (0 ≤ crDir u v (lg r (prv r.length i) 0 - lg r i 0) (lg r (prv r.length i) 1 - lg r i 1))
  else !(decide (0 < crDir (lg r (prv r.length i) 0 - lg r i 0) (lg r (prv r.length i) 1 - lg r i 1) u v) && decide (0 < crDir u v (lg r (nxt r.length i) 0 - lg r i 0) (lg r (nxt r.length i) 1 - lg r i 1)))
theorem opB_V {r : Rows} (hr : polyB r = true) {i : Nat} (hi : i < r.length) {x y : Int} (hq : placeB x y = true) : opB r i x y = opDir r i (x - lg r i 0) (y - lg r i 1) := by
  have p0 : placeB (lg r i 0) (lg r i 1) = true := polyB_pl hr hi
  have p1 : placeB (lg r (nxt r.length i) 0) (lg r (nxt r.length i) 1) = true := polyB_pl hr (nxt_lt hi)
  have p2 : placeB (lg r (prv r.length i) 0) (lg r (prv r.length i) 1) = true := polyB_pl hr (prv_lt hi)
  unfold opB opDir
  rw [turnR_eq p2 p0 p1, turnR_eq p0 p1 hq, turnR_eq p0 hq p2, turnR_eq p0 p2 hq, turnR_eq p0 hq p1]
  unfold turnI
  have nn : ∀ n : Int, 0 ≤ sgn n ↔ 0 ≤ n := fun n => by unfold sgn; split <;> (try split) <;> omega
  have np : ∀ n : Int, sgn n ≤ 0 ↔ n ≤ 0 := fun n => by unfold sgn; split <;> (try split) <;> omega
  simp only [sgn_p, nn, np]
  generalize lg r i 0 = a
  generalize lg r i 1 = b
  generalize lg r (nxt r.length i) 0 = c
  generalize lg r (nxt r.length i) 1 = d
  generalize lg r (prv r.length i) 0 = e
  generalize lg r (prv r.length i) 1 = f
  have e1 : crossI e f a b c d = crDir (c - a) (d - b) (e - a) (f - b) := by unfold crossI crDir; grind
  have e2 : crossI a b c d x y = crDir (c - a) (d - b) (x - a) (y - b) := by unfold crossI crDir; grind
  have e3 : crossI a b x y e f = crDir (x - a) (y - b) (e - a) (f - b) := by unfold crossI crDir; grind
  have e4 : crossI a b e f x y = crDir (e - a) (f - b) (x - a) (y - b) := by unfold crossI crDir; grind
  have e5 : crossI a b x y c d = crDir (x - a) (y - b) (c - a) (d - b) := by unfold crossI crDir; grind
  rw [e1, e2, e3, e4, e5]
  split
  · rfl
  · generalize crDir (e - a) (f - b) (x - a) (y - b) = s
    generalize crDir (x - a) (y - b) (c - a) (d - b) = t
    rw [Bool.eq_iff_iff]
    simp only [Bool.or_eq_true, Bool.not_eq_true', Bool.and_eq_false_iff, decide_eq_true_eq, decide_eq_false_iff_not]
    omega
theorem pos_mul {k m x y : Int} (hk : 0 < k) (hm : 0 < m) (h : k * x = m * y) : (0 ≤ x ↔ 0 ≤ y) ∧ (0 < x ↔ 0 < y) := by
  have a1 : 0 ≤ x → 0 ≤ y := fun hx => by
    have := Int.mul_nonneg (Int.le_of_lt hk) hx
    rcases Int.lt_or_le y 0 with hy | hy
    · have := Int.mul_pos_of_neg_of_neg (a := y) (b := -m) hy (by omega)
      have : y * -m = -(m * y) := by grind
      omega
    · exact hy
  have a2 : 0 ≤ y → 0 ≤ x := fun hy => by
    have := Int.mul_nonneg (Int.le_of_lt hm) hy
    rcases Int.lt_or_le x 0 with hx | hx
    · have := Int.mul_pos_of_neg_of_neg (a := x) (b := -k) hx (by omega)
      have : x * -k = -(k * x) := by grind
      omega
    · exact hx
  have z1 : x = 0 → y = 0 := fun hx => by
    subst hx
    rw [Int.mul_zero] at h
    rcases Int.mul_eq_zero.mp h.symm with q | q <;> omega
  have z2 : y = 0 → x = 0 := fun hy => by
    subst hy
    rw [Int.mul_zero] at h
    rcases Int.mul_eq_zero.mp h with q | q <;> omega
  exact ⟨⟨a1, a2⟩, ⟨fun hx => by have := a1 (by omega); rcases Int.lt_trichotomy y 0 with q | q | q <;> first | omega | (have := z2 q; omega), fun hy => by have := a2 (by omega); rcases Int.lt_trichotomy x 0 with q | q | q <;> first | omega | (have := z1 q; omega)⟩⟩
theorem opDir_scale {r : Rows} {i : Nat} {k m u v u' v' : Int} (hk : 0 < k) (hm : 0 < m) (hu : k * u' = m * u) (hv : k * v' = m * v) : opDir r i u' v' = opDir r i u v := by
  unfold opDir
  generalize lg r (nxt r.length i) 0 - lg r i 0 = a
  generalize lg r (nxt r.length i) 1 - lg r i 1 = b
  generalize lg r (prv r.length i) 0 - lg r i 0 = c
  generalize lg r (prv r.length i) 1 - lg r i 1 = d
  have e1 : ∀ s t : Int, k * crDir s t u' v' = m * crDir s t u v := fun s t => by unfold crDir; grind
  have e2 : ∀ s t : Int, k * crDir u' v' s t = m * crDir u v s t := fun s t => by unfold crDir; grind
  have f1 := fun s t => pos_mul hk hm (e1 s t)
  have f2 := fun s t => pos_mul hk hm (e2 s t)
  simp only [(f1 _ _).1, (f1 _ _).2, (f2 _ _).1, (f2 _ _).2]
theorem on_mid {px py ax ay bx b : Int} (h : onB px py ax ay bx b = true) (hb : ¬ (px = bx ∧ py = b)) : ∃ k m, 0 < k ∧ 0 < m ∧ k * (bx - px) = m * (bx - ax) ∧ k * (b - py) = m * (b - ay) := by
  unfold onB turnI at h
  rw [decide_eq_true_eq, sgn0] at h
  obtain ⟨h0, h1, h2, h3, h4⟩ := h
  unfold crossI at h0
  by_cases e : ax = bx
  · subst e
    have hx : px = ax := by omega
    subst hx
    have hne : py ≠ b := fun q => hb ⟨rfl, q⟩
    rcases Int.lt_or_le ay b with q | q
    · exact ⟨b - ay, b - py, by omega, by omega, by grind, by grind⟩
    · exact ⟨ay - b, py - b, by omega, by omega, by grind, by grind⟩
  · have hpx : px ≠ bx := fun q => by
      subst q
      have : (px - ax) * (py - b) = 0 := by grind
      rcases Int.mul_eq_zero.mp this with q | q
      · omega
      · exact hb ⟨rfl, by omega⟩
    rcases Int.lt_or_le ax bx with q | q
    · exact ⟨bx - ax, bx - px, by omega, by omega, by grind, by grind⟩
    · exact ⟨ax - bx, px - bx, by omega, by omega, by grind, by grind⟩
theorem opB_mid {r : Rows} (hr : polyB r = true) {i : Nat} (hi : i < r.length) {ax ay bx b : Int} (hB : placeB bx b = true) (h : onB (lg r i 0) (lg r i 1) ax ay bx b = true) (hb : ¬ (lg r i 0 = bx ∧ lg r i 1 = b)) :
    opB r i bx b = opDir r i (bx - ax) (b - ay) := by
  rw [opB_V hr hi hB]
  obtain ⟨k, m, hk, hm, e1, e2⟩ := on_mid h hb
  exact opDir_scale hk hm e1 e2
theorem onB_swap' {x y a b c d : Int} : onB x y c d a b = onB x y a b c d := by
  have key : ∀ {a b c d : Int}, onB x y a b c d = true → onB x y c d a b = true := fun {a b c d} h => by
    unfold onB turnI at h ⊢
    rw [decide_eq_true_eq, sgn0] at h ⊢
    obtain ⟨h0, h1, h2, h3, h4⟩ := h
    refine ⟨?_, by omega, by omega, by omega, by omega⟩
    unfold crossI at h0 ⊢
    grind
  rw [Bool.eq_iff_iff]
  exact ⟨key, key⟩
theorem turn_dir {px py nx ny ax ay bx b : Int} (h : onB ax ay px py nx ny = true) : 0 ≤ turnI px py nx ny bx b ↔ 0 ≤ crDir (nx - px) (ny - py) (bx - ax) (b - ay) := by
  unfold onB turnI at h
  rw [decide_eq_true_eq, sgn0] at h
  have h0 := h.1
  unfold turnI
  have nn : ∀ n : Int, 0 ≤ sgn n ↔ 0 ≤ n := fun n => by unfold sgn; split <;> (try split) <;> omega
  rw [nn]
  have e : crossI px py nx ny bx b = crDir (nx - px) (ny - py) (bx - ax) (b - ay) + crossI px py nx ny ax ay := by unfold crossI crDir; grind
  rw [e, h0, Int.add_zero]
def leDirE (r : Rows) (x y u v : Int) : Nat → Nat → Bool
  | 0, _ => true
  | f + 1, i => if onB x y (lg r i 0) (lg r i 1) (lg r (nxt r.length i) 0) (lg r (nxt r.length i) 1) then decide (0 ≤ crDir (lg r (nxt r.length i) 0 - lg r i 0) (lg r (nxt r.length i) 1 - lg r i 1) u v) else leDirE r x y u v f (i + 1)
def leDir (r : Rows) (x y u v : Int) : Nat → Nat → Bool
  | 0, _ => leDirE r x y u v r.length 0
  | f + 1, i => if lg r i 0 = x ∧ lg r i 1 = y then opDir r i u v else leDir r x y u v f (i + 1)
theorem leE_V {r : Rows} (hr : polyB r = true) {x y s t : Int} (h1 : placeB x y = true) (h2 : placeB s t = true) : ∀ (f i : Nat), i + f ≤ r.length → leE r x y s t f i = leDirE r x y (s - x) (t - y) f i
  | 0, _, _ => rfl
  | f + 1, i, h => by
    have hi : i < r.length := by omega
    have p0 : placeB (lg r i 0) (lg r i 1) = true := polyB_pl hr hi
    have p1 : placeB (lg r (nxt r.length i) 0) (lg r (nxt r.length i) 1) = true := polyB_pl hr (nxt_lt hi)
    rw [leE, leDirE, leE_V hr h1 h2 f (i + 1) (by omega)]
    unfold onE
    rw [onR_eq h1 p0 p1, turnR_eq p0 p1 h2]
    split
    · rename_i c
      simp only [turn_dir c]
    · rfl
theorem leN_V {r : Rows} (hr : polyB r = true) {x y s t : Int} (h1 : placeB x y = true) (h2 : placeB s t = true) : ∀ (f i : Nat), i + f ≤ r.length → leN r x y s t f i = leDir r x y (s - x) (t - y) f i
  | 0, _, _ => leE_V hr h1 h2 _ _ (by omega)
  | f + 1, i, h => by
    rw [leN, leDir, leN_V hr h1 h2 f (i + 1) (by omega)]
    by_cases e : x = lg r i 0 ∧ y = lg r i 1
    · rw [if_pos e, if_pos (by omega), opB_V hr (by omega) h2, ← e.1, ← e.2]
    · rw [if_neg e, if_neg (by omega)]
def wiDir (r : Rows) (ax ay bx b : Int) (i : Nat) : Bool :=
  !(decide (turnI ax ay bx b (lg r i 0) (lg r i 1) * turnI ax ay bx b (lg r (nxt r.length i) 0) (lg r (nxt r.length i) 1) < 0) && decide (turnI (lg r i 0) (lg r i 1) (lg r (nxt r.length i) 0) (lg r (nxt r.length i) 1) ax ay * turnI (lg r i 0) (lg r i 1) (lg r (nxt r.length i) 0) (lg r (nxt r.length i) 1) bx b < 0)) &&
  !(onB (lg r i 0) (lg r i 1) ax ay bx b && (decide (¬ (lg r i 0 = ax ∧ lg r i 1 = ay)) && (decide (¬ (lg r i 0 = bx ∧ lg r i 1 = b)) && (!opDir r i (bx - ax) (b - ay) || !opDir r i (ax - bx) (ay - b)))))
theorem phI_wi {r : Rows} (hr : polyB r = true) {ax ay bx b : Int} (hA : placeB ax ay = true) (hB : placeB bx b = true) {i : Nat} (hi : i < r.length) : phI r ax ay bx b i = wiDir r ax ay bx b i := by
  have p0 : placeB (lg r i 0) (lg r i 1) = true := polyB_pl hr hi
  have p1 : placeB (lg r (nxt r.length i) 0) (lg r (nxt r.length i) 1) = true := polyB_pl hr (nxt_lt hi)
  unfold phI phC wiDir tur
  rw [turnR_eq hA hB p0, turnR_eq hA hB p1, turnR_eq p0 p1 hA, turnR_eq p0 p1 hB, onR_eq p0 hA hB]
  rw [show decide (turnI ax ay bx b (lg r i 0) (lg r i 1) * turnI ax ay bx b (lg r (nxt r.length i) 0) (lg r (nxt r.length i) 1) < 0 ∧ turnI (lg r i 0) (lg r i 1) (lg r (nxt r.length i) 0) (lg r (nxt r.length i) 1) ax ay * turnI (lg r i 0) (lg r i 1) (lg r (nxt r.length i) 0) (lg r (nxt r.length i) 1) bx b < 0) = (decide (turnI ax ay bx b (lg r i 0) (lg r i 1) * turnI ax ay bx b (lg r (nxt r.length i) 0) (lg r (nxt r.length i) 1) < 0) && decide (turnI (lg r i 0) (lg r i 1) (lg r (nxt r.length i) 0) (lg r (nxt r.length i) 1) ax ay * turnI (lg r i 0) (lg r i 1) (lg r (nxt r.length i) 0) (lg r (nxt r.length i) 1) bx b < 0)) from by rw [Bool.decide_and]]
  congr 1
  by_cases h1 : lg r i 0 = ax ∧ lg r i 1 = ay
  · simp [h1]
  by_cases h2 : lg r i 0 = bx ∧ lg r i 1 = b
  · simp [h2]
  rw [decide_eq_false (p := (lg r i 0 = ax ∧ lg r i 1 = ay) ∨ (lg r i 0 = bx ∧ lg r i 1 = b)) (by omega), decide_eq_true (p := ¬ (lg r i 0 = ax ∧ lg r i 1 = ay)) h1, decide_eq_true (p := ¬ (lg r i 0 = bx ∧ lg r i 1 = b)) h2]
  cases ho : onB (lg r i 0) (lg r i 1) ax ay bx b with
  | false => rfl
  | true =>
    rw [opB_mid hr hi hB ho h2, opB_mid (ax := bx) (ay := b) hr hi hA (by rw [onB_swap']; exact ho) h1]
    cases opDir r i (bx - ax) (b - ay) <;> cases opDir r i (ax - bx) (ay - b) <;> rfl
theorem touX_ge {p q : Rows} (hp : polyB p = true) (hq : polyB q = true) : touX p q = (tmN p q p.length 0 || (decide (0 ≤ placeN q (lg p 0 0) (lg p 0 1) q.length 0 false) || decide (0 ≤ placeN p (lg q 0 0) (lg q 0 1) p.length 0 false))) := by
  rw [Bool.eq_iff_iff]
  constructor
  · intro h
    unfold touX at h
    simp only [Bool.or_eq_true, decide_eq_true_eq] at h ⊢
    rcases h with h | h | h
    · exact .inl h
    · exact .inr (.inr (by omega))
    · exact .inr (.inl (by omega))
  · intro h
    simp only [Bool.or_eq_true, decide_eq_true_eq] at h
    rcases h with h | h | h
    · unfold touX; rw [h]; rfl
    · rw [touX_comm hq hp]; exact tou_corner hq hp h
    · exact tou_corner hp hq h
theorem apart_near {px py ax ay bx b d : Int} : apartB px py ax ay bx b d = !(if dotI ax ay bx b px py ≤ 0 then decide (dist2 ax ay px py < d * d) else if dist2 ax ay bx b ≤ dotI ax ay bx b px py then decide (dist2 bx b px py < d * d) else decide (crossI ax ay bx b px py * crossI ax ay bx b px py < d * d * dist2 ax ay bx b)) := by
  unfold apartB
  split
  · rw [Bool.eq_iff_iff]; simp only [decide_eq_true_eq, Bool.not_eq_true', decide_eq_false_iff_not]; omega
  · split <;> (rw [Bool.eq_iff_iff]; simp only [decide_eq_true_eq, Bool.not_eq_true', decide_eq_false_iff_not]; omega)
end Go.Proofs.YtglepdhapakmbaaGreat
/- Chapter 07: trees of the reference of layer 3: opens, nearer, Box, Touch; of layer 5: At. -/
namespace Go.Proofs.YtglepdhapakmbaaGreat
open Go.RowKit
-- term trR3O: call Tryz.prog ctR8 (Lt.of []) 100 105 (symArgs 0 [pts, it, pt]) [] 0
def trR3O : TT OpR :=
(.ob (.tru (.cmp .neq (.len (.var 0)) (.lit 0)))
(.ob (.tru (.cmp .leq (.lit 0) (.ar .rem .i64 (.ar .add .i64 (.var 1) (.lit 1)) (.len (.var 0)))))
(.ob (.tru (.cmp .lss (.ar .rem .i64 (.ar .add .i64 (.var 1) (.lit 1)) (.len (.var 0))) (.len (.var 0))))
(.ob (.tru (.cmp .leq (.lit 0) (.var 1)))
(.ob (.tru (.cmp .lss (.var 1) (.len (.var 0))))
(.ob (.tru (.cmp .neq (.len (.var 0)) (.lit 0)))
(.ob (.tru (.cmp .leq (.lit 0) (.ar .rem .i64 (.ar .sub .i64 (.ar .add .i64 (.var 1) (.len (.var 0))) (.lit 1)) (.len (.var 0)))))
(.ob (.tru (.cmp .lss (.ar .rem .i64 (.ar .sub .i64 (.ar .add .i64 (.var 1) (.len (.var 0))) (.lit 1)) (.len (.var 0))) (.len (.var 0))))
(.ob (.tru (.cmp .leq (.lit 0) (.var 1)))
(.ob (.tru (.cmp .lss (.var 1) (.len (.var 0))))
(.ite (.cmp .gtr (.ar .sub .i64 (.ar .mul .i64 (.ar .sub .i64 (.rd (.var 0) (.ar .rem .i64 (.ar .add .i64 (.var 1) (.lit 1)) (.len (.var 0))) 0) (.rd (.var 0) (.var 1) 0)) (.ar .sub .i64 (.rd (.var 0) (.ar .rem .i64 (.ar .sub .i64 (.ar .add .i64 (.var 1) (.len (.var 0))) (.lit 1)) (.len (.var 0))) 1) (.rd (.var 0) (.var 1) 1))) (.ar .mul .i64 (.ar .sub .i64 (.rd (.var 0) (.ar .rem .i64 (.ar .add .i64 (.var 1) (.lit 1)) (.len (.var 0))) 1) (.rd (.var 0) (.var 1) 1)) (.ar .sub .i64 (.rd (.var 0) (.ar .rem .i64 (.ar .sub .i64 (.ar .add .i64 (.var 1) (.len (.var 0))) (.lit 1)) (.len (.var 0))) 0) (.rd (.var 0) (.var 1) 0)))) (.lit 0))
 (.ite (.cmp .geq (.ar .sub .i64 (.ar .mul .i64 (.ar .sub .i64 (.rd (.var 0) (.ar .rem .i64 (.ar .add .i64 (.var 1) (.lit 1)) (.len (.var 0))) 0) (.rd (.var 0) (.var 1) 0)) (.var 3)) (.ar .mul .i64 (.ar .sub .i64 (.rd (.var 0) (.ar .rem .i64 (.ar .add .i64 (.var 1) (.lit 1)) (.len (.var 0))) 1) (.rd (.var 0) (.var 1) 1)) (.var 2))) (.lit 0))
 (.ret ((.v (.one (.z (.bool (.cmp .geq (.ar .sub .i64 (.ar .mul .i64 (.var 2) (.ar .sub .i64 (.rd (.var 0) (.ar .rem .i64 (.ar .sub .i64 (.ar .add .i64 (.var 1) (.len (.var 0))) (.lit 1)) (.len (.var 0))) 1) (.rd (.var 0) (.var 1) 1))) (.ar .mul .i64 (.var 3) (.ar .sub .i64 (.rd (.var 0) (.ar .rem .i64 (.ar .sub .i64 (.ar .add .i64 (.var 1) (.len (.var 0))) (.lit 1)) (.len (.var 0))) 0) (.rd (.var 0) (.var 1) 0)))) (.lit 0)))))), [], 16))
 (.ret ((.v (.one (.z (.bool (.lit false))))), [], 14)))
 (.ite (.cmp .gtr (.ar .sub .i64 (.ar .mul .i64 (.ar .sub .i64 (.rd (.var 0) (.ar .rem .i64 (.ar .sub .i64 (.ar .add .i64 (.var 1) (.len (.var 0))) (.lit 1)) (.len (.var 0))) 0) (.rd (.var 0) (.var 1) 0)) (.var 3)) (.ar .mul .i64 (.ar .sub .i64 (.rd (.var 0) (.ar .rem .i64 (.ar .sub .i64 (.ar .add .i64 (.var 1) (.len (.var 0))) (.lit 1)) (.len (.var 0))) 1) (.rd (.var 0) (.var 1) 1)) (.var 2))) (.lit 0))
 (.ret ((.v (.one (.z (.bool (.not (.cmp .gtr (.ar .sub .i64 (.ar .mul .i64 (.var 2) (.ar .sub .i64 (.rd (.var 0) (.ar .rem .i64 (.ar .add .i64 (.var 1) (.lit 1)) (.len (.var 0))) 1) (.rd (.var 0) (.var 1) 1))) (.ar .mul .i64 (.var 3) (.ar .sub .i64 (.rd (.var 0) (.ar .rem .i64 (.ar .add .i64 (.var 1) (.lit 1)) (.len (.var 0))) 0) (.rd (.var 0) (.var 1) 0)))) (.lit 0))))))), [], 16))
 (.ret ((.v (.one (.z (.bool (.lit true))))), [], 14))))))))))))))
-- end trR3O
set_option maxRecDepth 100000 in
theorem trR3O_is : T.norm 0 (call Tryz.prog ctR8 (Lt.of []) 100 105 (symArgs 0 [pts, it, pt]) [] 0) TT.ret = trR3O := by kernel_rfl
theorem trR3O_low : trR3O.low 1000 = true := by kernel_rfl
-- term trR3N: call Tryz.prog ctR8 (Lt.of []) 100 88 (symArgs 0 [pt, pt, pt, it]) [] 0
def trR3N : TT OpR :=
(.ite (.cmp .leq (.ar .add .i64 (.ar .mul .i64 (.ar .sub .i64 (.var 4) (.var 2)) (.ar .sub .i64 (.var 0) (.var 2))) (.ar .mul .i64 (.ar .sub .i64 (.var 5) (.var 3)) (.ar .sub .i64 (.var 1) (.var 3)))) (.lit 0))
 (.ret ((.v (.one (.z (.bool (.cmp .lss (.ar .add .i64 (.ar .mul .i64 (.ar .sub .i64 (.var 0) (.var 2)) (.ar .sub .i64 (.var 0) (.var 2))) (.ar .mul .i64 (.ar .sub .i64 (.var 1) (.var 3)) (.ar .sub .i64 (.var 1) (.var 3)))) (.ar .mul .i64 (.var 6) (.var 6))))))), [], 17))
 (.ite (.cmp .geq (.ar .add .i64 (.ar .mul .i64 (.ar .sub .i64 (.var 4) (.var 2)) (.ar .sub .i64 (.var 0) (.var 2))) (.ar .mul .i64 (.ar .sub .i64 (.var 5) (.var 3)) (.ar .sub .i64 (.var 1) (.var 3)))) (.ar .add .i64 (.ar .mul .i64 (.ar .sub .i64 (.var 4) (.var 2)) (.ar .sub .i64 (.var 4) (.var 2))) (.ar .mul .i64 (.ar .sub .i64 (.var 5) (.var 3)) (.ar .sub .i64 (.var 5) (.var 3)))))
 (.ret ((.v (.one (.z (.bool (.cmp .lss (.ar .add .i64 (.ar .mul .i64 (.ar .sub .i64 (.var 4) (.var 0)) (.ar .sub .i64 (.var 4) (.var 0))) (.ar .mul .i64 (.ar .sub .i64 (.var 5) (.var 1)) (.ar .sub .i64 (.var 5) (.var 1)))) (.ar .mul .i64 (.var 6) (.var 6))))))), [], 25))
 (.ob (.tru (.cmp .leq (.lit 0) (.ar .mul .i64 (.var 6) (.var 6))))
 (.ob (.tru (.cmp .lss (.ar .mul .i64 (.var 6) (.var 6)) (.lit 17592186044416)))
 (.ob (.tru (.cmp .leq (.lit 0) (.ar .add .i64 (.ar .mul .i64 (.ar .sub .i64 (.var 4) (.var 2)) (.ar .sub .i64 (.var 4) (.var 2))) (.ar .mul .i64 (.ar .sub .i64 (.var 5) (.var 3)) (.ar .sub .i64 (.var 5) (.var 3))))))
 (.ob (.tru (.cmp .lss (.ar .add .i64 (.ar .mul .i64 (.ar .sub .i64 (.var 4) (.var 2)) (.ar .sub .i64 (.var 4) (.var 2))) (.ar .mul .i64 (.ar .sub .i64 (.var 5) (.var 3)) (.ar .sub .i64 (.var 5) (.var 3)))) (.lit 17592186044416)))
 (.ob (.tru (.cmp .leq (.lit 0) (.mx (.ar .sub .i64 (.ar .mul .i64 (.ar .sub .i64 (.var 4) (.var 2)) (.ar .sub .i64 (.var 1) (.var 3))) (.ar .mul .i64 (.ar .sub .i64 (.var 5) (.var 3)) (.ar .sub .i64 (.var 0) (.var 2)))) (.ar .sub .i64 (.lit 0) (.ar .sub .i64 (.ar .mul .i64 (.ar .sub .i64 (.var 4) (.var 2)) (.ar .sub .i64 (.var 1) (.var 3))) (.ar .mul .i64 (.ar .sub .i64 (.var 5) (.var 3)) (.ar .sub .i64 (.var 0) (.var 2))))))))
 (.ob (.tru (.cmp .lss (.mx (.ar .sub .i64 (.ar .mul .i64 (.ar .sub .i64 (.var 4) (.var 2)) (.ar .sub .i64 (.var 1) (.var 3))) (.ar .mul .i64 (.ar .sub .i64 (.var 5) (.var 3)) (.ar .sub .i64 (.var 0) (.var 2)))) (.ar .sub .i64 (.lit 0) (.ar .sub .i64 (.ar .mul .i64 (.ar .sub .i64 (.var 4) (.var 2)) (.ar .sub .i64 (.var 1) (.var 3))) (.ar .mul .i64 (.ar .sub .i64 (.var 5) (.var 3)) (.ar .sub .i64 (.var 0) (.var 2)))))) (.lit 17592186044416)))
 (.ob (.tru (.cmp .leq (.lit 0) (.mx (.ar .sub .i64 (.ar .mul .i64 (.ar .sub .i64 (.var 4) (.var 2)) (.ar .sub .i64 (.var 1) (.var 3))) (.ar .mul .i64 (.ar .sub .i64 (.var 5) (.var 3)) (.ar .sub .i64 (.var 0) (.var 2)))) (.ar .sub .i64 (.lit 0) (.ar .sub .i64 (.ar .mul .i64 (.ar .sub .i64 (.var 4) (.var 2)) (.ar .sub .i64 (.var 1) (.var 3))) (.ar .mul .i64 (.ar .sub .i64 (.var 5) (.var 3)) (.ar .sub .i64 (.var 0) (.var 2))))))))
 (.ob (.tru (.cmp .lss (.mx (.ar .sub .i64 (.ar .mul .i64 (.ar .sub .i64 (.var 4) (.var 2)) (.ar .sub .i64 (.var 1) (.var 3))) (.ar .mul .i64 (.ar .sub .i64 (.var 5) (.var 3)) (.ar .sub .i64 (.var 0) (.var 2)))) (.ar .sub .i64 (.lit 0) (.ar .sub .i64 (.ar .mul .i64 (.ar .sub .i64 (.var 4) (.var 2)) (.ar .sub .i64 (.var 1) (.var 3))) (.ar .mul .i64 (.ar .sub .i64 (.var 5) (.var 3)) (.ar .sub .i64 (.var 0) (.var 2)))))) (.lit 17592186044416)))
 (.ite (.cmp .lss (.fn 91 (.i (.ar .mul .i64 (.var 6) (.var 6)) (.i (.ar .add .i64 (.ar .mul .i64 (.ar .sub .i64 (.var 4) (.var 2)) (.ar .sub .i64 (.var 4) (.var 2))) (.ar .mul .i64 (.ar .sub .i64 (.var 5) (.var 3)) (.ar .sub .i64 (.var 5) (.var 3)))) .nil))) (.fn 91 (.i (.mx (.ar .sub .i64 (.ar .mul .i64 (.ar .sub .i64 (.var 4) (.var 2)) (.ar .sub .i64 (.var 1) (.var 3))) (.ar .mul .i64 (.ar .sub .i64 (.var 5) (.var 3)) (.ar .sub .i64 (.var 0) (.var 2)))) (.ar .sub .i64 (.lit 0) (.ar .sub .i64 (.ar .mul .i64 (.ar .sub .i64 (.var 4) (.var 2)) (.ar .sub .i64 (.var 1) (.var 3))) (.ar .mul .i64 (.ar .sub .i64 (.var 5) (.var 3)) (.ar .sub .i64 (.var 0) (.var 2)))))) (.i (.mx (.ar .sub .i64 (.ar .mul .i64 (.ar .sub .i64 (.var 4) (.var 2)) (.ar .sub .i64 (.var 1) (.var 3))) (.ar .mul .i64 (.ar .sub .i64 (.var 5) (.var 3)) (.ar .sub .i64 (.var 0) (.var 2)))) (.ar .sub .i64 (.lit 0) (.ar .sub .i64 (.ar .mul .i64 (.ar .sub .i64 (.var 4) (.var 2)) (.ar .sub .i64 (.var 1) (.var 3))) (.ar .mul .i64 (.ar .sub .i64 (.var 5) (.var 3)) (.ar .sub .i64 (.var 0) (.var 2)))))) .nil))))
 (.ret ((.v (.one (.z (.bool (.lit false))))), [], 19))
 (.ite (.cmp .eql (.fn 91 (.i (.ar .mul .i64 (.var 6) (.var 6)) (.i (.ar .add .i64 (.ar .mul .i64 (.ar .sub .i64 (.var 4) (.var 2)) (.ar .sub .i64 (.var 4) (.var 2))) (.ar .mul .i64 (.ar .sub .i64 (.var 5) (.var 3)) (.ar .sub .i64 (.var 5) (.var 3)))) .nil))) (.fn 91 (.i (.mx (.ar .sub .i64 (.ar .mul .i64 (.ar .sub .i64 (.var 4) (.var 2)) (.ar .sub .i64 (.var 1) (.var 3))) (.ar .mul .i64 (.ar .sub .i64 (.var 5) (.var 3)) (.ar .sub .i64 (.var 0) (.var 2)))) (.ar .sub .i64 (.lit 0) (.ar .sub .i64 (.ar .mul .i64 (.ar .sub .i64 (.var 4) (.var 2)) (.ar .sub .i64 (.var 1) (.var 3))) (.ar .mul .i64 (.ar .sub .i64 (.var 5) (.var 3)) (.ar .sub .i64 (.var 0) (.var 2)))))) (.i (.mx (.ar .sub .i64 (.ar .mul .i64 (.ar .sub .i64 (.var 4) (.var 2)) (.ar .sub .i64 (.var 1) (.var 3))) (.ar .mul .i64 (.ar .sub .i64 (.var 5) (.var 3)) (.ar .sub .i64 (.var 0) (.var 2)))) (.ar .sub .i64 (.lit 0) (.ar .sub .i64 (.ar .mul .i64 (.ar .sub .i64 (.var 4) (.var 2)) (.ar .sub .i64 (.var 1) (.var 3))) (.ar .mul .i64 (.ar .sub .i64 (.var 5) (.var 3)) (.ar .sub .i64 (.var 0) (.var 2)))))) .nil))))
 (.ret ((.v (.one (.z (.bool (.not (.cmp .leq (.fn 92 (.i (.ar .mul .i64 (.var 6) (.var 6)) (.i (.ar .add .i64 (.ar .mul .i64 (.ar .sub .i64 (.var 4) (.var 2)) (.ar .sub .i64 (.var 4) (.var 2))) (.ar .mul .i64 (.ar .sub .i64 (.var 5) (.var 3)) (.ar .sub .i64 (.var 5) (.var 3)))) .nil))) (.fn 92 (.i (.mx (.ar .sub .i64 (.ar .mul .i64 (.ar .sub .i64 (.var 4) (.var 2)) (.ar .sub .i64 (.var 1) (.var 3))) (.ar .mul .i64 (.ar .sub .i64 (.var 5) (.var 3)) (.ar .sub .i64 (.var 0) (.var 2)))) (.ar .sub .i64 (.lit 0) (.ar .sub .i64 (.ar .mul .i64 (.ar .sub .i64 (.var 4) (.var 2)) (.ar .sub .i64 (.var 1) (.var 3))) (.ar .mul .i64 (.ar .sub .i64 (.var 5) (.var 3)) (.ar .sub .i64 (.var 0) (.var 2)))))) (.i (.mx (.ar .sub .i64 (.ar .mul .i64 (.ar .sub .i64 (.var 4) (.var 2)) (.ar .sub .i64 (.var 1) (.var 3))) (.ar .mul .i64 (.ar .sub .i64 (.var 5) (.var 3)) (.ar .sub .i64 (.var 0) (.var 2)))) (.ar .sub .i64 (.lit 0) (.ar .sub .i64 (.ar .mul .i64 (.ar .sub .i64 (.var 4) (.var 2)) (.ar .sub .i64 (.var 1) (.var 3))) (.ar .mul .i64 (.ar .sub .i64 (.var 5) (.var 3)) (.ar .sub .i64 (.var 0) (.var 2)))))) .nil))))))))), [], 19))
 (.ret ((.v (.one (.z (.bool (.lit true))))), [], 19))))))))))))))
-- end trR3N
set_option maxRecDepth 100000 in
theorem trR3N_is : T.norm 0 (call Tryz.prog ctR8 (Lt.of []) 100 88 (symArgs 0 [pt, pt, pt, it]) [] 0) TT.ret = trR3N := by kernel_rfl
theorem trR3N_low : trR3N.low 1000 = true := by kernel_rfl
-- term trR3B: call Tryz.prog ctR8 (Lt.of []) 100 44 (symArgs 0 [pts]) [] 0
def trR3B : TT OpR :=
(.ite (.not (.fn 69 (.x (.var 0) .nil)))
 (.ret ((.tup [(.agg [(.z (.int .i64 (.lit 0))), (.z (.int .i64 (.lit 0))), (.z (.int .i64 (.lit 0))), (.z (.int .i64 (.lit 0)))]), (.one (.z (.int .i64 (.lit 1))))]), [], 1))
 (.ob (.tru (.lit true))
 (.ob (.tru (.cmp .lss (.lit 0) (.len (.var 0))))
 (.ob (.tru (.lit true))
 (.ob (.tru (.cmp .lss (.lit 0) (.len (.var 0))))
 (.ob (.tru (.lit true))
 (.ob (.tru (.cmp .lss (.lit 0) (.len (.var 0))))
 (.ob (.tru (.lit true))
 (.ob (.tru (.cmp .lss (.lit 0) (.len (.var 0))))
 (.loop 0 3000 ⟨[(0, (.lit 0)), (1, (.rd (.var 0) (.lit 0) 0)), (2, (.rd (.var 0) (.lit 0) 0)), (3, (.rd (.var 0) (.lit 0) 1)), (4, (.rd (.var 0) (.lit 0) 1))], [], []⟩
 (.ite (.cmp .lss (.var 3000) (.len (.var 0)))
 (.ob (.tru (.cmp .leq (.lit 0) (.var 3000)))
 (.ob (.tru (.cmp .lss (.var 3000) (.len (.var 0))))
 (.ob (.tru (.cmp .leq (.lit 0) (.var 3000)))
 (.ob (.tru (.cmp .lss (.var 3000) (.len (.var 0))))
 (.ob (.tru (.cmp .leq (.lit 0) (.var 3000)))
 (.ob (.tru (.cmp .lss (.var 3000) (.len (.var 0))))
 (.ob (.tru (.cmp .leq (.lit 0) (.var 3000)))
 (.ob (.tru (.cmp .lss (.var 3000) (.len (.var 0))))
 (.next 0 ⟨[(0, (.ar .add .i64 (.var 3000) (.lit 1))), (1, (.mn (.var 3001) (.rd (.var 0) (.var 3000) 0))), (2, (.mx (.var 3002) (.rd (.var 0) (.var 3000) 0))), (3, (.mn (.var 3003) (.rd (.var 0) (.var 3000) 1))), (4, (.mx (.var 3004) (.rd (.var 0) (.var 3000) 1)))], [], []⟩)))))))))
 (.ret ((.tup [(.agg [(.z (.int .i64 (.var 3001))), (.z (.int .i64 (.var 3002))), (.z (.int .i64 (.var 3003))), (.z (.int .i64 (.var 3004)))]), (.one (.z (.int .i64 (.lit 0))))]), [], 3)))))))))))))
-- end trR3B
def trR3B_h : List (Nat × St) := [
(2, ⟨(List.append [(.v (.one (.z (.ext [(.int .i64), (.int .i64)] (.var 0) false)))), (.v (.one (.z .any))), (.v (.one (.z (.ptr 0 0)))), (.v (.one (.z (.int .i64 (.lit 0))))), (.v (.one (.z (.bool (.fn 69 (.x (.var 0) .nil)))))), (.v (.one (.z (.ptr 1 0)))), (.v (.one (.z (.int .i64 (.var 3000))))), (.v (.one (.z (.ext [(.int .i64), (.int .i64)] (.var 0) false)))), (.v (.one (.z (.bool (.fn 69 (.x (.var 0) .nil)))))), (.v (.one (.z (.bool (.fn 69 (.x (.var 0) .nil)))))), (.v (.one (.z (.bool (.not (.fn 69 (.x (.var 0) .nil))))))), (.v (.one (.z .any))), (.v (.one (.z (.ext [(.int .i64), (.int .i64)] (.var 0) false)))), (.v (.one (.z (.eptr [(.int .i64), (.int .i64)] (.var 0) (.lit 0) 0)))), (.v (.one (.z (.eptr [(.int .i64), (.int .i64)] (.var 0) (.lit 0) 0)))), (.v (.one (.z (.int .i64 (.rd (.var 0) (.lit 0) 0))))), (.v (.one (.z (.ext [(.int .i64), (.int .i64)] (.var 0) false)))), (.v (.one (.z (.eptr [(.int .i64), (.int .i64)] (.var 0) (.lit 0) 0)))), (.v (.one (.z (.eptr [(.int .i64), (.int .i64)] (.var 0) (.lit 0) 0)))), (.v (.one (.z (.int .i64 (.rd (.var 0) (.lit 0) 0))))), (.v (.agg [(.z (.int .i64 (.rd (.var 0) (.lit 0) 0))), (.z (.int .i64 (.rd (.var 0) (.lit 0) 0)))])), (.v (.one (.z (.ext [(.int .i64), (.int .i64)] (.var 0) false)))), (.v (.one (.z (.eptr [(.int .i64), (.int .i64)] (.var 0) (.lit 0) 0)))), (.v (.one (.z (.eptr [(.int .i64), (.int .i64)] (.var 0) (.lit 0) 1)))), (.v (.one (.z (.int .i64 (.rd (.var 0) (.lit 0) 1))))), (.v (.one (.z (.ext [(.int .i64), (.int .i64)] (.var 0) false)))), (.v (.one (.z (.eptr [(.int .i64), (.int .i64)] (.var 0) (.lit 0) 0)))), (.v (.one (.z (.eptr [(.int .i64), (.int .i64)] (.var 0) (.lit 0) 1)))), (.v (.one (.z (.int .i64 (.rd (.var 0) (.lit 0) 1))))), (.v (.agg [(.z (.int .i64 (.rd (.var 0) (.lit 0) 1))), (.z (.int .i64 (.rd (.var 0) (.lit 0) 1)))])), (.v (.agg [(.z (.int .i64 (.rd (.var 0) (.lit 0) 0))), (.z (.int .i64 (.rd (.var 0) (.lit 0) 0))), (.z (.int .i64 (.rd (.var 0) (.lit 0) 1))), (.z (.int .i64 (.rd (.var 0) (.lit 0) 1)))]))] (List.replicate 51 V.any)), [(1, (.cells 42 [(.z (.int .i64 (.var 3001))), (.z (.int .i64 (.var 3002))), (.z (.int .i64 (.var 3003))), (.z (.int .i64 (.var 3004)))])), (0, (.cells 42 [(.z (.int .i64 (.lit 0))), (.z (.int .i64 (.lit 0))), (.z (.int .i64 (.lit 0))), (.z (.int .i64 (.lit 0)))]))], 3, []⟩)]
def trR3B_j : List (FuncId × Nat × Nat × St) := [
]
set_option maxRecDepth 100000 in
theorem trR3B_is : T.norm 0 (call Tryz.prog ctR8 ⟨Lt.un (Lt.of []), trR3B_h, trR3B_j⟩ 100 44 (symArgs 0 [pts]) [] 0) TT.ret = trR3B := by kernel_rfl
theorem trR3B_low : trR3B.low 1000 = true := by kernel_rfl
-- term trR3To: call Tryz.prog ctR8 (Lt.of []) 100 68 (symArgs 0 [pts, pts]) [] 0
def trR3To : TT OpR :=
(.ite (.not (.fn 69 (.x (.var 0) .nil)))
 (.ret ((.tup [(.one (.z (.bool (.lit false)))), (.one (.z (.int .i64 (.lit 1))))]), [], 0))
 (.ite (.not (.fn 69 (.x (.var 1) .nil)))
 (.ret ((.tup [(.one (.z (.bool (.lit false)))), (.one (.z (.int .i64 (.lit 1))))]), [], 0))
 (.loop 0 1000 ⟨[(0, (.lit 0))], [], []⟩
 (.ite (.cmp .lss (.var 1000) (.len (.var 0)))
 (.loop 1 2000 ⟨[(0, (.lit 0))], [], []⟩
 (.ite (.cmp .lss (.var 2000) (.len (.var 1)))
 (.ob (.tru (.cmp .leq (.lit 0) (.var 1000)))
 (.ob (.tru (.cmp .lss (.var 1000) (.len (.var 0))))
 (.ob (.tru (.cmp .neq (.len (.var 0)) (.lit 0)))
 (.ob (.tru (.cmp .leq (.lit 0) (.ar .rem .i64 (.ar .add .i64 (.var 1000) (.lit 1)) (.len (.var 0)))))
 (.ob (.tru (.cmp .lss (.ar .rem .i64 (.ar .add .i64 (.var 1000) (.lit 1)) (.len (.var 0))) (.len (.var 0))))
 (.ob (.tru (.cmp .leq (.lit 0) (.var 2000)))
 (.ob (.tru (.cmp .lss (.var 2000) (.len (.var 1))))
 (.ob (.tru (.cmp .neq (.len (.var 1)) (.lit 0)))
 (.ob (.tru (.cmp .leq (.lit 0) (.ar .rem .i64 (.ar .add .i64 (.var 2000) (.lit 1)) (.len (.var 1)))))
 (.ob (.tru (.cmp .lss (.ar .rem .i64 (.ar .add .i64 (.var 2000) (.lit 1)) (.len (.var 1))) (.len (.var 1))))
 (.ob (.tru (.fn 5 (.i (.rd (.var 0) (.var 1000) 0) (.i (.rd (.var 0) (.var 1000) 1) (.i (.rd (.var 0) (.ar .rem .i64 (.ar .add .i64 (.var 1000) (.lit 1)) (.len (.var 0))) 0) (.i (.rd (.var 0) (.ar .rem .i64 (.ar .add .i64 (.var 1000) (.lit 1)) (.len (.var 0))) 1) (.i (.rd (.var 1) (.var 2000) 0) (.i (.rd (.var 1) (.var 2000) 1) (.i (.rd (.var 1) (.ar .rem .i64 (.ar .add .i64 (.var 2000) (.lit 1)) (.len (.var 1))) 0) (.i (.rd (.var 1) (.ar .rem .i64 (.ar .add .i64 (.var 2000) (.lit 1)) (.len (.var 1))) 1) .nil))))))))))
 (.ite (.fn 6 (.i (.rd (.var 0) (.var 1000) 0) (.i (.rd (.var 0) (.var 1000) 1) (.i (.rd (.var 0) (.ar .rem .i64 (.ar .add .i64 (.var 1000) (.lit 1)) (.len (.var 0))) 0) (.i (.rd (.var 0) (.ar .rem .i64 (.ar .add .i64 (.var 1000) (.lit 1)) (.len (.var 0))) 1) (.i (.rd (.var 1) (.var 2000) 0) (.i (.rd (.var 1) (.var 2000) 1) (.i (.rd (.var 1) (.ar .rem .i64 (.ar .add .i64 (.var 2000) (.lit 1)) (.len (.var 1))) 0) (.i (.rd (.var 1) (.ar .rem .i64 (.ar .add .i64 (.var 2000) (.lit 1)) (.len (.var 1))) 1) .nil)))))))))
 (.ret ((.tup [(.one (.z (.bool (.lit true)))), (.one (.z (.int .i64 (.lit 0))))]), [], 4))
 (.next 1 ⟨[(0, (.ar .add .i64 (.var 2000) (.lit 1)))], [], []⟩)))))))))))))
 (.next 0 ⟨[(0, (.ar .add .i64 (.var 1000) (.lit 1)))], [], []⟩)))
 (.ob (.tru (.lit true))
 (.ob (.tru (.cmp .lss (.lit 0) (.len (.var 0))))
 (.ob (.tru (.fn 3 (.i (.rd (.var 0) (.lit 0) 0) (.i (.rd (.var 0) (.lit 0) 1) .nil))))
 (.ob (.tru (.fn 69 (.x (.var 1) .nil)))
 (.ite (.cmp .geq (.fn 98 (.i (.rd (.var 0) (.lit 0) 0) (.i (.rd (.var 0) (.lit 0) 1) (.x (.var 1) .nil)))) (.lit 0))
 (.ret ((.tup [(.one (.z (.bool (.lit true)))), (.one (.z (.int .i64 (.lit 0))))]), [], 4))
 (.ob (.tru (.lit true))
 (.ob (.tru (.cmp .lss (.lit 0) (.len (.var 1))))
 (.ob (.tru (.fn 3 (.i (.rd (.var 1) (.lit 0) 0) (.i (.rd (.var 1) (.lit 0) 1) .nil))))
 (.ob (.tru (.fn 69 (.x (.var 0) .nil)))
 (.ret ((.tup [(.one (.z (.bool (.cmp .geq (.fn 98 (.i (.rd (.var 1) (.lit 0) 0) (.i (.rd (.var 1) (.lit 0) 1) (.x (.var 0) .nil)))) (.lit 0))))), (.one (.z (.int .i64 (.lit 0))))]), [], 4)))))))))))))))
-- end trR3To
def trR3To_h : List (Nat × St) := [
(0, ⟨(List.append [(.v (.one (.z (.ext [(.int .i64), (.int .i64)] (.var 0) false)))), (.v (.one (.z (.ext [(.int .i64), (.int .i64)] (.var 1) false)))), (.v (.one (.z .any))), (.v (.one (.z .any))), (.v (.one (.z (.bool (.lit false))))), (.v (.one (.z (.int .i64 (.lit 0))))), (.v (.one (.z (.bool (.fn 69 (.x (.var 0) .nil)))))), (.v (.one (.z (.bool (.fn 69 (.x (.var 1) .nil)))))), (.v (.one (.z (.int .i64 (.var 1000))))), (.v (.one (.z .any))), (.v (.one (.z (.ext [(.int .i64), (.int .i64)] (.var 0) false)))), (.v (.one (.z (.bool (.fn 69 (.x (.var 0) .nil)))))), (.v (.one (.z (.ext [(.int .i64), (.int .i64)] (.var 1) false)))), (.v (.one (.z (.bool (.fn 69 (.x (.var 1) .nil)))))), (.v (.one (.z (.bool (.fn 69 (.x (.var 0) .nil)))))), (.v (.one (.z (.bool (.not (.fn 69 (.x (.var 0) .nil))))))), (.v (.one (.z (.bool (.lit false))))), (.v (.one (.z (.bool (.fn 69 (.x (.var 1) .nil)))))), (.v (.one (.z (.bool (.not (.fn 69 (.x (.var 1) .nil))))))), (.v (.one (.z (.bool (.not (.fn 69 (.x (.var 1) .nil)))))))] (List.replicate 41 V.any)), [], 1, []⟩),
(1, ⟨(List.append [(.v (.one (.z (.ext [(.int .i64), (.int .i64)] (.var 0) false)))), (.v (.one (.z (.ext [(.int .i64), (.int .i64)] (.var 1) false)))), (.v (.one (.z .any))), (.v (.one (.z .any))), (.v (.one (.z (.bool (.lit false))))), (.v (.one (.z (.int .i64 (.lit 0))))), (.v (.one (.z (.bool (.fn 69 (.x (.var 0) .nil)))))), (.v (.one (.z (.bool (.fn 69 (.x (.var 1) .nil)))))), (.v (.one (.z (.int .i64 (.var 1000))))), (.v (.one (.z (.int .i64 (.var 2000))))), (.v (.one (.z (.ext [(.int .i64), (.int .i64)] (.var 0) false)))), (.v (.one (.z (.bool (.fn 69 (.x (.var 0) .nil)))))), (.v (.one (.z (.ext [(.int .i64), (.int .i64)] (.var 1) false)))), (.v (.one (.z (.bool (.fn 69 (.x (.var 1) .nil)))))), (.v (.one (.z (.bool (.fn 69 (.x (.var 0) .nil)))))), (.v (.one (.z (.bool (.not (.fn 69 (.x (.var 0) .nil))))))), (.v (.one (.z (.bool (.lit false))))), (.v (.one (.z (.bool (.fn 69 (.x (.var 1) .nil)))))), (.v (.one (.z (.bool (.not (.fn 69 (.x (.var 1) .nil))))))), (.v (.one (.z (.bool (.not (.fn 69 (.x (.var 1) .nil))))))), (.v (.one (.z (.int .i64 (.var 1000))))), (.v (.one (.z (.ext [(.int .i64), (.int .i64)] (.var 0) false)))), (.v (.one (.z (.int .i64 (.len (.var 0)))))), (.v (.one (.z (.bool (.cmp .lss (.var 1000) (.len (.var 0)))))))] (List.replicate 37 V.any)), [], 2, []⟩)]
def trR3To_j : List (FuncId × Nat × Nat × St) := [
]
set_option maxRecDepth 100000 in
theorem trR3To_is : T.norm 0 (call Tryz.prog ctR8 ⟨Lt.un (Lt.of []), trR3To_h, trR3To_j⟩ 100 68 (symArgs 0 [pts, pts]) [] 0) TT.ret = trR3To := by kernel_rfl
theorem trR3To_low : trR3To.low 1000 = true := by kernel_rfl
-- term trR5A: call Tryz.prog ctR8 (Lt.of []) 100 111 (symArgs 0 [secs, pt]) [] 0
def trR5A : TT OpR :=
(.loop 0 3000 ⟨[(0, (.lit 0))], [], []⟩
 (.ite (.cmp .lss (.var 3000) (.len (.var 0)))
 (.ob (.tru (.cmp .leq (.lit 0) (.var 3000)))
 (.ob (.tru (.cmp .lss (.var 3000) (.len (.var 0))))
 (.ob (.tru (.cmp .leq (.lit 0) (.var 3000)))
 (.ob (.tru (.cmp .lss (.var 3000) (.len (.var 0))))
 (.ob (.tru (.fn 99 (.i (.rd (.var 0) (.var 3000) 0) (.i (.rd (.var 0) (.var 3000) 1) .nil))))
 (.ob (.tru (.fn 99 (.i (.rd (.var 0) (.var 3000) 2) (.i (.rd (.var 0) (.var 3000) 3) .nil))))
 (.ob (.tru (.fn 99 (.i (.var 1) (.i (.var 2) .nil))))
 (.ite (.fn 100 (.i (.rd (.var 0) (.var 3000) 0) (.i (.rd (.var 0) (.var 3000) 1) (.i (.rd (.var 0) (.var 3000) 2) (.i (.rd (.var 0) (.var 3000) 3) (.i (.var 1) (.i (.var 2) .nil)))))))
 (.ob (.tru (.cmp .leq (.lit 0) (.var 3000)))
 (.ob (.tru (.cmp .lss (.var 3000) (.len (.var 0))))
 (.ob (.tru (.cmp .leq (.lit 0) (.var 3000)))
 (.ob (.tru (.cmp .lss (.var 3000) (.len (.var 0))))
 (.ret ((.v (.agg [(.z (.int .i64 (.rd (.var 0) (.var 3000) 4))), (.z (.int .i64 (.rd (.var 0) (.var 3000) 5)))])), [], 3))))))
 (.next 0 ⟨[(0, (.ar .add .i64 (.var 3000) (.lit 1)))], [], []⟩)))))))))
 (.ret ((.v (.agg [(.z (.int .i64 (.lit 0))), (.z (.int .i64 (.lit 0)))])), [], 3))))
-- end trR5A
def trR5A_h : List (Nat × St) := [
(2, ⟨(List.append [(.v (.one (.z (.ext [(.int .i64), (.int .i64), (.int .i64), (.int .i64), (.int .i64), (.int .i64)] (.var 0) false)))), (.v (.agg [(.z (.int .i64 (.var 1))), (.z (.int .i64 (.var 2)))])), (.v (.one (.z .any))), (.v (.one (.z (.ptr 0 0)))), (.v (.one (.z (.ptr 1 0)))), (.v (.one (.z (.int .i64 (.var 3000)))))] (List.replicate 30 V.any)), [(1, (.cells 124 [(.z (.int .i64 (.lit 0))), (.z (.int .i64 (.lit 0)))])), (0, (.cells 23 [(.z (.int .i64 (.var 1))), (.z (.int .i64 (.var 2)))]))], 3, []⟩)]
def trR5A_j : List (FuncId × Nat × Nat × St) := [
]
set_option maxRecDepth 100000 in
theorem trR5A_is : T.norm 0 (call Tryz.prog ctR8 ⟨Lt.un (Lt.of []), trR5A_h, trR5A_j⟩ 100 111 (symArgs 0 [secs, pt]) [] 0) TT.ret = trR5A := by kernel_rfl
theorem trR5A_low : trR5A.low 1000 = true := by kernel_rfl
end Go.Proofs.YtglepdhapakmbaaGreat
/- Chapter 07: the reference's opens, nearer, Box, Touch; what a light shows. -/
namespace Go.Proofs.YtglepdhapakmbaaGreat
open Go.RowKit
theorem rem_prev1 {n i : Nat} (h : i < n) (hn : n ≤ 281474976710656) : (IntKind.i64.wrap (IntKind.i64.wrap ((i : Int) + (n : Int)) - 1)).tmod (n : Int) = (prv n i : Int) := by
  rw [wrap_in ((i : Int) + (n : Int)) (by omega) (by omega), wrap_in _ (by omega) (by omega), Int.tmod_eq_emod_of_nonneg (by omega)]
  unfold prv
  split
  · rename_i h0
    subst h0
    rw [Int.emod_eq_of_lt (by omega) (by omega)]
    omega
  · rw [show (i : Int) + (n : Int) - 1 = ((i - 1 : Nat) : Int) + (n : Int) by omega, Int.add_emod_right, Int.emod_eq_of_lt (by omega) (by omega)]
theorem w_dir {a b c d : Int} (ha : -2000000 ≤ a ∧ a ≤ 2000000) (hb : -2000000 ≤ b ∧ b ≤ 2000000) (hc : -2000000 ≤ c ∧ c ≤ 2000000) (hd : -2000000 ≤ d ∧ d ≤ 2000000) : IntKind.i64.wrap (IntKind.i64.wrap (a * d) - IntKind.i64.wrap (b * c)) = crDir a b c d := by
  have h1 := mul_abs (a := a) (b := d) (A := 2000000) (B := 2000000) (by omega) (by omega) (by omega) (by omega)
  have h2 := mul_abs (a := b) (b := c) (A := 2000000) (B := 2000000) (by omega) (by omega) (by omega) (by omega)
  rw [wrap_in (a * d) (by omega) (by omega), wrap_in (b * c) (by omega) (by omega), wrap_in _ (by omega) (by omega)]
  rfl
def smallD (u v : Int) : Bool := decide ((-2000000 ≤ u ∧ u ≤ 2000000) ∧ -2000000 ≤ v ∧ v ≤ 2000000)
def opdL (ds : List D) : Bool := opDir (rAt ds 0) (iAt ds 1).toNat (iAt ds 2) (iAt ds 3)
def opdO (ds : List D) : Bool := polyB (rAt ds 0) && (decide (0 ≤ iAt ds 1 ∧ iAt ds 1 < (rAt ds 0).length) && smallD (iAt ds 2) (iAt ds 3))
theorem KXb3 (W : World) (ds l : List D) : (envOf KX W ds).fb 3 l = placeL l := by simp only [envOf, KX, KW, KV, KU, KT, KR, KG, KF, KE, KD, KC, KB, KA, K9, K8, K7, K6, K5, K]
theorem KXb5 (W : World) (ds l : List D) : (envOf KX W ds).fb 5 l = eight l := by simp only [envOf, KX, KW, KV, KU, KT, KR, KG, KF, KE, KD, KC, KB, KA, K9, K8, K7, K6, K5, K]
theorem KXb6 (W : World) (ds l : List D) : (envOf KX W ds).fb 6 l = meetL l := by simp only [envOf, KX, KW, KV, KU, KT, KR, KG, KF, KE, KD, KC, KB, KA, K9, K8, K7, K6, K5, K]
theorem KXb69 (W : World) (ds l : List D) : (envOf KX W ds).fb 69 l = polyL l := by simp only [envOf, KX, KW, KV, KU, KT, KR, KG, KF, KE, KD, KC, KB, KA, K9, K8, K7, K6, K5, K]
theorem KXi91 (W : World) (ds l : List D) : (envOf KX W ds).fi 91 l = timH l := by simp only [envOf, KX, KW, KV, KU, KT, KR, KG, KF, KE, KD, KC, KB, KA, K9, K8, K7, K6, K5, K]
theorem KXi92 (W : World) (ds l : List D) : (envOf KX W ds).fi 92 l = timL l := by simp only [envOf, KX, KW, KV, KU, KT, KR, KG, KF, KE, KD, KC, KB, KA, K9, K8, K7, K6, K5, K]
theorem KXi98 (W : World) (ds l : List D) : (envOf KX W ds).fi 98 l = plcL l := by simp only [envOf, KX, KW, KV, KU, KT, KR, KG, KF, KE, KD, KC, KB, KA, K9, K8, K7, K6, K5, K]
theorem KXb99 (W : World) (ds l : List D) : (envOf KX W ds).fb 99 l = dirL l := by simp only [envOf, KX, KW, KV, KU, KT, KR, KG, KF, KE, KD, KC, KB, KA, K9, K8, K7, K6, K5, K]
theorem KXb100 (W : World) (ds l : List D) : (envOf KX W ds).fb 100 l = hasR6 l := by simp only [envOf, KX, KW, KV, KU, KT, KR, KG, KF, KE, KD, KC, KB, KA, K9, K8, K7, K6, K5, K]
theorem gR3O : GivesIf Tryz.prog 105 [pts, it, pt] (fun ds => opdO ds = true) (fun ds => .bool (opdL ds)) := by
  refine fn_gives KX (by kernel_rfl) (fun ρ h => ctR8_ok (Sees.of h 102)) (by kernel_rfl) trR3O_is trR3O_low (by decide) (fun W vals ds hr hok => ?_)
  simp only [opdO, smallD, Bool.and_eq_true, decide_eq_true_eq] at hok
  obtain ⟨hp, ⟨h0, h1⟩, s1, s2⟩ := hok
  have hl := polyB_len hp
  simp only [trR3O, TT.sat_ret, TT.sat_ite, TT.sat_ob, TT.sat_next, TT.sat_stuck, put_i, put_b, put_d, put_fi, put_fb, put_fd, Ob.ok, B.ev, E.ev, X.ev, AL.ev, cmp_t, cmp_f, arEv, V.plain, V2.plain, S.plain, S0.plain, V.val, V2.val, S.val, S0.val, bV, iV, List.all_cons, List.all_nil, Bool.and_true, Bool.and_self, envOf_i, envOf_b, envOf_d, List.map_cons, List.map_nil, true_and, Bool.not_eq_true', Bool.not_eq_false', Bool.not_not, Bool.and_eq_true, and_f, cell_lg, cell_lb, cell_lr, cmpP, val_i, val_b, val_d, aget, Nat.reduceBEq, beq_self_eq_true, Bool.false_eq_true, if_true, if_false, Nat.reduceLT, Nat.reduceSub, Nat.sub_self, Nat.lt_irrefl]
  unfold opdL
  obtain ⟨i, hi⟩ := Int.eq_ofNat_of_zero_le h0
  rw [hi] at h1 ⊢
  generalize rAt ds 0 = r at *
  generalize iAt ds 2 = u at *
  generalize iAt ds 3 = v at *
  have hi' : i < r.length := by omega
  have hn := nxt_lt hi'
  have hv := prv_lt hi'
  have p0 : placeB (lg r i 0) (lg r i 1) = true := polyB_pl hp hi'
  have p1 : placeB (lg r (nxt r.length i) 0) (lg r (nxt r.length i) 1) = true := polyB_pl hp hn
  have p2 : placeB (lg r (prv r.length i) 0) (lg r (prv r.length i) 1) = true := polyB_pl hp hv
  rw [placeB_iff] at p0 p1 p2
  rw [rem_next1 hi' (by omega), rem_prev1 hi' (by omega), Int.toNat_natCast]
  simp only [w_sub p1.1 p0.1, w_sub p1.2 p0.2, w_sub p2.1 p0.1, w_sub p2.2 p0.2]
  have d1 : -2000000 ≤ lg r (nxt r.length i) 0 - lg r i 0 ∧ lg r (nxt r.length i) 0 - lg r i 0 ≤ 2000000 := by omega
  have d2 : -2000000 ≤ lg r (nxt r.length i) 1 - lg r i 1 ∧ lg r (nxt r.length i) 1 - lg r i 1 ≤ 2000000 := by omega
  have d3 : -2000000 ≤ lg r (prv r.length i) 0 - lg r i 0 ∧ lg r (prv r.length i) 0 - lg r i 0 ≤ 2000000 := by omega
  have d4 : -2000000 ≤ lg r (prv r.length i) 1 - lg r i 1 ∧ lg r (prv r.length i) 1 - lg r i 1 ≤ 2000000 := by omega
  simp only [w_dir d1 d2 d3 d4, w_dir d1 d2 s1 s2, w_dir s1 s2 d3 d4, w_dir d3 d4 s1 s2, w_dir s1 s2 d1 d2]
  refine ⟨by omega, by omega, by omega, by omega, by omega, by omega, by omega, by omega, by omega, by omega, fun a => ⟨fun b => ?_, fun b => ?_⟩, fun a => ⟨fun b => ?_, fun b => ?_⟩⟩
  · rw [opDir, if_pos a, decide_eq_true b]; rfl
  · rw [opDir, if_pos a, decide_eq_false b]; rfl
  · rw [opDir, if_neg a, decide_eq_true b]; rfl
  · rw [opDir, if_neg a, decide_eq_false b]; rfl
def nrrL (ds : List D) : Bool := !apartB (iAt ds 0) (iAt ds 1) (iAt ds 2) (iAt ds 3) (iAt ds 4) (iAt ds 5) (iAt ds 6)
theorem gR3N : GivesIf Tryz.prog 88 [pt, pt, pt, it] (fun ds => nearO ds = true) (fun ds => .bool (nrrL ds)) := by
  refine fn_gives KX (by kernel_rfl) (fun ρ h => ctR8_ok (Sees.of h 102)) (by kernel_rfl) trR3N_is trR3N_low (by decide) (fun W vals ds _ hok => ?_)
  simp only [nearO, Bool.and_eq_true, distB, decide_eq_true_eq] at hok
  obtain ⟨hok, h6⟩ := hok
  obtain ⟨h0, h1, h2, h3, h4, h5⟩ := six_of hok
  simp only [trR3N, TT.sat_ret, TT.sat_ite, TT.sat_ob, TT.sat_next, TT.sat_stuck, put_i, put_b, put_d, put_fi, put_fb, put_fd, Ob.ok, B.ev, E.ev, X.ev, AL.ev, cmp_t, cmp_f, arEv, V.plain, V2.plain, S.plain, S0.plain, V.val, V2.val, S.val, S0.val, bV, iV, List.all_cons, List.all_nil, Bool.and_true, Bool.and_self, envOf_i, envOf_b, envOf_d, List.map_cons, List.map_nil, true_and, Bool.not_eq_true', Bool.not_eq_false', Bool.not_not, Bool.and_eq_true, and_f, cell_lg, cell_lb, cell_lr, cmpP, val_i, val_b, val_d, aget, Nat.reduceBEq, beq_self_eq_true, Bool.false_eq_true, if_true, if_false, Nat.reduceLT, Nat.reduceSub, Nat.sub_self, Nat.lt_irrefl, KXi91, KXi92, timH_two, timL_two]
  have c0 := w_sq h6
  have d1 := w_mul h0 h2 h0 h2
  have d2 := w_mul h1 h3 h1 h3
  have d3 := w_mul h4 h0 h4 h0
  have d4 := w_mul h5 h1 h5 h1
  have d5 := w_mul h4 h2 h4 h2
  have d6 := w_mul h5 h3 h5 h3
  have d7 := w_mul h4 h2 h1 h3
  have d8 := w_mul h5 h3 h0 h2
  have n1 := sq_nn (iAt ds 0 - iAt ds 2)
  have n2 := sq_nn (iAt ds 1 - iAt ds 3)
  have n5 := sq_nn (iAt ds 4 - iAt ds 2)
  have n6 := sq_nn (iAt ds 5 - iAt ds 3)
  have n7 := sq_nn (iAt ds 6)
  simp only [w_sub h4 h2, w_sub h0 h2, w_sub h5 h3, w_sub h1 h3, w_sub h4 h0, w_sub h5 h1, w_mul1 h4 h2 h0 h2, w_mul1 h5 h3 h1 h3, d1.1, d2.1, d3.1, d4.1, d5.1, d6.1, d7.1, d8.1, w_add h4 h2 h0 h2 h5 h3 h1 h3,
    w_add h0 h2 h0 h2 h1 h3 h1 h3, w_add h4 h0 h4 h0 h5 h1 h5 h1, w_add h4 h2 h4 h2 h5 h3 h5 h3, (w_crs h4 h2 h1 h3 h5 h3 h0 h2).1, (w_crs h4 h2 h1 h3 h5 h3 h0 h2).2, c0.1, mx_sq]
  have D2 : dist2 (iAt ds 4) (iAt ds 5) (iAt ds 0) (iAt ds 1) = (iAt ds 4 - iAt ds 0) * (iAt ds 4 - iAt ds 0) + (iAt ds 5 - iAt ds 1) * (iAt ds 5 - iAt ds 1) := by unfold dist2; grind
  have hA : nrrL ds = (if dotI (iAt ds 2) (iAt ds 3) (iAt ds 4) (iAt ds 5) (iAt ds 0) (iAt ds 1) ≤ 0 then decide (dist2 (iAt ds 2) (iAt ds 3) (iAt ds 0) (iAt ds 1) < iAt ds 6 * iAt ds 6) else if dist2 (iAt ds 2) (iAt ds 3) (iAt ds 4) (iAt ds 5) ≤ dotI (iAt ds 2) (iAt ds 3) (iAt ds 4) (iAt ds 5) (iAt ds 0) (iAt ds 1) then decide (dist2 (iAt ds 4) (iAt ds 5) (iAt ds 0) (iAt ds 1) < iAt ds 6 * iAt ds 6) else decide (crossI (iAt ds 2) (iAt ds 3) (iAt ds 4) (iAt ds 5) (iAt ds 0) (iAt ds 1) * crossI (iAt ds 2) (iAt ds 3) (iAt ds 4) (iAt ds 5) (iAt ds 0) (iAt ds 1) < iAt ds 6 * iAt ds 6 * dist2 (iAt ds 2) (iAt ds 3) (iAt ds 4) (iAt ds 5))) := by
    unfold nrrL; rw [apart_near, Bool.not_not]
  rw [hA]
  refine ⟨fun h => ?_, fun h => ⟨fun h' => ?_, fun h' => ⟨?_, ?_, ?_, ?_, ?_, ?_, ?_, ?_, fun m => ?_, fun m => ⟨fun m' => ?_, fun m' => ?_⟩⟩⟩⟩
  · unfold dotI dist2
    rw [if_pos h]
    congr 1
  · unfold dotI
    rw [if_neg h, if_pos (show dist2 _ _ _ _ ≤ _ by unfold dist2; exact h'), D2]
    congr 1
  case refine_11 =>
    unfold dotI
    rw [if_neg h, if_neg (show ¬ dist2 _ _ _ _ ≤ _ by unfold dist2; exact h'), decide_eq_false]
    unfold crossI dist2
    have := most_cmp.mp (.inl m)
    omega
  case refine_12 =>
    unfold dotI
    rw [if_neg h, if_neg (show ¬ dist2 _ _ _ _ ≤ _ by unfold dist2; exact h')]
    congr 1
    rw [Bool.eq_iff_iff, Bool.not_eq_true', decide_eq_true_eq, ← Bool.not_eq_true, cmp_t]
    unfold crossI dist2
    rw [← Int.not_le, ← most_cmp]
    simp only [cmpP]
    omega
  case refine_13 =>
    unfold dotI
    rw [if_neg h, if_neg (show ¬ dist2 _ _ _ _ ≤ _ by unfold dist2; exact h'), decide_eq_true]
    unfold crossI dist2
    rw [← Int.not_le, ← most_cmp]
    omega
  all_goals omega
theorem pb_least {r : Rows} (hr : polyB r = true) : ((∃ k, k < r.length ∧ pbA [.l r] = cx r k) ∧ ∃ k, k < r.length ∧ pbB [.l r] = cx r k) ∧ (∃ k, k < r.length ∧ pbC [.l r] = cy r k) ∧ ∃ k, k < r.length ∧ pbD [.l r] = cy r k := by
  have hl := polyB_len hr
  have eA : pbA [.l r] = minO r (r.length - 1) 1 (cx r 0) (cy r 0) := by unfold pbA; rw [show rAt [.l r] 0 = r from rfl, hr]; rfl
  have eB : pbB [.l r] = maxO r (r.length - 1) 1 (cx r 0) (cy r 0) := by unfold pbB; rw [show rAt [.l r] 0 = r from rfl, hr]; rfl
  have eC : pbC [.l r] = minY r (r.length - 1) 1 (cy r 0) := by unfold pbC; rw [show rAt [.l r] 0 = r from rfl, hr]; rfl
  have eD : pbD [.l r] = maxY r (r.length - 1) 1 (cy r 0) := by unfold pbD; rw [show rAt [.l r] 0 = r from rfl, hr]; rfl
  obtain ⟨_, _, a3⟩ := minO_spec r (r.length - 1) 1 (cx r 0) (cy r 0)
  obtain ⟨_, _, b3⟩ := maxO_spec r (r.length - 1) 1 (cx r 0) (cy r 0)
  obtain ⟨_, _, c3⟩ := minY_spec r (r.length - 1) 1 (cy r 0)
  obtain ⟨_, _, d3⟩ := maxY_spec r (r.length - 1) 1 (cy r 0)
  rw [eA, eB, eC, eD]
  refine ⟨⟨?_, ?_⟩, ?_, ?_⟩
  · rcases a3 with h | ⟨k, h1, h2, h⟩
    · exact ⟨0, by omega, h⟩
    · exact ⟨k, by omega, h⟩
  · rcases b3 with h | ⟨k, h1, h2, h⟩
    · exact ⟨0, by omega, h⟩
    · exact ⟨k, by omega, h⟩
  · rcases c3 with h | ⟨k, h1, h2, h⟩
    · exact ⟨0, by omega, h⟩
    · exact ⟨k, by omega, h⟩
  · rcases d3 with h | ⟨k, h1, h2, h⟩
    · exact ⟨0, by omega, h⟩
    · exact ⟨k, by omega, h⟩
theorem pb_one (r : Rows) (ds : List D) (h : rAt ds 0 = r) : pbA ds = pbA [.l r] ∧ pbB ds = pbB [.l r] ∧ pbC ds = pbC [.l r] ∧ pbD ds = pbD [.l r] ∧ pbE ds = pbE [.l r] := by
  unfold pbA pbB pbC pbD pbE
  rw [h]
  exact ⟨rfl, rfl, rfl, rfl, rfl⟩
theorem gR3B : Gives Tryz.prog 44 [pts] (fun ds => .tuple #[.agg #[.int .i64 (pbA ds), .int .i64 (pbB ds), .int .i64 (pbC ds), .int .i64 (pbD ds)], .int .i64 (pbE ds)]) := by
  refine GivesIf.all (fn_gives KX (by kernel_rfl) (fun ρ h => ctR8_ok (Sees.of h 102)) (by kernel_rfl) trR3B_is trR3B_low (by decide) (fun W vals ds hr _ => ?_))
  simp only [trR3B, TT.sat_ret, TT.sat_ite, TT.sat_ob, TT.sat_next, TT.sat_stuck, put_i, put_b, put_d, put_fi, put_fb, put_fd, Ob.ok, B.ev, E.ev, X.ev, AL.ev, cmp_t, cmp_f, arEv, V.plain, V2.plain, S.plain, S0.plain, V.val, V2.val, S.val, S0.val, bV, iV, List.all_cons, List.all_nil, Bool.and_true, Bool.and_self, envOf_i, envOf_b, envOf_d, List.map_cons, List.map_nil, true_and, Bool.not_eq_true', Bool.not_eq_false', Bool.not_not, Bool.and_eq_true, and_f, cell_lg, cell_lb, cell_lr, cmpP, val_i, val_b, val_d, aget, Nat.reduceBEq, beq_self_eq_true, Bool.false_eq_true, if_true, if_false, Nat.reduceLT, Nat.reduceSub, Nat.sub_self, Nat.lt_irrefl, KXb69, poly_one]
  refine ⟨fun h => by simp [pbA, pbB, pbC, pbD, pbE, h], fun h => ?_⟩
  have hl := polyB_len h
  obtain ⟨q1, q2, q3, q4, q5⟩ := pb_one (rAt ds 0) ds rfl
  rw [q1, q2, q3, q4, q5]
  clear q1 q2 q3 q4 q5 hr
  generalize e0 : rAt ds 0 = r at *
  have hE : pbE [.l r] = 0 := by unfold pbE; rw [show rAt [.l r] 0 = r from rfl, h]; rfl
  rw [hE]
  obtain ⟨s1, _⟩ := pb_spec h
  obtain ⟨⟨⟨k1, l1, m1⟩, k2, l2, m2⟩, ⟨k3, l3, m3⟩, k4, l4, m4⟩ := pb_least h
  refine ⟨by omega, by omega, by omega, by omega, ?_⟩
  refine TT.sat_loop (fun v => ∃ i : Nat, v.i 0 = i ∧ i ≤ r.length ∧ (∀ k, k < i → (v.i 1 ≤ cx r k ∧ cx r k ≤ v.i 2) ∧ v.i 3 ≤ cy r k ∧ cy r k ≤ v.i 4) ∧ ((pbA [.l r] ≤ v.i 1 ∧ v.i 2 ≤ pbB [.l r]) ∧ pbC [.l r] ≤ v.i 3 ∧ v.i 4 ≤ pbD [.l r])) (fun v => r.length - (v.i 0).toNat)
    ⟨0, by simp [val_i, aget, E.ev], by omega, fun k hk => by omega, ?_⟩ (fun v hv => ?_)
  · have := s1 0 (by omega)
    unfold cx cy at this
    simpa [val_i, aget, E.ev, X.ev, envOf_d, cell_lg, e0] using this
  obtain ⟨i, i0, i1, i2, i3⟩ := hv
  simp only [TT.sat_ret, TT.sat_ite, TT.sat_ob, TT.sat_next, TT.sat_stuck, put_i, put_b, put_d, put_fi, put_fb, put_fd, Ob.ok, B.ev, E.ev, X.ev, AL.ev, cmp_t, cmp_f, arEv, V.plain, V2.plain, S.plain, S0.plain, V.val, V2.val, S.val, S0.val, bV, iV, List.all_cons, List.all_nil, Bool.and_true, Bool.and_self, envOf_i, envOf_b, envOf_d, List.map_cons, List.map_nil, true_and, Bool.not_eq_true', Bool.not_eq_false', Bool.not_not, Bool.and_eq_true, and_f, cell_lg, cell_lb, cell_lr, cmpP, val_i, val_b, val_d, aget, Nat.reduceBEq, beq_self_eq_true, Bool.false_eq_true, if_true, if_false, Nat.reduceLT, Nat.reduceSub, Nat.sub_self, Nat.lt_irrefl, i0, e0]
  refine ⟨fun hc => ?_, fun hc => ?_⟩
  · have hi : i < r.length := by omega
    have hs := s1 i hi
    rw [wrap_in ((i : Int) + 1) (by omega) (by omega)]
    refine ⟨by omega, by omega, by omega, by omega, by omega, by omega, by omega, by omega, ⟨i + 1, rfl, by omega, fun k hk => ?_, ?_⟩, by omega⟩
    · have m1 := Int.min_le_left (v.i 1) (lg r i 0)
      have m2 := Int.min_le_right (v.i 1) (lg r i 0)
      have m3 := Int.le_max_left (v.i 2) (lg r i 0)
      have m4 := Int.le_max_right (v.i 2) (lg r i 0)
      have m5 := Int.min_le_left (v.i 3) (lg r i 1)
      have m6 := Int.min_le_right (v.i 3) (lg r i 1)
      have m7 := Int.le_max_left (v.i 4) (lg r i 1)
      have m8 := Int.le_max_right (v.i 4) (lg r i 1)
      by_cases e : k = i
      · subst e; unfold cx cy
        exact ⟨⟨m2, m4⟩, m6, m8⟩
      · obtain ⟨⟨g1, g2⟩, g3, g4⟩ := i2 k (by omega)
        exact ⟨⟨Int.le_trans m1 g1, Int.le_trans g2 m3⟩, Int.le_trans m5 g3, Int.le_trans g4 m7⟩
    · unfold cx cy at hs
      exact ⟨⟨Int.le_min.mpr ⟨i3.1.1, hs.1.1⟩, Int.max_le.mpr ⟨i3.1.2, hs.1.2⟩⟩, Int.le_min.mpr ⟨i3.2.1, hs.2.1⟩, Int.max_le.mpr ⟨i3.2.2, hs.2.2⟩⟩
  · have hi : i = r.length := by omega
    subst hi
    have a1 := i2 k1 l1
    have a2 := i2 k2 l2
    have a3 := i2 k3 l3
    have a4 := i2 k4 l4
    rw [show v.i 1 = pbA [.l r] by omega, show v.i 2 = pbB [.l r] by omega, show v.i 3 = pbC [.l r] by omega, show v.i 4 = pbD [.l r] by omega]
theorem plc_three (r : Rows) (x y : Int) : plcL [.i x, .i y, .l r] = placeN r x y r.length 0 false := rfl
theorem meetPQ_at {p q : Rows} (hp : polyB p = true) (hq : polyB q = true) {i k : Nat} (hi : i < p.length) (hk : k < q.length) : meetPQ p q i k = meetB (lg p i 0) (lg p i 1) (lg p (nxt p.length i) 0) (lg p (nxt p.length i) 1) (lg q k 0) (lg q k 1) (lg q (nxt q.length k) 0) (lg q (nxt q.length k) 1) := meetPQ_eq hp hq hi hk
set_option maxHeartbeats 1000000 in
theorem gR3To : Gives Tryz.prog 68 [pts, pts] (fun ds => .tuple #[.bool (touR ds), .int .i64 (touE ds)]) := by
  refine GivesIf.all (fn_gives KX (by kernel_rfl) (fun ρ h => ctR8_ok (Sees.of h 102)) (by kernel_rfl) trR3To_is trR3To_low (by decide) (fun W vals ds hr _ => ?_))
  simp only [trR3To, TT.sat_ret, TT.sat_ite, TT.sat_ob, TT.sat_next, TT.sat_stuck, put_i, put_b, put_d, put_fi, put_fb, put_fd, Ob.ok, B.ev, E.ev, X.ev, AL.ev, cmp_t, cmp_f, arEv, V.plain, V2.plain, S.plain, S0.plain, V.val, V2.val, S.val, S0.val, bV, iV, List.all_cons, List.all_nil, Bool.and_true, Bool.and_self, envOf_i, envOf_b, envOf_d, List.map_cons, List.map_nil, true_and, Bool.not_eq_true', Bool.not_eq_false', Bool.not_not, Bool.and_eq_true, and_f, cell_lg, cell_lb, cell_lr, cmpP, val_i, val_b, val_d, aget, Nat.reduceBEq, beq_self_eq_true, Bool.false_eq_true, if_true, if_false, Nat.reduceLT, Nat.reduceSub, Nat.sub_self, Nat.lt_irrefl, KXb69, poly_one]
  have F : touO ds = false → Value.tuple #[.bool false, .int .i64 1] = Value.tuple #[.bool (touR ds), .int .i64 (touE ds)] := fun h => by simp [touR, touE, h]
  refine ⟨fun h => F ?_, fun h1 => ⟨fun h => F ?_, fun h2 => ?_⟩⟩
  · simp only [touO, h, Bool.false_and]
  · simp only [touO, h, Bool.and_false]
  have T : ∀ b, touX (rAt ds 0) (rAt ds 1) = b → Value.tuple #[.bool b, .int .i64 0] = Value.tuple #[.bool (touR ds), .int .i64 (touE ds)] := fun b h => by simp [touR, touE, touO, h1, h2, h]
  rw [touX_ge h1 h2] at T
  clear F hr
  have l1 := polyB_len h1
  have l2 := polyB_len h2
  generalize hp : rAt ds 0 = p at *
  generalize hq : rAt ds 1 = q at *
  generalize hG : (tmN p q p.length 0 || (decide (0 ≤ placeN q (lg p 0 0) (lg p 0 1) q.length 0 false) || decide (0 ≤ placeN p (lg q 0 0) (lg q 0 1) p.length 0 false))) = G at *
  have pl : ∀ k : Nat, k < p.length → placeB (lg p k 0) (lg p k 1) = true := fun k hk => polyB_pl h1 hk
  have ql : ∀ k : Nat, k < q.length → placeB (lg q k 0) (lg q k 1) = true := fun k hk => polyB_pl h2 hk
  refine TT.sat_loop (fun v => ∃ i : Nat, v.i 0 = i ∧ i ≤ p.length ∧ (tmN p q (p.length - i) i || (decide (0 ≤ placeN q (lg p 0 0) (lg p 0 1) q.length 0 false) || decide (0 ≤ placeN p (lg q 0 0) (lg q 0 1) p.length 0 false))) = G) (fun v => p.length - (v.i 0).toNat)
    ⟨0, by simp [val_i, aget, E.ev], by omega, hG⟩ (fun v hv => ?_)
  obtain ⟨i, i0, i1, i2⟩ := hv
  simp only [TT.sat_ret, TT.sat_ite, TT.sat_ob, TT.sat_next, TT.sat_stuck, put_i, put_b, put_d, put_fi, put_fb, put_fd, Ob.ok, B.ev, E.ev, X.ev, AL.ev, cmp_t, cmp_f, arEv, V.plain, V2.plain, S.plain, S0.plain, V.val, V2.val, S.val, S0.val, bV, iV, List.all_cons, List.all_nil, Bool.and_true, Bool.and_self, envOf_i, envOf_b, envOf_d, List.map_cons, List.map_nil, true_and, Bool.not_eq_true', Bool.not_eq_false', Bool.not_not, Bool.and_eq_true, and_f, cell_lg, cell_lb, cell_lr, cmpP, val_i, val_b, val_d, aget, Nat.reduceBEq, beq_self_eq_true, Bool.false_eq_true, if_true, if_false, Nat.reduceLT, Nat.reduceSub, Nat.sub_self, Nat.lt_irrefl, i0, hp, hq, KXi98, KXb3, KXb69, plc_three, place_two, poly_one]
  refine ⟨fun hc => ?_, fun hc => ?_⟩
  · have hi : i < p.length := by omega
    have hn := nxt_lt hi
    obtain ⟨f, hf⟩ : ∃ f, p.length - i = f + 1 := ⟨p.length - i - 1, by omega⟩
    rw [hf, tmN] at i2
    have hf' : p.length - (i + 1) = f := by omega
    refine TT.sat_loop (fun u => ∃ k : Nat, u.i 0 = k ∧ k ≤ q.length ∧ ((tmRow p q i (q.length - k) k || tmN p q f (i + 1)) || (decide (0 ≤ placeN q (lg p 0 0) (lg p 0 1) q.length 0 false) || decide (0 ≤ placeN p (lg q 0 0) (lg q 0 1) p.length 0 false))) = G) (fun u => q.length - (u.i 0).toNat)
      ⟨0, by simp [val_i, aget, E.ev], by omega, i2⟩ (fun u hu => ?_)
    obtain ⟨k, k0, k1, k2⟩ := hu
    simp only [TT.sat_ret, TT.sat_ite, TT.sat_ob, TT.sat_next, TT.sat_stuck, put_i, put_b, put_d, put_fi, put_fb, put_fd, Ob.ok, B.ev, E.ev, X.ev, AL.ev, cmp_t, cmp_f, arEv, V.plain, V2.plain, S.plain, S0.plain, V.val, V2.val, S.val, S0.val, bV, iV, List.all_cons, List.all_nil, Bool.and_true, Bool.and_self, envOf_i, envOf_b, envOf_d, List.map_cons, List.map_nil, true_and, Bool.not_eq_true', Bool.not_eq_false', Bool.not_not, Bool.and_eq_true, and_f, cell_lg, cell_lb, cell_lr, cmpP, val_i, val_b, val_d, aget, Nat.reduceBEq, beq_self_eq_true, Bool.false_eq_true, if_true, if_false, Nat.reduceLT, Nat.reduceSub, Nat.sub_self, Nat.lt_irrefl, i0, k0, hp, hq, KXb5, KXb6, eight_eight, meet_eight]
    refine ⟨fun hk => ?_, fun hk => ?_⟩
    · have hkn : k < q.length := by omega
      have hn' := nxt_lt hkn
      obtain ⟨g, hg⟩ : ∃ g, q.length - k = g + 1 := ⟨q.length - k - 1, by omega⟩
      rw [hg, tmRow, meetPQ_at h1 h2 hi hkn] at k2
      have hg' : q.length - (k + 1) = g := by omega
      rw [rem_next1 hkn (by omega), rem_next1 hi (by omega), wrap_in ((k : Int) + 1) (by omega) (by omega)]
      simp only [pl i hi, pl _ hn, ql k hkn, ql _ hn', Bool.and_self]
      refine ⟨by omega, by omega, by omega, by omega, by omega, by omega, by omega, by omega, by omega, by omega, by simp, fun h => T _ ?_, fun h => ⟨⟨k + 1, rfl, by omega, ?_⟩, by omega⟩⟩
      · rw [← k2, h]; rfl
      · rw [hg', ← k2, h]; rfl
    · have : q.length - k = 0 := by omega
      rw [this, tmRow, Bool.false_or] at k2
      rw [wrap_in ((i : Int) + 1) (by omega) (by omega)]
      exact ⟨⟨i + 1, rfl, by omega, by rw [hf']; exact k2⟩, by omega⟩
  · have : p.length - i = 0 := by omega
    rw [this, tmN, Bool.false_or] at i2
    have a1 := pl 0 (by omega)
    have a2 := ql 0 (by omega)
    refine ⟨by omega, a1, h2, fun a => T _ ?_, fun a => ⟨by omega, a2, h1, T _ ?_⟩⟩
    · rw [← i2, decide_eq_true (p := 0 ≤ placeN q (lg p 0 0) (lg p 0 1) q.length 0 false) (by omega)]; rfl
    · rw [← i2, decide_eq_false (p := 0 ≤ placeN q (lg p 0 0) (lg p 0 1) q.length 0 false) (by omega), Bool.false_or, Bool.eq_iff_iff, cmp_t]
      simp only [cmpP, decide_eq_true_eq, ge_iff_le]
theorem secs_dirs7 {r : Rows} (h : secsB r = true) : ∀ i : Nat, i < r.length → dirB (lg r i 0) (lg r i 1) = true ∧ dirB (lg r i 2) (lg r i 3) = true := by
  simp only [secsB, Bool.and_eq_true] at h
  have key : ∀ (f i : Nat), secN r f i = true → ∀ k, i ≤ k → k < i + f → secRow r k = true := by
    intro f
    induction f with
    | zero => intro i _ k h1 h2; omega
    | succ f ih =>
      intro i h k h1 h2
      simp only [secN, Bool.and_eq_true] at h
      by_cases e : k = i
      · subst e; exact h.1.1
      · exact ih (i + 1) h.2 k (by omega) (by omega)
  intro i hi
  have := key _ 0 h.1 i (by omega) (by omega)
  unfold secRow secB at this
  rw [decide_eq_true_eq] at this
  rw [dirB_iff, dirB_iff]
  omega
def atO (ds : List D) : Bool := secsB (rAt ds 0) && dirB (iAt ds 1) (iAt ds 2)
theorem hasR_6 (a b c d x y : Int) : hasR6 [.i a, .i b, .i c, .i d, .i x, .i y] = hasB a b c d x y := rfl
theorem dirL_2 (a b : Int) : dirL [.i a, .i b] = dirB a b := rfl
theorem gR5A : GivesIf Tryz.prog 111 [secs, pt] (fun ds => atO ds = true) (fun ds => .agg #[.int .i64 (shCL ds), .int .i64 (shRL ds)]) := by
  refine fn_gives KX (by kernel_rfl) (fun ρ h => ctR8_ok (Sees.of h 102)) (by kernel_rfl) trR5A_is trR5A_low (by decide) (fun W vals ds hr hok => ?_)
  rw [atO, Bool.and_eq_true] at hok
  obtain ⟨hS, hD⟩ := hok
  have hlen := secsB_len hS
  simp only [trR5A]
  have hP : shCL ds = shC (rAt ds 0) (iAt ds 1) (iAt ds 2) := rfl
  have hQ : shRL ds = shR (rAt ds 0) (iAt ds 1) (iAt ds 2) := rfl
  rw [hP, hQ]
  clear hP hQ hr
  generalize e0 : rAt ds 0 = r at *
  generalize e1 : iAt ds 1 = x at *
  generalize e2 : iAt ds 2 = y at *
  refine TT.sat_loop (fun v => ∃ i : Nat, v.i 0 = i ∧ i ≤ r.length ∧ shI r x y (r.length - i) i = shI r x y r.length 0) (fun v => r.length - (v.i 0).toNat)
    ⟨0, by simp [val_i, aget, E.ev], by omega, rfl⟩ (fun v hv => ?_)
  obtain ⟨i, i0, i1, i2⟩ := hv
  simp only [TT.sat_ret, TT.sat_ite, TT.sat_ob, TT.sat_next, TT.sat_stuck, put_i, put_b, put_d, put_fi, put_fb, put_fd, Ob.ok, B.ev, E.ev, X.ev, AL.ev, cmp_t, cmp_f, arEv, V.plain, V2.plain, S.plain, S0.plain, V.val, V2.val, S.val, S0.val, bV, iV, List.all_cons, List.all_nil, Bool.and_true, Bool.and_self, envOf_i, envOf_b, envOf_d, List.map_cons, List.map_nil, true_and, Bool.not_eq_true', Bool.not_eq_false', Bool.not_not, Bool.and_eq_true, and_f, cell_lg, cell_lb, cell_lr, cmpP, val_i, val_b, val_d, aget, Nat.reduceBEq, beq_self_eq_true, Bool.false_eq_true, if_true, if_false, Nat.reduceLT, Nat.reduceSub, Nat.sub_self, Nat.lt_irrefl, i0, e0, e1, e2, KXb99, KXb100, hasR_6, dirL_2]
  refine ⟨fun hc => ?_, fun hc => ?_⟩
  · have hi : i < r.length := by omega
    obtain ⟨f, hf⟩ : ∃ f, r.length - i = f + 1 := ⟨r.length - i - 1, by omega⟩
    have hf' : r.length - (i + 1) = f := by omega
    rw [hf, shI] at i2
    obtain ⟨g1, g2⟩ := secs_dirs7 hS i hi
    refine ⟨by omega, by omega, by omega, by omega, g1, g2, hD, fun h => ⟨by omega, by omega, by omega, by omega, ?_⟩, fun h => ?_⟩
    · rw [if_pos h] at i2
      rw [shC, shR, ← i2, if_pos hi, if_pos hi]
    · rw [if_neg (by rw [h]; decide)] at i2
      rw [wrap_in ((i : Int) + 1) (by omega) (by omega)]
      exact ⟨⟨i + 1, rfl, by omega, by rw [hf']; exact i2⟩, by omega⟩
  · have h0 : i = r.length := by omega
    subst h0
    rw [Nat.sub_self, shI] at i2
    rw [shC, shR, ← i2, if_neg (by omega), if_neg (by omega)]
end Go.Proofs.YtglepdhapakmbaaGreat
/- Chapter 07: contracts of the reference's opens, nearer, At. -/
namespace Go.Proofs.YtglepdhapakmbaaGreat
open Go.RowKit
def KWa : Interp where
  fi n l := match n with | 106 => shCL l | 107 => shRL l | n => KX.fi n l
  fb n l := match n with | 102 => opdL l | 103 => nrrL l | 104 => opdO l | 105 => atO l | n => KX.fb n l
  fd _ _ := []
theorem KWa_KX {ρ : Env} (h : Sees ρ KWa 112) : Sees ρ KX 102 := h.trans (by decide) fun n l hn => by
  refine ⟨?_, ?_⟩
  ·
    simp only [KWa]
    split <;> first | omega | rfl
  ·
    simp only [KWa]
    split <;> first | omega | rfl
theorem KWa_KG {ρ : Env} (h : Sees ρ KWa 112) : Sees ρ KG 80 := KX_KG (KWa_KX h)
def cR3O := ctD [pts, it, pt] fun al => .ob (.tru (bF 104 opdO al)) (.ret (bV (bF 102 opdL al)))
theorem cR3O_ok {ρ : Env} (h : Sees ρ KWa 112) : CtOne Tryz.prog ρ 105 cR3O := by
  refine ctD_if gR3O (fun al v hv => ?_)
  obtain ⟨ho, hv⟩ := hv
  obtain rfl := res_ret hv
  refine ⟨rfl, ?_, ?_⟩
  · have h1 : (bF 104 opdO al).ev ρ = true := ho
    rw [bF_ev (s := 104) (f := opdO) (fun l => by rw [(h 104 l (by decide)).2]; simp only [KWa, KX, KW, KV, KU, KT, KR, KG, KF, KE, KD, KC, KB, KA, K9, K8, K7, K6, K5, K])] at h1
    exact h1
  · simp only [iV, bV, V.s0, V.val, V2.val, S.val, S0.val, bF_ev (s := 102) (f := opdL) (fun l => by rw [(h 102 l (by decide)).2]; simp only [KWa, KX, KW, KV, KU, KT, KR, KG, KF, KE, KD, KC, KB, KA, K9, K8, K7, K6, K5, K])]; try rfl
def oNrr (al : AL) : T V := match al with
  | .i a (.i b (.i c (.i d (.i e (.i f (.i r .nil)))))) => T.obs [.tru (.fn 1 (.i a (.i b (.i c (.i d (.i e (.i f .nil))))))), .tru (.cmpS .leq (.lit 0) r), .tru (.cmpS .leq r (.lit 3000000))] (.ret (bV (bF 103 nrrL al)))
  | _ => .stuck "nearer"
def cNrr := ctD [pt, pt, pt, it] oNrr
theorem cNrr_ok {ρ : Env} (h : Sees ρ KWa 112) : CtOne Tryz.prog ρ 88 cNrr := by
  refine ctD_if gR3N (fun al v hv => ?_)
  have h1 : ∀ l, ρ.fb 1 l = six6 l := fun l => by rw [(KWa_KG h 1 l (by decide)).2]; simp only [KG, KF, KE, KD, KC, KB, KA, K9, K8, K7, K6, K5, K]
  unfold oNrr at hv
  split at hv
  · rename_i a b c d e f r
    obtain ⟨ho, hv⟩ := T.res_obs hv
    obtain rfl := res_ret hv
    have o1 := ho _ (List.mem_cons_self ..)
    have o2 := ho _ (List.mem_cons_of_mem _ (List.mem_cons_self ..))
    have o3 := ho _ (List.mem_cons_of_mem _ (List.mem_cons_of_mem _ (List.mem_cons_self ..)))
    simp only [Ob.ok, B.cmpS_ev, cmp_t, cmpP, E.ev, B.ev, AL.ev, h1] at o1 o2 o3
    refine ⟨rfl, ?_, ?_⟩
    · show (six6 _ && distB (r.ev ρ)) = true
      rw [Bool.and_eq_true, distB, decide_eq_true_eq]
      exact ⟨o1, o2, o3⟩
    · simp only [bV, V.s0, V.val, V2.val, S.val, S0.val, bF_ev (s := 103) (f := nrrL) (fun l => by rw [(h 103 l (by decide)).2]; simp only [KWa])]
  · exact hv.elim
def cR5A := ctD [secs, pt] fun al => .ob (.tru (bF 105 atO al)) (.ret (.v (.agg [sIF 106 shCL al, sIF 107 shRL al])))
theorem cR5A_ok {ρ : Env} (h : Sees ρ KWa 112) : CtOne Tryz.prog ρ 111 cR5A := by
  refine ctD_if gR5A (fun al v hv => ?_)
  obtain ⟨ho, hv⟩ := hv
  obtain rfl := res_ret hv
  refine ⟨rfl, ?_, ?_⟩
  · have h1 : (bF 105 atO al).ev ρ = true := ho
    rw [bF_ev (s := 105) (f := atO) (fun l => by rw [(h 105 l (by decide)).2]; simp only [KWa])] at h1
    exact h1
  · simp only [V.val, V2.val, S.val, S0.val, sIF, List.map_cons, List.map_nil, iF_ev (s := 106) (f := shCL) (fun l => by rw [(h 106 l (by decide)).1]; simp only [KWa]), iF_ev (s := 107) (f := shRL) (fun l => by rw [(h 107 l (by decide)).1]; simp only [KWa])]
    try rfl
def ctW1 : Ct := (105, cR3O) :: (88, cNrr) :: (111, cR5A) :: ctR8
theorem ctW1_ok {ρ : Env} (h : Sees ρ KWa 112) : CtOk Tryz.prog ρ ctW1 := .cons (cR3O_ok h) <| .cons (cNrr_ok h) <| .cons (cR5A_ok h) (ctR8_ok (KWa_KX h))
end Go.Proofs.YtglepdhapakmbaaGreat
/- Chapter 07: trees of the reference's leads; layer 5's Turns. -/
namespace Go.Proofs.YtglepdhapakmbaaGreat
open Go.RowKit
-- term trR3Le: call Tryz.prog ctW1 (Lt.of []) 100 103 (symArgs 0 [pts, pt, pt]) [] 0
def trR3Le : TT OpR :=
(.loop 0 3000 ⟨[(0, (.lit 0))], [], []⟩
 (.ite (.cmp .lss (.var 3000) (.len (.var 0)))
 (.ob (.tru (.cmp .leq (.lit 0) (.var 3000)))
 (.ob (.tru (.cmp .lss (.var 3000) (.len (.var 0))))
 (.ite (.and (.cmp .eql (.rd (.var 0) (.var 3000) 0) (.var 1)) (.cmp .eql (.rd (.var 0) (.var 3000) 1) (.var 2)))
 (.ob (.tru (.fn 104 (.x (.var 0) (.i (.var 3000) (.i (.var 3) (.i (.var 4) .nil))))))
 (.ret ((.v (.one (.z (.bool (.fn 102 (.x (.var 0) (.i (.var 3000) (.i (.var 3) (.i (.var 4) .nil))))))))), [], 3)))
 (.next 0 ⟨[(0, (.ar .add .i64 (.var 3000) (.lit 1)))], [], []⟩))))
 (.loop 1 4000 ⟨[(0, (.lit 0))], [], []⟩
 (.ite (.cmp .lss (.var 4000) (.len (.var 0)))
 (.ob (.tru (.cmp .leq (.lit 0) (.var 4000)))
 (.ob (.tru (.cmp .lss (.var 4000) (.len (.var 0))))
 (.ob (.tru (.cmp .neq (.len (.var 0)) (.lit 0)))
 (.ob (.tru (.cmp .leq (.lit 0) (.ar .rem .i64 (.ar .add .i64 (.var 4000) (.lit 1)) (.len (.var 0)))))
 (.ob (.tru (.cmp .lss (.ar .rem .i64 (.ar .add .i64 (.var 4000) (.lit 1)) (.len (.var 0))) (.len (.var 0))))
 (.ob (.tru (.fn 1 (.i (.var 1) (.i (.var 2) (.i (.rd (.var 0) (.var 4000) 0) (.i (.rd (.var 0) (.var 4000) 1) (.i (.rd (.var 0) (.ar .rem .i64 (.ar .add .i64 (.var 4000) (.lit 1)) (.len (.var 0))) 0) (.i (.rd (.var 0) (.ar .rem .i64 (.ar .add .i64 (.var 4000) (.lit 1)) (.len (.var 0))) 1) .nil))))))))
 (.ite (.fn 4 (.i (.var 1) (.i (.var 2) (.i (.rd (.var 0) (.var 4000) 0) (.i (.rd (.var 0) (.var 4000) 1) (.i (.rd (.var 0) (.ar .rem .i64 (.ar .add .i64 (.var 4000) (.lit 1)) (.len (.var 0))) 0) (.i (.rd (.var 0) (.ar .rem .i64 (.ar .add .i64 (.var 4000) (.lit 1)) (.len (.var 0))) 1) .nil)))))))
 (.ob (.tru (.cmp .neq (.len (.var 0)) (.lit 0)))
 (.ob (.tru (.cmp .leq (.lit 0) (.ar .rem .i64 (.ar .add .i64 (.var 4000) (.lit 1)) (.len (.var 0)))))
 (.ob (.tru (.cmp .lss (.ar .rem .i64 (.ar .add .i64 (.var 4000) (.lit 1)) (.len (.var 0))) (.len (.var 0))))
 (.ob (.tru (.cmp .leq (.lit 0) (.var 4000)))
 (.ob (.tru (.cmp .lss (.var 4000) (.len (.var 0))))
 (.ret ((.v (.one (.z (.bool (.cmp .geq (.ar .sub .i64 (.ar .mul .i64 (.ar .sub .i64 (.rd (.var 0) (.ar .rem .i64 (.ar .add .i64 (.var 4000) (.lit 1)) (.len (.var 0))) 0) (.rd (.var 0) (.var 4000) 0)) (.var 4)) (.ar .mul .i64 (.ar .sub .i64 (.rd (.var 0) (.ar .rem .i64 (.ar .add .i64 (.var 4000) (.lit 1)) (.len (.var 0))) 1) (.rd (.var 0) (.var 4000) 1)) (.var 3))) (.lit 0)))))), [], 11)))))))
 (.next 1 ⟨[(0, (.ar .add .i64 (.var 4000) (.lit 1)))], [], []⟩))))))))
 (.ret ((.v (.one (.z (.bool (.lit true))))), [], 11))))))
-- end trR3Le
def trR3Le_h : List (Nat × St) := [
(2, ⟨(List.append [(.v (.one (.z (.ext [(.int .i64), (.int .i64)] (.var 0) false)))), (.v (.agg [(.z (.int .i64 (.var 1))), (.z (.int .i64 (.var 2)))])), (.v (.agg [(.z (.int .i64 (.var 3))), (.z (.int .i64 (.var 4)))])), (.v (.one (.z .any))), (.v (.one (.z (.ptr 0 0)))), (.v (.one (.z (.ptr 1 0)))), (.v (.one (.z (.bool (.lit false))))), (.v (.one (.z (.int .i64 (.var 3000)))))] (List.replicate 43 V.any)), [(1, (.cells 23 [(.z (.int .i64 (.var 3))), (.z (.int .i64 (.var 4)))])), (0, (.cells 23 [(.z (.int .i64 (.var 1))), (.z (.int .i64 (.var 2)))]))], 3, []⟩),
(3, ⟨(List.append [(.v (.one (.z (.ext [(.int .i64), (.int .i64)] (.var 0) false)))), (.v (.agg [(.z (.int .i64 (.var 1))), (.z (.int .i64 (.var 2)))])), (.v (.agg [(.z (.int .i64 (.var 3))), (.z (.int .i64 (.var 4)))])), (.v (.one (.z .any))), (.v (.one (.z (.ptr 0 0)))), (.v (.one (.z (.ptr 1 0)))), (.v (.one (.z (.bool (.lit false))))), (.v (.one (.z (.int .i64 (.var 3000))))), (.v (.one (.z (.int .i64 (.var 4000))))), (.v (.one (.z (.int .i64 (.var 3000))))), (.v (.one (.z (.ext [(.int .i64), (.int .i64)] (.var 0) false)))), (.v (.one (.z (.int .i64 (.len (.var 0)))))), (.v (.one (.z (.bool (.cmp .lss (.var 3000) (.len (.var 0)))))))] (List.replicate 38 V.any)), [(1, (.cells 23 [(.z (.int .i64 (.var 3))), (.z (.int .i64 (.var 4)))])), (0, (.cells 23 [(.z (.int .i64 (.var 1))), (.z (.int .i64 (.var 2)))]))], 4, []⟩)]
def trR3Le_j : List (FuncId × Nat × Nat × St) := [
]
set_option maxRecDepth 100000 in
theorem trR3Le_is : T.norm 0 (call Tryz.prog ctW1 ⟨Lt.un (Lt.of []), trR3Le_h, trR3Le_j⟩ 100 103 (symArgs 0 [pts, pt, pt]) [] 0) TT.ret = trR3Le := by kernel_rfl
theorem trR3Le_low : trR3Le.low 1000 = true := by kernel_rfl
-- term trR3Di: call Tryz.prog ctW1 (Lt.of []) 100 64 (symArgs 0 [pts, pt, it]) [] 0
def trR3Di : TT OpR :=
(.ite (.cmp .geq (.var 3) (.lit 0))
 (.ite (.not (.fn 69 (.x (.var 0) .nil)))
 (.ret ((.tup [(.one (.z (.int .i64 (.lit 0)))), (.one (.z (.int .i64 (.lit 1))))]), [], 1))
 (.ite (.not (.fn 3 (.i (.var 1) (.i (.var 2) .nil))))
 (.ret ((.tup [(.one (.z (.int .i64 (.lit 0)))), (.one (.z (.int .i64 (.lit 1))))]), [], 1))
 (.ite (.not (.cmp .leq (.var 3) (.lit 3000000)))
 (.ret ((.tup [(.one (.z (.int .i64 (.lit 0)))), (.one (.z (.int .i64 (.lit 1))))]), [], 1))
 (.loop 0 2000 ⟨[(2, (.lit 0))], [(0, (.lit false)), (1, (.lit false))], []⟩
 (.ite (.cmp .lss (.var 2002) (.len (.var 0)))
 (.ite (.var 2000)
 (.ite (.var 2001)
 (.next 0 ⟨[(2, (.ar .add .i64 (.var 2002) (.lit 1)))], [(0, (.lit true)), (1, (.lit true))], []⟩)
 (.ob (.tru (.cmp .leq (.lit 0) (.var 2002)))
 (.ob (.tru (.cmp .lss (.var 2002) (.len (.var 0))))
 (.ob (.tru (.cmp .neq (.len (.var 0)) (.lit 0)))
 (.ob (.tru (.cmp .leq (.lit 0) (.ar .rem .i64 (.ar .add .i64 (.var 2002) (.lit 1)) (.len (.var 0)))))
 (.ob (.tru (.cmp .lss (.ar .rem .i64 (.ar .add .i64 (.var 2002) (.lit 1)) (.len (.var 0))) (.len (.var 0))))
 (.ob (.tru (.fn 1 (.i (.var 1) (.i (.var 2) (.i (.rd (.var 0) (.var 2002) 0) (.i (.rd (.var 0) (.var 2002) 1) (.i (.rd (.var 0) (.ar .rem .i64 (.ar .add .i64 (.var 2002) (.lit 1)) (.len (.var 0))) 0) (.i (.rd (.var 0) (.ar .rem .i64 (.ar .add .i64 (.var 2002) (.lit 1)) (.len (.var 0))) 1) .nil))))))))
 (.ob (.tru (.cmp .leq (.lit 0) (.var 3)))
 (.ob (.tru (.cmp .leq (.var 3) (.lit 3000000)))
 (.next 0 ⟨[(2, (.ar .add .i64 (.var 2002) (.lit 1)))], [(0, (.lit true)), (1, (.fn 103 (.i (.var 1) (.i (.var 2) (.i (.rd (.var 0) (.var 2002) 0) (.i (.rd (.var 0) (.var 2002) 1) (.i (.rd (.var 0) (.ar .rem .i64 (.ar .add .i64 (.var 2002) (.lit 1)) (.len (.var 0))) 0) (.i (.rd (.var 0) (.ar .rem .i64 (.ar .add .i64 (.var 2002) (.lit 1)) (.len (.var 0))) 1) (.i (.var 3) .nil)))))))))], []⟩))))))))))
 (.ob (.tru (.cmp .leq (.lit 0) (.var 2002)))
 (.ob (.tru (.cmp .lss (.var 2002) (.len (.var 0))))
 (.ob (.tru (.cmp .neq (.len (.var 0)) (.lit 0)))
 (.ob (.tru (.cmp .leq (.lit 0) (.ar .rem .i64 (.ar .add .i64 (.var 2002) (.lit 1)) (.len (.var 0)))))
 (.ob (.tru (.cmp .lss (.ar .rem .i64 (.ar .add .i64 (.var 2002) (.lit 1)) (.len (.var 0))) (.len (.var 0))))
 (.ob (.tru (.fn 1 (.i (.var 1) (.i (.var 2) (.i (.rd (.var 0) (.var 2002) 0) (.i (.rd (.var 0) (.var 2002) 1) (.i (.rd (.var 0) (.ar .rem .i64 (.ar .add .i64 (.var 2002) (.lit 1)) (.len (.var 0))) 0) (.i (.rd (.var 0) (.ar .rem .i64 (.ar .add .i64 (.var 2002) (.lit 1)) (.len (.var 0))) 1) .nil))))))))
 (.ob (.tru (.cmp .leq (.lit 0) (.var 3)))
 (.ob (.tru (.cmp .leq (.var 3) (.lit 3000000)))
 (.ite (.var 2001)
 (.next 0 ⟨[(2, (.ar .add .i64 (.var 2002) (.lit 1)))], [(0, (.fn 2 (.i (.var 1) (.i (.var 2) (.i (.rd (.var 0) (.var 2002) 0) (.i (.rd (.var 0) (.var 2002) 1) (.i (.rd (.var 0) (.ar .rem .i64 (.ar .add .i64 (.var 2002) (.lit 1)) (.len (.var 0))) 0) (.i (.rd (.var 0) (.ar .rem .i64 (.ar .add .i64 (.var 2002) (.lit 1)) (.len (.var 0))) 1) (.i (.var 3) .nil))))))))), (1, (.lit true))], []⟩)
 (.ob (.tru (.cmp .leq (.lit 0) (.var 2002)))
 (.ob (.tru (.cmp .lss (.var 2002) (.len (.var 0))))
 (.ob (.tru (.cmp .neq (.len (.var 0)) (.lit 0)))
 (.ob (.tru (.cmp .leq (.lit 0) (.ar .rem .i64 (.ar .add .i64 (.var 2002) (.lit 1)) (.len (.var 0)))))
 (.ob (.tru (.cmp .lss (.ar .rem .i64 (.ar .add .i64 (.var 2002) (.lit 1)) (.len (.var 0))) (.len (.var 0))))
 (.ob (.tru (.fn 1 (.i (.var 1) (.i (.var 2) (.i (.rd (.var 0) (.var 2002) 0) (.i (.rd (.var 0) (.var 2002) 1) (.i (.rd (.var 0) (.ar .rem .i64 (.ar .add .i64 (.var 2002) (.lit 1)) (.len (.var 0))) 0) (.i (.rd (.var 0) (.ar .rem .i64 (.ar .add .i64 (.var 2002) (.lit 1)) (.len (.var 0))) 1) .nil))))))))
 (.ob (.tru (.cmp .leq (.lit 0) (.var 3)))
 (.ob (.tru (.cmp .leq (.var 3) (.lit 3000000)))
 (.next 0 ⟨[(2, (.ar .add .i64 (.var 2002) (.lit 1)))], [(0, (.fn 2 (.i (.var 1) (.i (.var 2) (.i (.rd (.var 0) (.var 2002) 0) (.i (.rd (.var 0) (.var 2002) 1) (.i (.rd (.var 0) (.ar .rem .i64 (.ar .add .i64 (.var 2002) (.lit 1)) (.len (.var 0))) 0) (.i (.rd (.var 0) (.ar .rem .i64 (.ar .add .i64 (.var 2002) (.lit 1)) (.len (.var 0))) 1) (.i (.var 3) .nil))))))))), (1, (.fn 103 (.i (.var 1) (.i (.var 2) (.i (.rd (.var 0) (.var 2002) 0) (.i (.rd (.var 0) (.var 2002) 1) (.i (.rd (.var 0) (.ar .rem .i64 (.ar .add .i64 (.var 2002) (.lit 1)) (.len (.var 0))) 0) (.i (.rd (.var 0) (.ar .rem .i64 (.ar .add .i64 (.var 2002) (.lit 1)) (.len (.var 0))) 1) (.i (.var 3) .nil)))))))))], []⟩)))))))))))))))))))
 (.ob (.tru (.fn 3 (.i (.var 1) (.i (.var 2) .nil))))
 (.ob (.tru (.fn 69 (.x (.var 0) .nil)))
 (.ite (.cmp .geq (.fn 98 (.i (.var 1) (.i (.var 2) (.x (.var 0) .nil)))) (.lit 0))
 (.ite (.not (.var 2001))
 (.ret ((.tup [(.one (.z (.int .i64 (.lit 1)))), (.one (.z (.int .i64 (.lit 0))))]), [], 4))
 (.ite (.cmp .lss (.fn 98 (.i (.var 1) (.i (.var 2) (.x (.var 0) .nil)))) (.lit 0))
 (.ite (.not (.var 2000))
 (.ret ((.tup [(.one (.z (.int .i64 (.lit (-1))))), (.one (.z (.int .i64 (.lit 0))))]), [], 4))
 (.ret ((.tup [(.one (.z (.int .i64 (.lit 0)))), (.one (.z (.int .i64 (.lit 0))))]), [], 4)))
 (.ret ((.tup [(.one (.z (.int .i64 (.lit 0)))), (.one (.z (.int .i64 (.lit 0))))]), [], 4))))
 (.ite (.cmp .lss (.fn 98 (.i (.var 1) (.i (.var 2) (.x (.var 0) .nil)))) (.lit 0))
 (.ite (.not (.var 2000))
 (.ret ((.tup [(.one (.z (.int .i64 (.lit (-1))))), (.one (.z (.int .i64 (.lit 0))))]), [], 4))
 (.ret ((.tup [(.one (.z (.int .i64 (.lit 0)))), (.one (.z (.int .i64 (.lit 0))))]), [], 4)))
 (.ret ((.tup [(.one (.z (.int .i64 (.lit 0)))), (.one (.z (.int .i64 (.lit 0))))]), [], 4)))))))))))
 (.ite (.not (.fn 69 (.x (.var 0) .nil)))
 (.ret ((.tup [(.one (.z (.int .i64 (.lit 0)))), (.one (.z (.int .i64 (.lit 1))))]), [], 1))
 (.ite (.not (.fn 3 (.i (.var 1) (.i (.var 2) .nil))))
 (.ret ((.tup [(.one (.z (.int .i64 (.lit 0)))), (.one (.z (.int .i64 (.lit 1))))]), [], 1))
 (.ret ((.tup [(.one (.z (.int .i64 (.lit 0)))), (.one (.z (.int .i64 (.lit 1))))]), [], 1)))))
-- end trR3Di
def trR3Di_h : List (Nat × St) := [
(1, ⟨(List.append [(.v (.one (.z (.ext [(.int .i64), (.int .i64)] (.var 0) false)))), (.v (.agg [(.z (.int .i64 (.var 1))), (.z (.int .i64 (.var 2)))])), (.v (.one (.z (.int .i64 (.var 3))))), (.v (.one (.z .any))), (.v (.one (.z (.ptr 0 0)))), (.v (.one (.z .any))), (.v (.one (.z (.int .i64 (.lit 0))))), (.v (.one (.z (.int .i64 (.lit 0))))), (.v (.one (.z (.bool (.fn 69 (.x (.var 0) .nil)))))), (.v (.one (.z (.bool (.fn 3 (.i (.var 1) (.i (.var 2) .nil))))))), (.v (.one (.z (.bool (.cmp .leq (.var 3) (.lit 3000000)))))), (.v (.one (.z (.bool (.var 2000))))), (.v (.one (.z (.bool (.var 2001))))), (.v (.one (.z (.int .i64 (.var 2002))))), (.v (.one (.z .any))), (.v (.one (.z (.ext [(.int .i64), (.int .i64)] (.var 0) false)))), (.v (.one (.z (.bool (.fn 69 (.x (.var 0) .nil)))))), (.v (.agg [(.z (.int .i64 (.var 1))), (.z (.int .i64 (.var 2)))])), (.v (.one (.z (.bool (.fn 3 (.i (.var 1) (.i (.var 2) .nil))))))), (.v (.one (.z (.int .i64 (.var 3))))), (.v (.one (.z (.bool (.cmp .leq (.var 3) (.lit 3000000)))))), (.v (.one (.z (.bool (.fn 69 (.x (.var 0) .nil)))))), (.v (.one (.z (.bool (.not (.fn 69 (.x (.var 0) .nil))))))), (.v (.one (.z (.bool (.lit false))))), (.v (.one (.z (.bool (.fn 3 (.i (.var 1) (.i (.var 2) .nil))))))), (.v (.one (.z (.bool (.not (.fn 3 (.i (.var 1) (.i (.var 2) .nil)))))))), (.v (.one (.z (.bool (.not (.fn 3 (.i (.var 1) (.i (.var 2) .nil)))))))), (.v (.one (.z (.bool (.lit false))))), (.v (.one (.z (.bool (.cmp .leq (.var 3) (.lit 3000000)))))), (.v (.one (.z (.bool (.not (.cmp .leq (.var 3) (.lit 3000000))))))), (.v (.one (.z (.bool (.not (.cmp .leq (.var 3) (.lit 3000000)))))))] (List.replicate 47 V.any)), [(0, (.cells 23 [(.z (.int .i64 (.var 1))), (.z (.int .i64 (.var 2)))]))], 2, []⟩)]
def trR3Di_j : List (FuncId × Nat × Nat × St) := [
]
set_option maxRecDepth 100000 in
theorem trR3Di_is : T.norm 0 (call Tryz.prog ctW1 ⟨Lt.un (Lt.of []), trR3Di_h, trR3Di_j⟩ 100 64 (symArgs 0 [pts, pt, it]) [] 0) TT.ret = trR3Di := by kernel_rfl
theorem trR3Di_low : trR3Di.low 1000 = true := by kernel_rfl
-- term trR5Sa: call Tryz.prog ctW1 (Lt.of []) 100 67 (symArgs 0 [secs, secs]) [] 0
def trR5Sa : TT OpR :=
(.ite (.not (.fn 75 (.x (.var 1) .nil)))
 (.ret ((.tup [(.one (.z (.bool (.lit false)))), (.one (.z (.int .i64 (.lit 1))))]), [], 0))
 (.ite (.not (.fn 75 (.x (.var 0) .nil)))
 (.ret ((.tup [(.one (.z (.bool (.lit false)))), (.one (.z (.int .i64 (.lit 1))))]), [], 0))
 (.loop 0 1000 ⟨[(0, (.lit 0)), (2, (.lit 0)), (0, (.lit 0))], [], [(1, .nil)]⟩
 (.ite (.cmp .lss (.var 1002) (.len (.var 1)))
 (.ob (.tru (.cmp .leq (.lit 0) (.var 1002)))
 (.ob (.tru (.cmp .lss (.var 1002) (.len (.var 1))))
 (.ob (.tru (.cmp .leq (.lit 0) (.var 1002)))
 (.ob (.tru (.cmp .lss (.var 1002) (.len (.var 1))))
 (.ob (.tru (.cmp .leq (.len (.app (.var 1001) (.app (.row (.i (.rd (.var 1) (.var 1002) 0) (.i (.rd (.var 1) (.var 1002) 1) .nil))) (.app (.row (.i (.rd (.var 1) (.var 1002) 2) (.i (.rd (.var 1) (.var 1002) 3) .nil))) .nil)))) (.lit 1000000)))
 (.next 0 ⟨[(0, (.plus (.var 1000) (.lit 1))), (2, (.ar .add .i64 (.var 1002) (.lit 1))), (0, (.plus (.var 1000) (.lit 1)))], [], [(1, (.app (.var 1001) (.app (.row (.i (.rd (.var 1) (.var 1002) 0) (.i (.rd (.var 1) (.var 1002) 1) .nil))) (.app (.row (.i (.rd (.var 1) (.var 1002) 2) (.i (.rd (.var 1) (.var 1002) 3) .nil))) .nil))))]⟩))))))
 (.loop 1 4000 ⟨[(0, (.var 1000)), (1, (.lit 0)), (0, (.var 1000))], [], [(2, (.var 1001))]⟩
 (.ite (.cmp .lss (.var 4001) (.len (.var 0)))
 (.ob (.tru (.cmp .leq (.lit 0) (.var 4001)))
 (.ob (.tru (.cmp .lss (.var 4001) (.len (.var 0))))
 (.ob (.tru (.cmp .leq (.lit 0) (.var 4001)))
 (.ob (.tru (.cmp .lss (.var 4001) (.len (.var 0))))
 (.ob (.tru (.cmp .leq (.len (.app (.var 4002) (.app (.row (.i (.rd (.var 0) (.var 4001) 0) (.i (.rd (.var 0) (.var 4001) 1) .nil))) (.app (.row (.i (.rd (.var 0) (.var 4001) 2) (.i (.rd (.var 0) (.var 4001) 3) .nil))) .nil)))) (.lit 1000000)))
 (.next 1 ⟨[(0, (.plus (.var 4000) (.lit 1))), (1, (.ar .add .i64 (.var 4001) (.lit 1))), (0, (.plus (.var 4000) (.lit 1)))], [], [(2, (.app (.var 4002) (.app (.row (.i (.rd (.var 0) (.var 4001) 0) (.i (.rd (.var 0) (.var 4001) 1) .nil))) (.app (.row (.i (.rd (.var 0) (.var 4001) 2) (.i (.rd (.var 0) (.var 4001) 3) .nil))) .nil))))]⟩))))))
 (.loop 2 6000 ⟨[(0, (.lit 0))], [], []⟩
 (.ite (.cmp .lss (.var 6000) (.len (.var 4002)))
 (.ob (.tru (.cmp .leq (.lit 0) (.var 6000)))
 (.ob (.tru (.cmp .lss (.var 6000) (.len (.var 4002))))
 (.ob (.tru (.fn 105 (.x (.var 1) (.i (.rd (.var 4002) (.var 6000) 0) (.i (.rd (.var 4002) (.var 6000) 1) .nil)))))
 (.ob (.tru (.cmp .leq (.lit 0) (.var 6000)))
 (.ob (.tru (.cmp .lss (.var 6000) (.len (.var 4002))))
 (.ob (.tru (.fn 105 (.x (.var 0) (.i (.rd (.var 4002) (.var 6000) 0) (.i (.rd (.var 4002) (.var 6000) 1) .nil)))))
 (.ite (.cmp .eql (.fn 106 (.x (.var 1) (.i (.rd (.var 4002) (.var 6000) 0) (.i (.rd (.var 4002) (.var 6000) 1) .nil)))) (.lit 1))
 (.ite (.cmp .neq (.fn 106 (.x (.var 0) (.i (.rd (.var 4002) (.var 6000) 0) (.i (.rd (.var 4002) (.var 6000) 1) .nil)))) (.lit 1))
 (.ret ((.tup [(.one (.z (.bool (.lit true)))), (.one (.z (.int .i64 (.lit 0))))]), [], 8))
 (.ite (.cmp .lss (.fn 107 (.x (.var 0) (.i (.rd (.var 4002) (.var 6000) 0) (.i (.rd (.var 4002) (.var 6000) 1) .nil)))) (.fn 107 (.x (.var 1) (.i (.rd (.var 4002) (.var 6000) 0) (.i (.rd (.var 4002) (.var 6000) 1) .nil)))))
 (.ret ((.tup [(.one (.z (.bool (.lit true)))), (.one (.z (.int .i64 (.lit 0))))]), [], 8))
 (.next 2 ⟨[(0, (.ar .add .i64 (.var 6000) (.lit 1)))], [], []⟩)))
 (.next 2 ⟨[(0, (.ar .add .i64 (.var 6000) (.lit 1)))], [], []⟩))))))))
 (.ret ((.tup [(.one (.z (.bool (.lit false)))), (.one (.z (.int .i64 (.lit 0))))]), [], 8))))))))))
-- end trR5Sa
def trR5Sa_h : List (Nat × St) := [
(0, ⟨(List.append [(.v (.one (.z (.ext [(.int .i64), (.int .i64), (.int .i64), (.int .i64), (.int .i64), (.int .i64)] (.var 1) false)))), (.v (.one (.z (.ext [(.int .i64), (.int .i64), (.int .i64), (.int .i64), (.int .i64), (.int .i64)] (.var 0) false)))), (.v (.one (.z .any))), (.v (.one (.z .any))), (.v (.one (.z (.const (.slice none 0 0))))), (.v (.one (.z (.own 1 (.var 1000))))), (.v (.one (.z (.int .i64 (.var 1002)))))] (List.replicate 40 V.any)), [(1, (.own 23 [(.int .i64), (.int .i64)] (.var 1001) (.var 1000)))], 2, []⟩),
(3, ⟨(List.append [(.v (.one (.z (.ext [(.int .i64), (.int .i64), (.int .i64), (.int .i64), (.int .i64), (.int .i64)] (.var 1) false)))), (.v (.one (.z (.ext [(.int .i64), (.int .i64), (.int .i64), (.int .i64), (.int .i64), (.int .i64)] (.var 0) false)))), (.v (.one (.z .any))), (.v (.one (.z .any))), (.v (.one (.z (.const (.slice none 0 0))))), (.v (.one (.z (.own 1 (.var 4000))))), (.v (.one (.z (.int .i64 (.var 1002))))), (.v (.one (.z (.int .i64 (.var 4001))))), (.v (.one (.z (.int .i64 (.var 1002))))), (.v (.one (.z (.ext [(.int .i64), (.int .i64), (.int .i64), (.int .i64), (.int .i64), (.int .i64)] (.var 1) false)))), (.v (.one (.z (.int .i64 (.len (.var 1)))))), (.v (.one (.z (.bool (.cmp .lss (.var 1002) (.len (.var 1)))))))] (List.replicate 35 V.any)), [(1, (.own 23 [(.int .i64), (.int .i64)] (.var 4002) (.var 4000)))], 4, []⟩),
(5, ⟨(List.append [(.v (.one (.z (.ext [(.int .i64), (.int .i64), (.int .i64), (.int .i64), (.int .i64), (.int .i64)] (.var 1) false)))), (.v (.one (.z (.ext [(.int .i64), (.int .i64), (.int .i64), (.int .i64), (.int .i64), (.int .i64)] (.var 0) false)))), (.v (.one (.z (.int .i64 (.lit 1))))), (.v (.one (.z .any))), (.v (.one (.z .any))), (.v (.one (.z .any))), (.v (.one (.z (.bool (.lit false))))), (.v (.one (.z (.int .i64 (.lit 0))))), (.v (.one (.z (.bool (.fn 75 (.x (.var 1) .nil)))))), (.v (.one (.z (.bool (.fn 75 (.x (.var 0) .nil)))))), (.v (.one (.z (.own 1 (.var 4000))))), (.v (.one (.z (.int .i64 (.var 6000))))), (.v (.one (.z .any))), (.v (.one (.z .any))), (.v (.one (.z (.ext [(.int .i64), (.int .i64), (.int .i64), (.int .i64), (.int .i64), (.int .i64)] (.var 1) false)))), (.v (.one (.z (.bool (.fn 75 (.x (.var 1) .nil)))))), (.v (.one (.z (.ext [(.int .i64), (.int .i64), (.int .i64), (.int .i64), (.int .i64), (.int .i64)] (.var 0) false)))), (.v (.one (.z (.bool (.fn 75 (.x (.var 0) .nil)))))), (.v (.one (.z (.bool (.fn 75 (.x (.var 1) .nil)))))), (.v (.one (.z (.bool (.not (.fn 75 (.x (.var 1) .nil))))))), (.v (.one (.z (.bool (.lit false))))), (.v (.one (.z (.bool (.fn 75 (.x (.var 0) .nil)))))), (.v (.one (.z (.bool (.not (.fn 75 (.x (.var 0) .nil))))))), (.v (.one (.z (.bool (.not (.fn 75 (.x (.var 0) .nil))))))), (.v (.one (.z (.bool (.lit false))))), (.v (.one (.z (.int .i64 (.lit 1))))), (.v (.one (.z (.bool (.lit false))))), (.v (.one (.z (.bool (.lit false))))), (.v (.one (.z (.bool (.lit false))))), (.v (.one (.z (.int .i64 (.lit 1))))), (.v (.one (.z (.bool (.lit false))))), (.v (.one (.z (.bool (.lit false))))), (.v (.one (.z (.ext [(.int .i64), (.int .i64), (.int .i64), (.int .i64), (.int .i64), (.int .i64)] (.var 1) false)))), (.v (.one (.z (.ext [(.int .i64), (.int .i64), (.int .i64), (.int .i64), (.int .i64), (.int .i64)] (.var 0) false)))), (.v (.one (.z (.own 1 (.var 4000)))))] (List.replicate 35 V.any)), [(1, (.own 23 [(.int .i64), (.int .i64)] (.var 4002) (.var 4000)))], 6, []⟩)]
def trR5Sa_j : List (FuncId × Nat × Nat × St) := [
]
set_option maxRecDepth 100000 in
theorem trR5Sa_is : T.norm 0 (call Tryz.prog ctW1 ⟨Lt.un (Lt.of []), trR5Sa_h, trR5Sa_j⟩ 100 67 (symArgs 0 [secs, secs]) [] 0) TT.ret = trR5Sa := by kernel_rfl
theorem trR5Sa_low : trR5Sa.low 1000 = true := by kernel_rfl
end Go.Proofs.YtglepdhapakmbaaGreat
/- Chapter 07: the reference's leads, Disc, Safer. -/
namespace Go.Proofs.YtglepdhapakmbaaGreat
open Go.RowKit
theorem KWab1 (W : World) (ds l : List D) : (envOf KWa W ds).fb 1 l = six6 l := by simp only [envOf, KWa, KX, KW, KV, KU, KT, KR, KG, KF, KE, KD, KC, KB, KA, K9, K8, K7, K6, K5, K]
theorem KWab2 (W : World) (ds l : List D) : (envOf KWa W ds).fb 2 l = nearL l := by simp only [envOf, KWa, KX, KW, KV, KU, KT, KR, KG, KF, KE, KD, KC, KB, KA, K9, K8, K7, K6, K5, K]
theorem KWab3 (W : World) (ds l : List D) : (envOf KWa W ds).fb 3 l = placeL l := by simp only [envOf, KWa, KX, KW, KV, KU, KT, KR, KG, KF, KE, KD, KC, KB, KA, K9, K8, K7, K6, K5, K]
theorem KWab4 (W : World) (ds l : List D) : (envOf KWa W ds).fb 4 l = onL l := by simp only [envOf, KWa, KX, KW, KV, KU, KT, KR, KG, KF, KE, KD, KC, KB, KA, K9, K8, K7, K6, K5, K]
theorem KWab69 (W : World) (ds l : List D) : (envOf KWa W ds).fb 69 l = polyL l := by simp only [envOf, KWa, KX, KW, KV, KU, KT, KR, KG, KF, KE, KD, KC, KB, KA, K9, K8, K7, K6, K5, K]
theorem KWab75 (W : World) (ds l : List D) : (envOf KWa W ds).fb 75 l = secsL l := by simp only [envOf, KWa, KX, KW, KV, KU, KT, KR, KG, KF, KE, KD, KC, KB, KA, K9, K8, K7, K6, K5, K]
theorem KWai98 (W : World) (ds l : List D) : (envOf KWa W ds).fi 98 l = plcL l := by simp only [envOf, KWa, KX, KW, KV, KU, KT, KR, KG, KF, KE, KD, KC, KB, KA, K9, K8, K7, K6, K5, K]
theorem KWab102 (W : World) (ds l : List D) : (envOf KWa W ds).fb 102 l = opdL l := by simp only [envOf, KWa, KX, KW, KV, KU, KT, KR, KG, KF, KE, KD, KC, KB, KA, K9, K8, K7, K6, K5, K]
theorem KWab103 (W : World) (ds l : List D) : (envOf KWa W ds).fb 103 l = nrrL l := by simp only [envOf, KWa, KX, KW, KV, KU, KT, KR, KG, KF, KE, KD, KC, KB, KA, K9, K8, K7, K6, K5, K]
theorem KWab104 (W : World) (ds l : List D) : (envOf KWa W ds).fb 104 l = opdO l := by simp only [envOf, KWa, KX, KW, KV, KU, KT, KR, KG, KF, KE, KD, KC, KB, KA, K9, K8, K7, K6, K5, K]
theorem KWab105 (W : World) (ds l : List D) : (envOf KWa W ds).fb 105 l = atO l := by simp only [envOf, KWa, KX, KW, KV, KU, KT, KR, KG, KF, KE, KD, KC, KB, KA, K9, K8, K7, K6, K5, K]
theorem KWai106 (W : World) (ds l : List D) : (envOf KWa W ds).fi 106 l = shCL l := by simp only [envOf, KWa, KX, KW, KV, KU, KT, KR, KG, KF, KE, KD, KC, KB, KA, K9, K8, K7, K6, K5, K]
theorem KWai107 (W : World) (ds l : List D) : (envOf KWa W ds).fi 107 l = shRL l := by simp only [envOf, KWa, KX, KW, KV, KU, KT, KR, KG, KF, KE, KD, KC, KB, KA, K9, K8, K7, K6, K5, K]
theorem opd_four (r : Rows) (i : Nat) (u v : Int) : opdL [.l r, .i i, .i u, .i v] = opDir r i u v := rfl
theorem opdO_four (r : Rows) (i : Nat) (u v : Int) : opdO [.l r, .i i, .i u, .i v] = (polyB r && (decide (0 ≤ (i : Int) ∧ (i : Int) < r.length) && smallD u v)) := rfl
def ledL (ds : List D) : Bool := leDir (rAt ds 0) (iAt ds 1) (iAt ds 2) (iAt ds 3) (iAt ds 4) (rAt ds 0).length 0
def ledO (ds : List D) : Bool := polyB (rAt ds 0) && (placeB (iAt ds 1) (iAt ds 2) && smallD (iAt ds 3) (iAt ds 4))
set_option maxHeartbeats 1000000 in
theorem gR3Le : GivesIf Tryz.prog 103 [pts, pt, pt] (fun ds => ledO ds = true) (fun ds => .bool (ledL ds)) := by
  refine fn_gives KWa (by kernel_rfl) (fun ρ h => ctW1_ok (Sees.of h 112)) (by kernel_rfl) trR3Le_is trR3Le_low (by decide) (fun W vals ds hr hok => ?_)
  rw [ledO, Bool.and_eq_true, Bool.and_eq_true] at hok
  obtain ⟨hp, hq, hs⟩ := hok
  have hl := polyB_len hp
  simp only [trR3Le]
  have hP : ledL ds = leDir (rAt ds 0) (iAt ds 1) (iAt ds 2) (iAt ds 3) (iAt ds 4) (rAt ds 0).length 0 := rfl
  rw [hP]
  clear hP hr
  generalize e0 : rAt ds 0 = r at *
  generalize e1 : iAt ds 1 = x at *
  generalize e2 : iAt ds 2 = y at *
  generalize e3 : iAt ds 3 = u at *
  generalize e4 : iAt ds 4 = v at *
  have hs' := hs
  rw [smallD, decide_eq_true_eq] at hs'
  have pl : ∀ k : Nat, k < r.length → placeB (lg r k 0) (lg r k 1) = true := fun k hk => polyB_pl hp hk
  have hq' := placeB_iff.mp hq
  generalize hG : leDir r x y u v r.length 0 = G
  refine TT.sat_loop (fun w => ∃ i : Nat, w.i 0 = i ∧ i ≤ r.length ∧ leDir r x y u v (r.length - i) i = G) (fun w => r.length - (w.i 0).toNat)
    ⟨0, by simp [val_i, aget, E.ev], by omega, hG⟩ (fun w hw => ?_)
  obtain ⟨i, i0, i1, i2⟩ := hw
  simp only [TT.sat_ret, TT.sat_ite, TT.sat_ob, TT.sat_next, TT.sat_stuck, put_i, put_b, put_d, put_fi, put_fb, put_fd, Ob.ok, B.ev, E.ev, X.ev, AL.ev, cmp_t, cmp_f, arEv, V.plain, V2.plain, S.plain, S0.plain, V.val, V2.val, S.val, S0.val, bV, iV, List.all_cons, List.all_nil, Bool.and_true, Bool.and_self, envOf_i, envOf_b, envOf_d, List.map_cons, List.map_nil, true_and, Bool.not_eq_true', Bool.not_eq_false', Bool.not_not, Bool.and_eq_true, and_f, cell_lg, cell_lb, cell_lr, cmpP, val_i, val_b, val_d, aget, Nat.reduceBEq, beq_self_eq_true, Bool.false_eq_true, if_true, if_false, Nat.reduceLT, Nat.reduceSub, Nat.sub_self, Nat.lt_irrefl, i0, e0, e1, e2, e3, e4, KWab102, KWab104, opd_four, opdO_four]
  refine ⟨fun hc => ?_, fun hc => ?_⟩
  · have hi : i < r.length := by omega
    obtain ⟨f, hf⟩ : ∃ f, r.length - i = f + 1 := ⟨r.length - i - 1, by omega⟩
    rw [hf, leDir] at i2
    have hf' : r.length - (i + 1) = f := by omega
    rw [wrap_in ((i : Int) + 1) (by omega) (by omega)]
    refine ⟨by omega, by omega, fun a => ⟨?_, ?_⟩, fun a => ⟨⟨i + 1, rfl, by omega, ?_⟩, by omega⟩⟩
    · rw [hp, hs, decide_eq_true (by omega)]; exact ⟨rfl, rfl, rfl⟩
    · rw [if_pos a] at i2; rw [← i2]
    · rw [if_neg a] at i2; rw [hf']; exact i2
  · have : r.length - i = 0 := by omega
    rw [this, leDir] at i2
    refine TT.sat_loop (fun w => ∃ k : Nat, w.i 0 = k ∧ k ≤ r.length ∧ leDirE r x y u v (r.length - k) k = G) (fun w => r.length - (w.i 0).toNat)
      ⟨0, by simp [val_i, aget, E.ev], by omega, i2⟩ (fun w hw => ?_)
    obtain ⟨k, k0, k1, k2⟩ := hw
    simp only [TT.sat_ret, TT.sat_ite, TT.sat_ob, TT.sat_next, TT.sat_stuck, put_i, put_b, put_d, put_fi, put_fb, put_fd, Ob.ok, B.ev, E.ev, X.ev, AL.ev, cmp_t, cmp_f, arEv, V.plain, V2.plain, S.plain, S0.plain, V.val, V2.val, S.val, S0.val, bV, iV, List.all_cons, List.all_nil, Bool.and_true, Bool.and_self, envOf_i, envOf_b, envOf_d, List.map_cons, List.map_nil, true_and, Bool.not_eq_true', Bool.not_eq_false', Bool.not_not, Bool.and_eq_true, and_f, cell_lg, cell_lb, cell_lr, cmpP, val_i, val_b, val_d, aget, Nat.reduceBEq, beq_self_eq_true, Bool.false_eq_true, if_true, if_false, Nat.reduceLT, Nat.reduceSub, Nat.sub_self, Nat.lt_irrefl, k0, e0, e1, e2, e3, e4, KWab1, KWab4, six_six, on_six]
    refine ⟨fun hk => ?_, fun hk => ?_⟩
    · have hkn : k < r.length := by omega
      have hn' := nxt_lt hkn
      obtain ⟨g, hg⟩ : ∃ g, r.length - k = g + 1 := ⟨r.length - k - 1, by omega⟩
      rw [hg, leDirE] at k2
      have hg' : r.length - (k + 1) = g := by omega
      have p0 := pl k hkn
      have p1 := pl _ hn'
      simp only [rem_next1 hkn (show r.length ≤ 281474976710656 by omega), hq, p0, p1, Bool.and_self]
      rw [placeB_iff] at p0 p1
      simp only [w_sub p1.1 p0.1, w_sub p1.2 p0.2]
      rw [w_dir (by omega) (by omega) hs'.1 hs'.2, wrap_in ((k : Int) + 1) (by omega) (by omega)]
      refine ⟨by omega, by omega, by omega, by omega, by omega, by simp, fun a => ⟨by omega, by omega, by omega, by omega, by omega, ?_⟩, fun a => ⟨⟨k + 1, rfl, by omega, ?_⟩, by omega⟩⟩
      · rw [if_pos a] at k2
        rw [← k2]
        rfl
      · rw [if_neg (by rw [a]; decide)] at k2
        rw [hg']; exact k2
    · have : r.length - k = 0 := by omega
      rw [this, leDirE] at k2
      rw [← k2]
theorem nrr_sev (a b c d e f r : Int) : nrrL [.i a, .i b, .i c, .i d, .i e, .i f, .i r] = !apartB a b c d e f r := rfl
set_option maxHeartbeats 2000000 in
theorem gR3Di : Gives Tryz.prog 64 [pts, pt, it] (fun ds => .tuple #[.int .i64 (disR ds), .int .i64 (disE ds)]) := by
  refine GivesIf.all (fn_gives KWa (by kernel_rfl) (fun ρ h => ctW1_ok (Sees.of h 112)) (by kernel_rfl) trR3Di_is trR3Di_low (by decide) (fun W vals ds hr _ => ?_))
  simp only [trR3Di, TT.sat_ret, TT.sat_ite, TT.sat_ob, TT.sat_next, TT.sat_stuck, put_i, put_b, put_d, put_fi, put_fb, put_fd, Ob.ok, B.ev, E.ev, X.ev, AL.ev, cmp_t, cmp_f, arEv, V.plain, V2.plain, S.plain, S0.plain, V.val, V2.val, S.val, S0.val, bV, iV, List.all_cons, List.all_nil, Bool.and_true, Bool.and_self, envOf_i, envOf_b, envOf_d, List.map_cons, List.map_nil, true_and, Bool.not_eq_true', Bool.not_eq_false', Bool.not_not, Bool.and_eq_true, and_f, cell_lg, cell_lb, cell_lr, cmpP, val_i, val_b, val_d, aget, Nat.reduceBEq, beq_self_eq_true, Bool.false_eq_true, if_true, if_false, Nat.reduceLT, Nat.reduceSub, Nat.sub_self, Nat.lt_irrefl, KWab69, poly_one, KWab3, place_two]
  have F : disO ds = false → Value.tuple #[.int .i64 0, .int .i64 1] = Value.tuple #[.int .i64 (disR ds), .int .i64 (disE ds)] := fun h => by simp [disR, disE, h]
  have FR : ¬ (0 ≤ iAt ds 3 ∧ iAt ds 3 ≤ 3000000) → disO ds = false := fun h => by simp only [disO, distB, Bool.and_eq_false_imp, decide_eq_false_iff_not]; omega
  refine ⟨fun r0 => ⟨fun h => F (by simp only [disO, h, Bool.false_and]), fun h1 => ⟨fun h => F (by simp only [disO, h, Bool.false_and, Bool.and_false]), fun h2 => ⟨fun h => F (FR (by omega)), fun r1 => ?_⟩⟩⟩, fun r0 => ⟨fun _ => F (FR (by omega)), fun _ => ⟨fun _ => F (FR (by omega)), fun _ => F (FR (by omega))⟩⟩⟩
  have hd : 0 ≤ iAt ds 3 ∧ iAt ds 3 ≤ 3000000 := by omega
  have hO : disO ds = true := by simp only [disO, h1, h2, distB, Bool.true_and, decide_eq_true_eq]; omega
  have T : ∀ n, disX (rAt ds 0) (iAt ds 1) (iAt ds 2) (iAt ds 3) = n → Value.tuple #[.int .i64 n, .int .i64 0] = Value.tuple #[.int .i64 (disR ds), .int .i64 (disE ds)] := fun b h => by simp [disR, disE, hO, h]
  clear F FR hr hO
  have l1 := polyB_len h1
  generalize e0 : rAt ds 0 = r at *
  generalize e1 : iAt ds 1 = x at *
  generalize e2 : iAt ds 2 = y at *
  generalize e3 : iAt ds 3 = d at *
  have pl : ∀ k : Nat, k < r.length → placeB (lg r k 0) (lg r k 1) = true := fun k hk => polyB_pl h1 hk
  have EN : ∀ i : Nat, i < r.length → nearI r x y d i = nearB x y (lg r i 0) (lg r i 1) (lg r (nxt r.length i) 0) (lg r (nxt r.length i) 1) d := fun i hi => nearI_eq h1 h2 hd hi
  have EA : ∀ i : Nat, i < r.length → apartI r x y d i = apartB x y (lg r i 0) (lg r i 1) (lg r (nxt r.length i) 0) (lg r (nxt r.length i) 1) d := fun i hi => by
    have ho : apaO [.i x, .i y, .i (lg r i 0), .i (lg r i 1), .i (lg r (nxt r.length i) 0), .i (lg r (nxt r.length i) 1), .i d] = true := by
      show ((placeB x y && placeB (lg r i 0) (lg r i 1) && placeB (lg r (nxt r.length i) 0) (lg r (nxt r.length i) 1)) && distB d) = true
      rw [h2, pl i hi, pl _ (nxt_lt hi), distB, decide_eq_true hd]; rfl
    unfold apartI apaR
    rw [ho]
    rfl
  refine TT.sat_loop (fun v => ∃ i : Nat, v.i 2 = i ∧ i ≤ r.length ∧ (v.b 0 || neaN r x y d (r.length - i) i) = neaN r x y d r.length 0 ∧ (v.b 1 || !apaN r x y d (r.length - i) i) = !apaN r x y d r.length 0) (fun v => r.length - (v.i 2).toNat)
    ⟨0, by simp [val_i, aget, E.ev], by omega, by simp [val_b, aget, B.ev], by simp [val_b, aget, B.ev]⟩ (fun v hv => ?_)
  obtain ⟨i, i0, i1, i2, i3⟩ := hv
  simp only [TT.sat_ret, TT.sat_ite, TT.sat_ob, TT.sat_next, TT.sat_stuck, put_i, put_b, put_d, put_fi, put_fb, put_fd, Ob.ok, B.ev, E.ev, X.ev, AL.ev, cmp_t, cmp_f, arEv, V.plain, V2.plain, S.plain, S0.plain, V.val, V2.val, S.val, S0.val, bV, iV, List.all_cons, List.all_nil, Bool.and_true, Bool.and_self, envOf_i, envOf_b, envOf_d, List.map_cons, List.map_nil, true_and, Bool.not_eq_true', Bool.not_eq_false', Bool.not_not, Bool.and_eq_true, and_f, cell_lg, cell_lb, cell_lr, cmpP, val_i, val_b, val_d, aget, Nat.reduceBEq, beq_self_eq_true, Bool.false_eq_true, if_true, if_false, Nat.reduceLT, Nat.reduceSub, Nat.sub_self, Nat.lt_irrefl, i0, e0, e1, e2, e3, KWai98, KWab1, KWab2, KWab3, KWab69, KWab103, plc_three, place_two, poly_one, six_six, near_sev, nrr_sev]
  refine ⟨fun hc => ?_, fun hc => ?_⟩
  · have hi : i < r.length := by omega
    have hn := nxt_lt hi
    obtain ⟨f, hf⟩ : ∃ f, r.length - i = f + 1 := ⟨r.length - i - 1, by omega⟩
    rw [hf, neaN, EN i hi] at i2
    rw [hf, apaN, EA i hi] at i3
    have hf' : r.length - (i + 1) = f := by omega
    simp only [rem_next1 hi (show r.length ≤ 281474976710656 by omega), h2, pl i hi, pl _ hn, Bool.and_self]
    rw [wrap_in ((i : Int) + 1) (by omega) (by omega)]
    have N : ∀ b c : Bool, (b || neaN r x y d f (i + 1)) = neaN r x y d r.length 0 → (c || !apaN r x y d f (i + 1)) = (!apaN r x y d r.length 0) → (∃ j : Nat, (i : Int) + 1 = j ∧ j ≤ r.length ∧ (b || neaN r x y d (r.length - j) j) = neaN r x y d r.length 0 ∧ (c || !apaN r x y d (r.length - j) j) = !apaN r x y d r.length 0) ∧ r.length - ((i : Int) + 1).toNat < r.length - (i : Int).toNat :=
      fun b c hb hc => ⟨⟨i + 1, rfl, by omega, by rw [hf']; exact hb, by rw [hf']; exact hc⟩, by omega⟩
    clear T EN EA
    generalize nearB x y (lg r i 0) (lg r i 1) (lg r (nxt r.length i) 0) (lg r (nxt r.length i) 1) d = nb at *
    generalize apartB x y (lg r i 0) (lg r i 1) (lg r (nxt r.length i) 0) (lg r (nxt r.length i) 1) d = ab at *
    refine ⟨fun a => ⟨fun b => N _ _ ?_ ?_, fun b => ⟨by omega, by omega, by omega, by omega, by omega, by simp, by omega, by omega, N _ _ ?_ ?_⟩⟩, fun a => ⟨by omega, by omega, by omega, by omega, by omega, by simp, by omega, by omega, fun b => N _ _ ?_ ?_, fun b => ⟨by omega, by omega, by omega, by omega, by omega, by simp, by omega, by omega, N _ _ ?_ ?_⟩⟩⟩
    all_goals first
      | (rw [← i2, a]; clear N i2 i3; cases nb <;> simp; done)
      | (rw [← i3, b]; clear N i2 i3; cases ab <;> simp; done)
      | (rw [← i2, a, Bool.false_or]; done)
  · have h0 : r.length - i = 0 := by omega
    rw [h0, neaN, Bool.or_false] at i2
    rw [h0, apaN, Bool.not_true, Bool.or_false] at i3
    rw [i2, i3]
    refine ⟨h2, h1, fun a => ⟨fun b => T _ ?_, fun b => ⟨fun c => absurd a (by omega), fun c => T _ ?_⟩⟩, fun a => ⟨fun c => ⟨fun e => T _ ?_, fun e => T _ ?_⟩, fun c => absurd c (by omega)⟩⟩
    · rw [disX, if_pos a, if_pos (by simpa using b)]
    · rw [disX, if_pos a, if_neg (by simpa using b)]
    · rw [disX, if_neg a, if_neg (by rw [e]; decide)]
    · rw [disX, if_neg a, if_pos e]
end Go.Proofs.YtglepdhapakmbaaGreat
/- Chapter 07: the reference's Safer; contracts of leads, Disc, Safer, Touch, Box. -/
namespace Go.Proofs.YtglepdhapakmbaaGreat
open Go.RowKit
theorem lg_appl {t u : Rows} {k j : Nat} (h : k < t.length) : lg (t ++ u) k j = lg t k j := by
  unfold lg cellAt
  rw [Int.toNat_natCast, List.getElem?_append_left h]
theorem lg_appr {t u : Rows} {k j : Nat} : lg (t ++ u) ((t.length + k : Nat) : Int) j = lg u k j := by
  unfold lg cellAt
  rw [Int.toNat_natCast, Int.toNat_natCast, List.getElem?_append_right (by omega), Nat.add_sub_cancel_left]
def TurnsOf (t s : Rows) (n : Nat) : Prop := t.length = 2 * n ∧ ∀ k : Nat, k < n → (lg t (2 * k : Nat) 0 = lg s k 0 ∧ lg t (2 * k : Nat) 1 = lg s k 1) ∧ lg t (2 * k + 1 : Nat) 0 = lg s k 2 ∧ lg t (2 * k + 1 : Nat) 1 = lg s k 3
theorem turns_step {t s : Rows} {n : Nat} {a b c d : Int} (h : TurnsOf t s n) (ha : a = lg s n 0) (hb : b = lg s n 1) (hc : c = lg s n 2) (hd : d = lg s n 3) : TurnsOf (t ++ ([[D.i a, D.i b]] ++ ([[D.i c, D.i d]] ++ []))) s (n + 1) := by
  obtain ⟨h1, h2⟩ := h
  refine ⟨by simp [h1]; omega, fun k hk => ?_⟩
  by_cases e : k = n
  · subst e
    have e1 : (2 * k : Nat) = t.length + 0 := by omega
    have e2 : (2 * k + 1 : Nat) = t.length + 1 := by omega
    rw [e2, e1, lg_appr, lg_appr, lg_appr, lg_appr, ← ha, ← hb, ← hc, ← hd]
    exact ⟨⟨rfl, rfl⟩, rfl, rfl⟩
  · obtain ⟨⟨g1, g2⟩, g3, g4⟩ := h2 k (by omega)
    rw [lg_appl (by omega), lg_appl (by omega), lg_appl (by omega), lg_appl (by omega)]
    exact ⟨⟨g1, g2⟩, g3, g4⟩
theorem sfN_iff {x y l : Rows} : ∀ (f i : Nat), sfN x y l f i = true ↔ ∃ k : Nat, i ≤ k ∧ k < i + f ∧ (wrD x y (lg l k 0) (lg l k 1) = true ∨ wrD x y (lg l k 2) (lg l k 3) = true)
  | 0, i => ⟨fun h => by simp [sfN] at h, fun ⟨k, h1, h2, _⟩ => by omega⟩
  | f + 1, i => by
    rw [sfN, Bool.or_eq_true, Bool.or_eq_true, sfN_iff f (i + 1)]
    constructor
    · rintro (h | h | ⟨k, h1, h2, h3⟩)
      · exact ⟨i, by omega, by omega, .inl h⟩
      · exact ⟨i, by omega, by omega, .inr h⟩
      · exact ⟨k, by omega, by omega, h3⟩
    · rintro ⟨k, h1, h2, h3⟩
      by_cases e : k = i
      · subst e
        rcases h3 with h | h
        · exact .inl h
        · exact .inr (.inl h)
      · exact .inr (.inr ⟨k, by omega, by omega, h3⟩)
theorem safer_turns {a b t : Rows} (ht : TurnsOf t (b ++ a) (b ++ a).length) : saferX a b = true ↔ ∃ k : Nat, k < t.length ∧ wrD b a (lg t k 0) (lg t k 1) = true := by
  obtain ⟨h1, h2⟩ := ht
  unfold saferX
  rw [sfN_iff]
  constructor
  · rintro ⟨k, _, hk, h⟩
    obtain ⟨⟨g1, g2⟩, g3, g4⟩ := h2 k (by omega)
    rcases h with h | h
    · exact ⟨2 * k, by omega, by rw [g1, g2]; exact h⟩
    · exact ⟨2 * k + 1, by omega, by rw [g3, g4]; exact h⟩
  · rintro ⟨k, hk, h⟩
    obtain ⟨⟨g1, g2⟩, g3, g4⟩ := h2 (k / 2) (by omega)
    refine ⟨k / 2, by omega, by omega, ?_⟩
    rcases (show k % 2 = 0 ∨ k % 2 = 1 by omega) with e | e
    · rw [show 2 * (k / 2) = k by omega] at g1 g2
      exact .inl (by rw [← g1, ← g2]; exact h)
    · rw [show 2 * (k / 2) + 1 = k by omega] at g3 g4
      exact .inr (by rw [← g3, ← g4]; exact h)
theorem turns_dirs {a b t : Rows} (ha : secsB a = true) (hb : secsB b = true) (ht : TurnsOf t (b ++ a) (b ++ a).length) {k : Nat} (hk : k < t.length) : dirB (lg t k 0) (lg t k 1) = true := by
  obtain ⟨h1, h2⟩ := ht
  have hl : (b ++ a).length = b.length + a.length := List.length_append
  obtain ⟨⟨g1, g2⟩, g3, g4⟩ := h2 (k / 2) (by omega)
  have key : dirB (lg (b ++ a) (k / 2 : Nat) 0) (lg (b ++ a) (k / 2 : Nat) 1) = true ∧ dirB (lg (b ++ a) (k / 2 : Nat) 2) (lg (b ++ a) (k / 2 : Nat) 3) = true := by
    rcases Nat.lt_or_ge (k / 2) b.length with e | e
    · rw [lg_appl e, lg_appl e, lg_appl e, lg_appl e]
      exact secs_dirs7 hb _ e
    · obtain ⟨m, hm⟩ : ∃ m, k / 2 = b.length + m := ⟨k / 2 - b.length, by omega⟩
      rw [hm, lg_appr, lg_appr, lg_appr, lg_appr]
      exact secs_dirs7 ha m (by omega)
  rcases (show k % 2 = 0 ∨ k % 2 = 1 by omega) with e | e
  · rw [show 2 * (k / 2) = k by omega] at g1 g2
    rw [g1, g2]; exact key.1
  · rw [show 2 * (k / 2) + 1 = k by omega] at g3 g4
    rw [g3, g4]; exact key.2
theorem at_three (r : Rows) (x y : Int) : atO [.l r, .i x, .i y] = (secsB r && dirB x y) := rfl
set_option maxHeartbeats 2000000 in
theorem gR5Sa : Gives Tryz.prog 67 [secs, secs] (fun ds => .tuple #[.bool (saR ds), .int .i64 (saE ds)]) := by
  refine GivesIf.all (fn_gives KWa (by kernel_rfl) (fun ρ h => ctW1_ok (Sees.of h 112)) (by kernel_rfl) trR5Sa_is trR5Sa_low (by decide) (fun W vals ds hr _ => ?_))
  simp only [trR5Sa, TT.sat_ret, TT.sat_ite, TT.sat_ob, TT.sat_next, TT.sat_stuck, put_i, put_b, put_d, put_fi, put_fb, put_fd, Ob.ok, B.ev, E.ev, X.ev, AL.ev, cmp_t, cmp_f, arEv, V.plain, V2.plain, S.plain, S0.plain, V.val, V2.val, S.val, S0.val, bV, iV, List.all_cons, List.all_nil, Bool.and_true, Bool.and_self, envOf_i, envOf_b, envOf_d, List.map_cons, List.map_nil, true_and, Bool.not_eq_true', Bool.not_eq_false', Bool.not_not, Bool.and_eq_true, and_f, cell_lg, cell_lb, cell_lr, cmpP, val_i, val_b, val_d, aget, Nat.reduceBEq, beq_self_eq_true, Bool.false_eq_true, if_true, if_false, Nat.reduceLT, Nat.reduceSub, Nat.sub_self, Nat.lt_irrefl, KWab75, secs_one]
  have F : saO ds = false → Value.tuple #[.bool false, .int .i64 1] = Value.tuple #[.bool (saR ds), .int .i64 (saE ds)] := fun h => by simp [saR, saE, h]
  refine ⟨fun h => F ?_, fun h1 => ⟨fun h => F ?_, fun h2 => ?_⟩⟩
  · simp only [saO, h, Bool.and_false]
  · simp only [saO, h, Bool.false_and]
  have T : ∀ b, saferX (rAt ds 0) (rAt ds 1) = b → Value.tuple #[.bool b, .int .i64 0] = Value.tuple #[.bool (saR ds), .int .i64 (saE ds)] := fun b h => by simp [saR, saE, saO, h1, h2, h]
  clear F hr
  have l1 := secsB_len h1
  have l2 := secsB_len h2
  generalize e0 : rAt ds 0 = a at *
  generalize e1 : rAt ds 1 = b at *
  have hab : (b ++ a).length = b.length + a.length := List.length_append
  refine TT.sat_loop (fun v => ∃ i : Nat, v.i 2 = i ∧ i ≤ b.length ∧ TurnsOf (v.d 1) (b ++ a) i) (fun v => b.length - (v.i 2).toNat)
    ⟨0, by simp [val_i, aget, E.ev], by omega, ⟨by simp [val_d, aget, X.ev], fun k hk => by omega⟩⟩ (fun v hv => ?_)
  obtain ⟨i, i0, i1, i2⟩ := hv
  simp only [TT.sat_ret, TT.sat_ite, TT.sat_ob, TT.sat_next, TT.sat_stuck, put_i, put_b, put_d, put_fi, put_fb, put_fd, Ob.ok, B.ev, E.ev, X.ev, AL.ev, cmp_t, cmp_f, arEv, V.plain, V2.plain, S.plain, S0.plain, V.val, V2.val, S.val, S0.val, bV, iV, List.all_cons, List.all_nil, Bool.and_true, Bool.and_self, envOf_i, envOf_b, envOf_d, List.map_cons, List.map_nil, true_and, Bool.not_eq_true', Bool.not_eq_false', Bool.not_not, Bool.and_eq_true, and_f, cell_lg, cell_lb, cell_lr, cmpP, val_i, val_b, val_d, aget, Nat.reduceBEq, beq_self_eq_true, Bool.false_eq_true, if_true, if_false, Nat.reduceLT, Nat.reduceSub, Nat.sub_self, Nat.lt_irrefl, i0, e0, e1]
  refine ⟨fun hc => ?_, fun hc => ?_⟩
  · have hi : i < b.length := by omega
    rw [wrap_in ((i : Int) + 1) (by omega) (by omega)]
    have hs := turns_step i2 (a := lg b i 0) (b := lg b i 1) (c := lg b i 2) (d := lg b i 3) (lg_appl hi).symm (lg_appl hi).symm (lg_appl hi).symm (lg_appl hi).symm
    refine ⟨by omega, by omega, by omega, by omega, ?_, ⟨i + 1, rfl, by omega, hs⟩, by omega⟩
    have := hs.1
    omega
  have hi : i = b.length := by omega
  subst hi
  refine TT.sat_loop (fun w => ∃ k : Nat, w.i 1 = k ∧ k ≤ a.length ∧ TurnsOf (w.d 2) (b ++ a) (b.length + k)) (fun w => a.length - (w.i 1).toNat)
    ⟨0, by simp [val_i, aget, E.ev], by omega, by simpa [val_d, aget, X.ev, put_d] using i2⟩ (fun w hw => ?_)
  obtain ⟨k, k0, k1, k2⟩ := hw
  simp only [TT.sat_ret, TT.sat_ite, TT.sat_ob, TT.sat_next, TT.sat_stuck, put_i, put_b, put_d, put_fi, put_fb, put_fd, Ob.ok, B.ev, E.ev, X.ev, AL.ev, cmp_t, cmp_f, arEv, V.plain, V2.plain, S.plain, S0.plain, V.val, V2.val, S.val, S0.val, bV, iV, List.all_cons, List.all_nil, Bool.and_true, Bool.and_self, envOf_i, envOf_b, envOf_d, List.map_cons, List.map_nil, true_and, Bool.not_eq_true', Bool.not_eq_false', Bool.not_not, Bool.and_eq_true, and_f, cell_lg, cell_lb, cell_lr, cmpP, val_i, val_b, val_d, aget, Nat.reduceBEq, beq_self_eq_true, Bool.false_eq_true, if_true, if_false, Nat.reduceLT, Nat.reduceSub, Nat.sub_self, Nat.lt_irrefl, k0, e0, e1]
  refine ⟨fun hk => ?_, fun hk => ?_⟩
  · have hk' : k < a.length := by omega
    rw [wrap_in ((k : Int) + 1) (by omega) (by omega)]
    have hs := turns_step k2 (a := lg a k 0) (b := lg a k 1) (c := lg a k 2) (d := lg a k 3) lg_appr.symm lg_appr.symm lg_appr.symm lg_appr.symm
    refine ⟨by omega, by omega, by omega, by omega, ?_, ⟨k + 1, rfl, by omega, hs⟩, by omega⟩
    have := hs.1
    omega
  have hk' : k = a.length := by omega
  subst hk'
  rw [← hab] at k2
  have hl := k2.1
  have hd := fun (m : Nat) (hm : m < (w.d 2).length) => turns_dirs h2 h1 k2 hm
  have hsf := safer_turns k2
  clear i2 k2
  obtain ⟨t, ht⟩ : ∃ t, w.d 2 = t := ⟨_, rfl⟩
  rw [ht] at hl hd hsf
  refine TT.sat_loop (fun u => ∃ m : Nat, u.i 0 = m ∧ m ≤ t.length ∧ ∀ j : Nat, j < m → wrD b a (lg t j 0) (lg t j 1) = false) (fun u => t.length - (u.i 0).toNat)
    ⟨0, by simp [val_i, aget, E.ev], by omega, fun j hj => by omega⟩ (fun u hu => ?_)
  obtain ⟨m, m0, m1, m2⟩ := hu
  simp only [TT.sat_ret, TT.sat_ite, TT.sat_ob, TT.sat_next, TT.sat_stuck, put_i, put_b, put_d, put_fi, put_fb, put_fd, Ob.ok, B.ev, E.ev, X.ev, AL.ev, cmp_t, cmp_f, arEv, V.plain, V2.plain, S.plain, S0.plain, V.val, V2.val, S.val, S0.val, bV, iV, List.all_cons, List.all_nil, Bool.and_true, Bool.and_self, envOf_i, envOf_b, envOf_d, List.map_cons, List.map_nil, true_and, Bool.not_eq_true', Bool.not_eq_false', Bool.not_not, Bool.and_eq_true, and_f, cell_lg, cell_lb, cell_lr, cmpP, val_i, val_b, val_d, aget, Nat.reduceBEq, beq_self_eq_true, Bool.false_eq_true, if_true, if_false, Nat.reduceLT, Nat.reduceSub, Nat.sub_self, Nat.lt_irrefl, m0, e0, e1, ht, KWab105, KWai106, KWai107, at_three, shC_three, shR_three]
  refine ⟨fun hm => ?_, fun hm => ?_⟩
  · have hm' : m < t.length := by omega
    have hdm := hd m hm'
    simp only [h1, h2, hdm, Bool.and_self]
    rw [wrap_in ((m : Int) + 1) (by omega) (by omega)]
    have B : wrD b a (lg t m 0) (lg t m 1) = true → Value.tuple #[.bool true, .int .i64 0] = Value.tuple #[.bool (saR ds), .int .i64 (saE ds)] := fun h => T _ (hsf.mpr ⟨m, hm', h⟩)
    have N : wrD b a (lg t m 0) (lg t m 1) = false → (∃ q : Nat, (m : Int) + 1 = q ∧ q ≤ t.length ∧ ∀ j : Nat, j < q → wrD b a (lg t j 0) (lg t j 1) = false) ∧ t.length - ((m : Int) + 1).toNat < t.length - (m : Int).toNat := fun h =>
      ⟨⟨m + 1, rfl, by omega, fun j hj => by
        by_cases e : j = m
        · subst e; exact h
        · exact m2 j (by omega)⟩, by omega⟩
    have Wr : wrD b a (lg t m 0) (lg t m 1) = true ↔ shC b (lg t m 0) (lg t m 1) = 1 ∧ (¬ shC a (lg t m 0) (lg t m 1) = 1 ∨ shR a (lg t m 0) (lg t m 1) < shR b (lg t m 0) (lg t m 1)) := by
      unfold wrD
      simp only [Bool.and_eq_true, Bool.or_eq_true, decide_eq_true_eq]
    replace B := fun h => B (Wr.mpr h)
    replace N := fun h => N (by rw [← Bool.not_eq_true, Wr]; exact h)
    clear Wr
    clear hsf T hd
    generalize shC b (lg t m 0) (lg t m 1) = p1 at *
    generalize shC a (lg t m 0) (lg t m 1) = p2 at *
    generalize shR b (lg t m 0) (lg t m 1) = p3 at *
    generalize shR a (lg t m 0) (lg t m 1) = p4 at *
    refine ⟨by omega, by omega, by simp, by omega, by omega, by simp, fun c1 => ⟨fun c2 => B (by omega), fun c2 => ⟨fun c3 => B (by omega), fun c3 => N (by omega)⟩⟩, fun c1 => N (by omega)⟩
  · have hm' : m = t.length := by omega
    subst hm'
    refine T _ ?_
    rw [← Bool.not_eq_true, hsf]
    rintro ⟨j, hj, h⟩
    rw [m2 j hj] at h
    cases h
def KWb : Interp where
  fi n l := match n with | 112 => touE l | 115 => disR l | 116 => disE l | 117 => saE l | n => KWa.fi n l
  fb n l := match n with | 112 => touR l | 113 => ledL l | 114 => ledO l | 117 => saR l | n => KWa.fb n l
  fd _ _ := []
theorem KWb_KWa {ρ : Env} (h : Sees ρ KWb 122) : Sees ρ KWa 112 := h.trans (by decide) fun n l hn => by
  refine ⟨?_, ?_⟩
  ·
    simp only [KWb]
    split <;> first | omega | rfl
  ·
    simp only [KWb]
    split <;> first | omega | rfl
def cR3Le := ctD [pts, pt, pt] fun al => .ob (.tru (bF 114 ledO al)) (.ret (bV (bF 113 ledL al)))
theorem cR3Le_ok {ρ : Env} (h : Sees ρ KWb 122) : CtOne Tryz.prog ρ 103 cR3Le := by
  refine ctD_if gR3Le (fun al v hv => ?_)
  obtain ⟨ho, hv⟩ := hv
  obtain rfl := res_ret hv
  refine ⟨rfl, ?_, ?_⟩
  · have h1 : (bF 114 ledO al).ev ρ = true := ho
    rw [bF_ev (s := 114) (f := ledO) (fun l => by rw [(h 114 l (by decide)).2]; simp only [KWb, KWa, KX, KW, KV, KU, KT, KR, KG, KF, KE, KD, KC, KB, KA, K9, K8, K7, K6, K5, K])] at h1
    exact h1
  · simp only [iV, bV, V.s0, V.val, V2.val, S.val, S0.val, bF_ev (s := 113) (f := ledL) (fun l => by rw [(h 113 l (by decide)).2]; simp only [KWb, KWa, KX, KW, KV, KU, KT, KR, KG, KF, KE, KD, KC, KB, KA, K9, K8, K7, K6, K5, K])]; try rfl
def cR3To := ctD [pts, pts] fun al => .ret (.tup [.one (sBF 112 touR al), .one (sIF 112 touE al)])
theorem cR3To_ok {ρ : Env} (h : Sees ρ KWb 122) : CtOne Tryz.prog ρ 68 cR3To :=
  ctD_ok gR3To (fun _ => rfl) (fun al => by simp only [V.val, V2.val, S.val, S0.val, sIF, sBF, List.map_cons, List.map_nil, bF_ev (s := 112) (f := touR) (fun l => by rw [(h 112 l (by decide)).2]; simp only [KWb, KWa, KX, KW, KV, KU, KT, KR, KG, KF, KE, KD, KC, KB, KA, K9, K8, K7, K6, K5, K]), iF_ev (s := 112) (f := touE) (fun l => by rw [(h 112 l (by decide)).1]; simp only [KWb, KWa, KX, KW, KV, KU, KT, KR, KG, KF, KE, KD, KC, KB, KA, K9, K8, K7, K6, K5, K])]; try rfl)
def cR3Di := ctD [pts, pt, it] fun al => .ret (.tup [.one (sIF 115 disR al), .one (sIF 116 disE al)])
theorem cR3Di_ok {ρ : Env} (h : Sees ρ KWb 122) : CtOne Tryz.prog ρ 64 cR3Di :=
  ctD_ok gR3Di (fun _ => rfl) (fun al => by simp only [V.val, V2.val, S.val, S0.val, sIF, sBF, List.map_cons, List.map_nil, iF_ev (s := 115) (f := disR) (fun l => by rw [(h 115 l (by decide)).1]; simp only [KWb, KWa, KX, KW, KV, KU, KT, KR, KG, KF, KE, KD, KC, KB, KA, K9, K8, K7, K6, K5, K]), iF_ev (s := 116) (f := disE) (fun l => by rw [(h 116 l (by decide)).1]; simp only [KWb, KWa, KX, KW, KV, KU, KT, KR, KG, KF, KE, KD, KC, KB, KA, K9, K8, K7, K6, K5, K])]; try rfl)
def cR5Sa := ctD [secs, secs] fun al => .ret (.tup [.one (sBF 117 saR al), .one (sIF 117 saE al)])
theorem cR5Sa_ok {ρ : Env} (h : Sees ρ KWb 122) : CtOne Tryz.prog ρ 67 cR5Sa :=
  ctD_ok gR5Sa (fun _ => rfl) (fun al => by simp only [V.val, V2.val, S.val, S0.val, sIF, sBF, List.map_cons, List.map_nil, bF_ev (s := 117) (f := saR) (fun l => by rw [(h 117 l (by decide)).2]; simp only [KWb, KWa, KX, KW, KV, KU, KT, KR, KG, KF, KE, KD, KC, KB, KA, K9, K8, K7, K6, K5, K]), iF_ev (s := 117) (f := saE) (fun l => by rw [(h 117 l (by decide)).1]; simp only [KWb, KWa, KX, KW, KV, KU, KT, KR, KG, KF, KE, KD, KC, KB, KA, K9, K8, K7, K6, K5, K])]; try rfl)
def ctW2 : Ct := (103, cR3Le) :: (68, cR3To) :: (64, cR3Di) :: (67, cR5Sa) :: ctW1
theorem ctW2_ok {ρ : Env} (h : Sees ρ KWb 122) : CtOk Tryz.prog ρ ctW2 := .cons (cR3Le_ok h) <| .cons (cR3To_ok h) <| .cons (cR3Di_ok h) <| .cons (cR5Sa_ok h) (ctW1_ok (KWb_KWa h))
end Go.Proofs.YtglepdhapakmbaaGreat
