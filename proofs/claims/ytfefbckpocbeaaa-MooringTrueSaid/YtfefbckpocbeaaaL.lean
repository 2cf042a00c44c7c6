/- The laws MooringRadius and MooringLow, walked. -/
import Derived.Test.YtfefbckpocbeaaaI
namespace Go.Proofs.Ytfefbckpocbeaaa
open Go.RowKit
attribute [local go_sem high] run_max2 run_min2

theorem radiusF_cases (ax ay dlo dhi ch tlo thi : Int) :
    (radiusF ax ay dlo dhi ch tlo thi = (0, 1) ∨ radiusF ax ay dlo dhi ch tlo thi = (0, 6)) ∨
    (moorOk ax ay dlo dhi ch = true ∧ heightsOk tlo thi = true ∧ max 0 (dhi + thi) ≤ ch ∧ radiusF ax ay dlo dhi ch tlo thi = ((rootUp (ch * ch - max 0 (dlo + tlo) * max 0 (dlo + tlo)) : Int), 0)) := by
  unfold radiusF
  split
  · rename_i h
    simp only [Bool.and_eq_true] at h
    split
    · exact .inl (.inr rfl)
    · exact .inr ⟨h.1, h.2, by omega, rfl⟩
  · exact .inl (.inl rfl)

/-- The root's facts at a free square up to 10^12. -/
theorem rootUp_facts (free : Int) (h : free ≤ 1000000000000) : free ≤ 100 * (rootUp free : Int) * (rootUp free : Int) ∧ ((rootUp free : Int) = 0 ∨ 100 * ((rootUp free : Int) - 1) * ((rootUp free : Int) - 1) < free) := by
  obtain ⟨h1, h2, h3⟩ := rootUp_spec free
  constructor
  · by_cases h4 : rootUp free < 100000
    · exact h3 _ (Nat.le_refl _) h4
    · have h5 : rootUp free = 100000 := by omega
      rw [h5]; omega
  · by_cases h4 : rootUp free = 0
    · left; omega
    · right
      have := h2 (rootUp free - 1) (by omega)
      rw [show ((rootUp free - 1 : Nat) : Int) = (rootUp free : Int) - 1 by omega] at this
      exact this

set_option maxHeartbeats 1000000 in
theorem law_radius (ax ay dlo dhi ch tlo thi : Int) (w : World) :
    Calls Try.prog 3 #[.agg #[.int .i64 ax, .int .i64 ay, .int .i64 dlo, .int .i64 dhi, .int .i64 ch], .agg #[.int .i64 tlo, .int .i64 thi]] w (Ret w (.bool true)) := by
  rcases radiusF_cases ax ay dlo dhi ch tlo thi with h | ⟨h1, h2, h3, h4⟩
  · rcases h with h | h
    all_goals
      go_enter Try.func3, Try.ntmps3
      go_wp2_with (first | (go_at_call 9; refine (head_true _).mono ?_; rintro e w1 ⟨rfl, hb⟩; obtain ⟨hc, hf⟩ := bcell hb; obtain ⟨hcw, hfw⟩ := bcellK (B := w.heap.size) (K := 2) hb (by first | omega | ((repeat (first | rw [World.size_alloc] | rw [World.size_setCell] | rw [World.size_drew])); omega)); obtain ⟨hco, hfo⟩ := bcellO (B := w.heap.size) hb (by first | omega | ((repeat (first | rw [World.size_alloc] | rw [World.size_setCell] | rw [World.size_drew])); omega)); have hz := hb.size; (repeat (first | rw [World.size_alloc] at hz | rw [World.size_setCell] at hz | rw [World.size_drew] at hz)); (first | (have f1 := tr0 f1 hz) | (have f1 := tr1 f1 hz) | (have f1 := tr2 f1 hz) | skip); (first | (have f2 := tr0 f2 hz) | (have f2 := tr1 f2 hz) | (have f2 := tr2 f2 hz) | skip); (first | (have f3 := tr0 f3 hz) | (have f3 := tr1 f3 hz) | (have f3 := tr2 f3 hz) | skip); (try have f3 := f1); (first | (obtain ⟨f1, f2⟩ := fr2 hz) | (have f1 := fr1 hz) | skip); have z0 : w.heap.size < w1.heap.size := (by omega); have z1 : w.heap.size + 1 < w1.heap.size := (by omega)) | (go_at_call 10; refine (radius_any _ _ _ _ _ _ _ _).mono ?_; rintro e w1 ⟨rfl, hb⟩; obtain ⟨hc, hf⟩ := bcell hb; obtain ⟨hcw, hfw⟩ := bcellK (B := w.heap.size) (K := 2) hb (by first | omega | ((repeat (first | rw [World.size_alloc] | rw [World.size_setCell] | rw [World.size_drew])); omega)); obtain ⟨hco, hfo⟩ := bcellO (B := w.heap.size) hb (by first | omega | ((repeat (first | rw [World.size_alloc] | rw [World.size_setCell] | rw [World.size_drew])); omega)); have hz := hb.size; (repeat (first | rw [World.size_alloc] at hz | rw [World.size_setCell] at hz | rw [World.size_drew] at hz)); (first | (have f1 := tr0 f1 hz) | (have f1 := tr1 f1 hz) | (have f1 := tr2 f1 hz) | skip); (first | (have f2 := tr0 f2 hz) | (have f2 := tr1 f2 hz) | (have f2 := tr2 f2 hz) | skip); (first | (have f3 := tr0 f3 hz) | (have f3 := tr1 f3 hz) | (have f3 := tr2 f3 hz) | skip); (try have f3 := f1); (first | (obtain ⟨f1, f2⟩ := fr2 hz) | (have f1 := fr1 hz) | skip); have z0 : w.heap.size < w1.heap.size := (by omega); have z1 : w.heap.size + 1 < w1.heap.size := (by omega)))
      go_ret
      exact ⟨by simp, by (repeat' (first | (with_reducible exact Below.refl _ _) | (with_reducible refine Below.alloc ?_ ?_ _) | (with_reducible refine Below.setCell ?_ ?_ _) | (with_reducible refine Below.drew ?_) | (with_reducible refine Below.trans ?_ (Below.mono (by assumption) ?_)) | omega | (dsimp only; omega) | ((repeat (first | rw [World.size_alloc] | rw [World.size_setCell] | rw [World.size_drew])); (try dsimp only); omega)))⟩
  · have k1 := moorOk_bounds h1
    have k2 := heightsOk_bounds h2
    obtain ⟨k11, k12, k13, k14, k15, k16, k17, k18, k19⟩ := k1
    obtain ⟨k21, k22, k23⟩ := k2
    have d0 : 0 ≤ max 0 (dlo + tlo) := by omega
    have d1 : max 0 (dlo + tlo) ≤ ch := by omega
    have b1 := sq_bound ch 1000000 (by omega) k19
    have b2 : max 0 (dlo + tlo) * max 0 (dlo + tlo) ≤ ch * ch := Int.mul_le_mul d1 d1 d0 k18
    have b3 := sq_bound (max 0 (dlo + tlo)) 200000 (by omega) (by omega)
    obtain ⟨b11, b12⟩ := b1
    obtain ⟨b31, b32⟩ := b3
    have f := rootUp_facts (ch * ch - max 0 (dlo + tlo) * max 0 (dlo + tlo)) (by omega)
    have f0 := rootUp_spec (ch * ch - max 0 (dlo + tlo) * max 0 (dlo + tlo))
    obtain ⟨f1, f2⟩ := f
    have f3 := f0.1
    clear f0
    generalize rootUp (ch * ch - max 0 (dlo + tlo) * max 0 (dlo + tlo)) = r at h4 f1 f2 f3
    have g1 := sq_bound (r : Int) 100000 (by omega) (by omega)
    have g2 : 100 * (r : Int) * (r : Int) = 100 * ((r : Int) * (r : Int)) := Int.mul_assoc _ _ _
    obtain ⟨g11, g12⟩ := g1
    have c1 : 0 ≤ 100 * (r : Int) * (r : Int) := by omega
    have c2 : 100 * (r : Int) * (r : Int) ≤ 1000000000000 := by omega
    by_cases hr : (r : Int) = 0
    · have hr' : r = 0 := by omega
      subst hr'
      clear g2 g11 g12 f2 hr
      go_enter Try.func3, Try.ntmps3
      go_wp2_with (first | (go_at_call 9; refine (head_true _).mono ?_; rintro e w1 ⟨rfl, hb⟩; obtain ⟨hc, hf⟩ := bcell hb; obtain ⟨hcw, hfw⟩ := bcellK (B := w.heap.size) (K := 2) hb (by first | omega | ((repeat (first | rw [World.size_alloc] | rw [World.size_setCell] | rw [World.size_drew])); omega)); obtain ⟨hco, hfo⟩ := bcellO (B := w.heap.size) hb (by first | omega | ((repeat (first | rw [World.size_alloc] | rw [World.size_setCell] | rw [World.size_drew])); omega)); have hz := hb.size; (repeat (first | rw [World.size_alloc] at hz | rw [World.size_setCell] at hz | rw [World.size_drew] at hz)); (first | (have f1 := tr0 f1 hz) | (have f1 := tr1 f1 hz) | (have f1 := tr2 f1 hz) | skip); (first | (have f2 := tr0 f2 hz) | (have f2 := tr1 f2 hz) | (have f2 := tr2 f2 hz) | skip); (first | (have f3 := tr0 f3 hz) | (have f3 := tr1 f3 hz) | (have f3 := tr2 f3 hz) | skip); (try have f3 := f1); (first | (obtain ⟨f1, f2⟩ := fr2 hz) | (have f1 := fr1 hz) | skip); have z0 : w.heap.size < w1.heap.size := (by omega); have z1 : w.heap.size + 1 < w1.heap.size := (by omega)) | (go_at_call 10; refine (radius_any _ _ _ _ _ _ _ _).mono ?_; rintro e w1 ⟨rfl, hb⟩; obtain ⟨hc, hf⟩ := bcell hb; obtain ⟨hcw, hfw⟩ := bcellK (B := w.heap.size) (K := 2) hb (by first | omega | ((repeat (first | rw [World.size_alloc] | rw [World.size_setCell] | rw [World.size_drew])); omega)); obtain ⟨hco, hfo⟩ := bcellO (B := w.heap.size) hb (by first | omega | ((repeat (first | rw [World.size_alloc] | rw [World.size_setCell] | rw [World.size_drew])); omega)); have hz := hb.size; (repeat (first | rw [World.size_alloc] at hz | rw [World.size_setCell] at hz | rw [World.size_drew] at hz)); (first | (have f1 := tr0 f1 hz) | (have f1 := tr1 f1 hz) | (have f1 := tr2 f1 hz) | skip); (first | (have f2 := tr0 f2 hz) | (have f2 := tr1 f2 hz) | (have f2 := tr2 f2 hz) | skip); (first | (have f3 := tr0 f3 hz) | (have f3 := tr1 f3 hz) | (have f3 := tr2 f3 hz) | skip); (try have f3 := f1); (first | (obtain ⟨f1, f2⟩ := fr2 hz) | (have f1 := fr1 hz) | skip); have z0 : w.heap.size < w1.heap.size := (by omega); have z1 : w.heap.size + 1 < w1.heap.size := (by omega)))
      all_goals
        go_ret
        exact ⟨by first | rfl | (simp; omega), by (repeat' (first | (with_reducible exact Below.refl _ _) | (with_reducible refine Below.alloc ?_ ?_ _) | (with_reducible refine Below.setCell ?_ ?_ _) | (with_reducible refine Below.drew ?_) | (with_reducible refine Below.trans ?_ (Below.mono (by assumption) ?_)) | omega | (dsimp only; omega) | ((repeat (first | rw [World.size_alloc] | rw [World.size_setCell] | rw [World.size_drew])); (try dsimp only); omega)))⟩
    · have f4 : 100 * ((r : Int) - 1) * ((r : Int) - 1) < ch * ch - max 0 (dlo + tlo) * max 0 (dlo + tlo) := f2.resolve_left hr
      have g3 := sq_bound ((r : Int) - 1) 100000 (by omega) (by omega)
      have g4 : 100 * ((r : Int) - 1) * ((r : Int) - 1) = 100 * (((r : Int) - 1) * ((r : Int) - 1)) := Int.mul_assoc _ _ _
      obtain ⟨g31, g32⟩ := g3
      have c3 : 0 ≤ 100 * ((r : Int) - 1) * ((r : Int) - 1) := by omega
      have c4 : 100 * ((r : Int) - 1) * ((r : Int) - 1) ≤ 1000000000000 := by omega
      clear g2 g11 g12 f2 g31 g32 g4
      go_enter Try.func3, Try.ntmps3
      go_wp2_with (first | (go_at_call 9; refine (head_true _).mono ?_; rintro e w1 ⟨rfl, hb⟩; obtain ⟨hc, hf⟩ := bcell hb; obtain ⟨hcw, hfw⟩ := bcellK (B := w.heap.size) (K := 2) hb (by first | omega | ((repeat (first | rw [World.size_alloc] | rw [World.size_setCell] | rw [World.size_drew])); omega)); obtain ⟨hco, hfo⟩ := bcellO (B := w.heap.size) hb (by first | omega | ((repeat (first | rw [World.size_alloc] | rw [World.size_setCell] | rw [World.size_drew])); omega)); have hz := hb.size; (repeat (first | rw [World.size_alloc] at hz | rw [World.size_setCell] at hz | rw [World.size_drew] at hz)); (first | (have f1 := tr0 f1 hz) | (have f1 := tr1 f1 hz) | (have f1 := tr2 f1 hz) | skip); (first | (have f2 := tr0 f2 hz) | (have f2 := tr1 f2 hz) | (have f2 := tr2 f2 hz) | skip); (first | (have f3 := tr0 f3 hz) | (have f3 := tr1 f3 hz) | (have f3 := tr2 f3 hz) | skip); (try have f3 := f1); (first | (obtain ⟨f1, f2⟩ := fr2 hz) | (have f1 := fr1 hz) | skip); have z0 : w.heap.size < w1.heap.size := (by omega); have z1 : w.heap.size + 1 < w1.heap.size := (by omega)) | (go_at_call 10; refine (radius_any _ _ _ _ _ _ _ _).mono ?_; rintro e w1 ⟨rfl, hb⟩; obtain ⟨hc, hf⟩ := bcell hb; obtain ⟨hcw, hfw⟩ := bcellK (B := w.heap.size) (K := 2) hb (by first | omega | ((repeat (first | rw [World.size_alloc] | rw [World.size_setCell] | rw [World.size_drew])); omega)); obtain ⟨hco, hfo⟩ := bcellO (B := w.heap.size) hb (by first | omega | ((repeat (first | rw [World.size_alloc] | rw [World.size_setCell] | rw [World.size_drew])); omega)); have hz := hb.size; (repeat (first | rw [World.size_alloc] at hz | rw [World.size_setCell] at hz | rw [World.size_drew] at hz)); (first | (have f1 := tr0 f1 hz) | (have f1 := tr1 f1 hz) | (have f1 := tr2 f1 hz) | skip); (first | (have f2 := tr0 f2 hz) | (have f2 := tr1 f2 hz) | (have f2 := tr2 f2 hz) | skip); (first | (have f3 := tr0 f3 hz) | (have f3 := tr1 f3 hz) | (have f3 := tr2 f3 hz) | skip); (try have f3 := f1); (first | (obtain ⟨f1, f2⟩ := fr2 hz) | (have f1 := fr1 hz) | skip); have z0 : w.heap.size < w1.heap.size := (by omega); have z1 : w.heap.size + 1 < w1.heap.size := (by omega)))
      all_goals
        go_ret
        exact ⟨by first | rfl | (simp; omega), by (repeat' (first | (with_reducible exact Below.refl _ _) | (with_reducible refine Below.alloc ?_ ?_ _) | (with_reducible refine Below.setCell ?_ ?_ _) | (with_reducible refine Below.drew ?_) | (with_reducible refine Below.trans ?_ (Below.mono (by assumption) ?_)) | omega | (dsimp only; omega) | ((repeat (first | rw [World.size_alloc] | rw [World.size_setCell] | rw [World.size_drew])); (try dsimp only); omega)))⟩
end Go.Proofs.Ytfefbckpocbeaaa
