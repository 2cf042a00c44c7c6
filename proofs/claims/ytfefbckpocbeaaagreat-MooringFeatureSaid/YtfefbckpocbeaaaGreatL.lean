/- The laws MooringRadius and MooringLow, walked. -/
import Derived.Test.YtfefbckpocbeaaaGreatI
namespace Go.Proofs.YtfefbckpocbeaaaGreat
open Go.RowKit
attribute [local go_sem high] run_max2 run_min2

theorem radiusF_cases (ax ay dlo dhi ch tlo thi : Int) :
    (radiusF ax ay dlo dhi ch tlo thi = (0, 1) ∨ radiusF ax ay dlo dhi ch tlo thi = (0, 6)) ∨
    (moorOk ax ay dlo dhi ch = true ∧ heightsOk tlo thi = true ∧ max 0 (dhi + thi) ≤ ch ∧ radiusF ax ay dlo dhi ch tlo thi = ((rootUp (ch * ch - max 0 (dlo + tlo) * max 0 (dlo + tlo)) : Int), 0)) := by
  unfold radiusF
  split
  · rename_i h
    simp only [Bool.and_eq_true] at h
    split
    · exact .inl (.inr rfl)
    · exact .inr ⟨h.1, h.2, by omega, rfl⟩
  · exact .inl (.inl rfl)

/-- The root's facts at a free square up to 10^12. -/
theorem rootUp_facts (free : Int) (h : free ≤ 1000000000000) : free ≤ 100 * (rootUp free : Int) * (rootUp free : Int) ∧ ((rootUp free : Int) = 0 ∨ 100 * ((rootUp free : Int) - 1) * ((rootUp free : Int) - 1) < free) := by
  obtain ⟨h1, h2, h3⟩ := rootUp_spec free
  constructor
  · by_cases h4 : rootUp free < 100000
    · exact h3 _ (Nat.le_refl _) h4
    · have h5 : rootUp free = 100000 := by omega
      rw [h5]; omega
  · by_cases h4 : rootUp free = 0
    · left; omega
    · right
      have := h2 (rootUp free - 1) (by omega)
      rw [show ((rootUp free - 1 : Nat) : Int) = (rootUp free : Int) - 1 by omega] at this
      exact this

end Go.Proofs.YtfefbckpocbeaaaGreat
