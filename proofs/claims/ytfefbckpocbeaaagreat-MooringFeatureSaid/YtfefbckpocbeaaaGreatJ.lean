/- The reference's square root, and the square of a distance. -/
import Derived.Test.YtfefbckpocbeaaaGreatS
import Derived.Test.YtfefbckpocbeaaaGreatO
namespace Go.Proofs.YtfefbckpocbeaaaGreat
open Go.RowKit
attribute [local go_sem high] run_max2 run_min2

/-- The square root, rounded down, of a number from 0 to below 4000000 * 4000000. -/
def rootN (n : Int) : Nat := bsearch (fun c => decide (n < ((c : Int) + 1) * ((c : Int) + 1))) 22 0 4000000
theorem rootN_spec (n : Int) : rootN n ≤ 4000000 ∧ (∀ t : Nat, t < rootN n → ((t : Int) + 1) * ((t : Int) + 1) ≤ n) ∧ (∀ t : Nat, rootN n ≤ t → t < 4000000 → n < ((t : Int) + 1) * ((t : Int) + 1)) := by
  have h := bsearch_spec (fun c => decide (n < ((c : Int) + 1) * ((c : Int) + 1))) 4000000 (fun a b hab _ ha => by
    simp only [decide_eq_true_eq] at ha ⊢; have := sq1_mono a b hab; omega) 22 0 4000000 (Nat.le_refl _) (by omega) (by decide) (by omega) (by omega)
  refine ⟨h.1, fun t ht => ?_, fun t h1 h2 => ?_⟩
  · have := h.2.1 t ht; simpa using this
  · have := h.2.2 t h1 h2; simpa using this
theorem rootN_unique {n : Int} {r : Nat} (hr : r < 4000000) (h1 : (r : Int) * (r : Int) ≤ n) (h2 : n < ((r : Int) + 1) * ((r : Int) + 1)) : r = rootN n := by
  have hs := rootN_spec n
  refine search_unique (n := 4000000) (p := fun c => decide (n < ((c : Int) + 1) * ((c : Int) + 1))) (by omega) (fun t ht => ?_) (fun t h3 _ => ?_) hs.1 (fun t ht => by simpa using hs.2.1 t ht) (fun t h1 h2 => by simpa using hs.2.2 t h1 h2)
  · have : ((t : Int) + 1) * ((t : Int) + 1) ≤ (r : Int) * (r : Int) := Int.mul_le_mul (by omega) (by omega) (by omega) (by omega)
    simp; omega
  · have : ((r : Int) + 1) * ((r : Int) + 1) ≤ ((t : Int) + 1) * ((t : Int) + 1) := sq1_mono r t h3
    simp; omega

set_option maxHeartbeats 1000000 in
theorem root_any (n : Int) (w : World) (h1 : 0 ≤ n) (h2 : n < 16000000000000) : Calls Tryz.prog 44 #[.int .i64 n] w (Ret w (.int .i64 (rootN n))) := by
  go_enter Tryz.func44, Tryz.ntmps44
  go_wp2
  go_loopg [3, 4] 4000000 (fun kx s3 s4 wr => ∃ (lo hi : Nat), s3 = .int .i64 lo ∧ s4 = .int .i64 hi ∧ lo < hi ∧ hi ≤ 4000000 ∧ hi - lo ≤ kx ∧ Below w.heap.size w wr ∧
    Hid ((lo : Int) * (lo : Int) ≤ n ∧ n < (hi : Int) * (hi : Int)))
  case atStart => exact ⟨0, 4000000, rfl, rfl, by omega, Nat.le_refl _, by omega, Below.refl _ _, ⟨by omega, by omega⟩⟩
  case round =>
    obtain ⟨lo, hi, rfl, rfl, hlh, hin, hg, hB, I⟩ := hrel
    have bm := sq_bound (((lo : Int) + (hi : Int)) / 2) 4000000 (by omega) (by omega)
    obtain ⟨bm1, bm2⟩ := bm
    by_cases hlt : lo + 1 < hi
    · by_cases hp : (((lo : Int) + (hi : Int)) / 2) * (((lo : Int) + (hi : Int)) / 2) ≤ n
      · go_wp2
        go_roundg (hi - (lo + hi) / 2)
        case measure => omega
        case rel =>
          exact ⟨(lo + hi) / 2, hi, by rw [show ((lo : Int) + (hi : Int)) / 2 = (((lo + hi) / 2 : Nat) : Int) by omega], rfl, by omega, hin, Nat.le_refl _, hB,
            ⟨by rw [show (((lo + hi) / 2 : Nat) : Int) = ((lo : Int) + (hi : Int)) / 2 by omega]; exact hp, I.out.2⟩⟩
      · go_wp2
        go_roundg ((lo + hi) / 2 - lo)
        case measure => omega
        case rel =>
          exact ⟨lo, (lo + hi) / 2, rfl, by rw [show ((lo : Int) + (hi : Int)) / 2 = (((lo + hi) / 2 : Nat) : Int) by omega], by omega, by omega, Nat.le_refl _, hB,
            ⟨I.out.1, by rw [show (((lo + hi) / 2 : Nat) : Int) = ((lo : Int) + (hi : Int)) / 2 by omega]; omega⟩⟩
    · obtain rfl : hi = lo + 1 := by omega
      go_wp2
      go_ret
      have hr : lo = rootN n := rootN_unique (by omega) I.out.1 (by have := I.out.2; rw [show ((lo + 1 : Nat) : Int) = (lo : Int) + 1 by omega] at this; exact this)
      exact ⟨by rw [← hr]; rfl, hB⟩
end Go.Proofs.YtfefbckpocbeaaaGreat
