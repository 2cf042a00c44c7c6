/- The reference's Valid at a buoy, Feature, Box. -/
import Derived.Test.YtfefbckpocbeaaaGreatJd
namespace Go.Proofs.YtfefbckpocbeaaaGreat
open Go.RowKit
attribute [local go_sem high] run_max2 run_min2 run_max3

set_option maxHeartbeats 400000 in
theorem r07_room (x n : Int) (w : World) (h1 : -1000000 ≤ x) (h2 : x ≤ 1000000) (h3 : 0 ≤ n) (h4 : n ≤ 100000) :
    Calls Tryz.prog 59 #[.int .i64 x, .int .i64 n] w (Ret w (.bool (decide (-1000000 ≤ x - n ∧ x + n ≤ 1000000)))) := by
  go_enter Tryz.func59, Tryz.ntmps59
  go_wp2
  all_goals
    go_ret
    exact ⟨rb (by simp [*] <;> omega), by (repeat' (first | (with_reducible exact Below.refl _ _) | (with_reducible assumption) | (with_reducible refine Below.alloc ?_ ?_ _) | (with_reducible refine Below.setCell ?_ ?_ _) | (with_reducible refine Below.drew ?_) | (with_reducible refine Below.trans ?_ (Below.mono (by assumption) ?_)) | omega | (dsimp only; omega) | ((repeat (first | rw [World.size_alloc] | rw [World.size_setCell] | rw [World.size_drew])); (try dsimp only); omega)))⟩

set_option maxHeartbeats 400000 in
theorem r07_disc5 (w : World) : Calls Tryz.prog 58 #[.int .i64 5] w (Ret w (.bool true)) := by
  go_enter Tryz.func58, Tryz.ntmps58
  go_wp2
  go_ret
  exact ⟨rfl, by (repeat' (first | (with_reducible exact Below.refl _ _) | (with_reducible assumption) | (with_reducible refine Below.alloc ?_ ?_ _) | (with_reducible refine Below.setCell ?_ ?_ _) | (with_reducible refine Below.drew ?_) | (with_reducible refine Below.trans ?_ (Below.mono (by assumption) ?_)) | omega | (dsimp only; omega) | ((repeat (first | rw [World.size_alloc] | rw [World.size_setCell] | rw [World.size_drew])); (try dsimp only); omega)))⟩

set_option maxHeartbeats 1000000 in
theorem r07_buoy (id ax ay r sym : Int) (w : World) :
    Calls Tryz.prog 37 #[.agg #[.int .i64 id, .int .i64 5, .int .i64 ax, .int .i64 ay, .int .i64 r, .slice none 0 0, .int .i64 0, .int .i64 sym, .slice none 0 0]] w (Ret w (.bool (buoyOk id ax ay r sym))) := by
  by_cases hv : 1 ≤ id ∧ id ≤ 100000 ∧ 0 ≤ sym ∧ sym ≤ 999 ∧ 0 ≤ r ∧ r ≤ 100000
  · have HR : Hid (buoyOk id ax ay r sym = (placeOk ax ay && (decide (-1000000 ≤ ax - r ∧ ax + r ≤ 1000000) && decide (-1000000 ≤ ay - r ∧ ay + r ≤ 1000000)))) := by
      show _ = _
      rw [Bool.eq_iff_iff]; simp [buoyOk, hv, roomOk]; omega
    obtain ⟨h1, h2, h3, h4, h5, h6⟩ := hv
    cases h7 : placeOk ax ay
    · go_enter Tryz.func37, Tryz.ntmps37
      go_wp2_with (first | (go_at_call 58; refine (r07_disc5 _).mono ?_; rintro e w1 ⟨rfl, hb⟩; obtain ⟨hc, hf⟩ := bcell hb; obtain ⟨hcw, hfw⟩ := bcellK (B := w.heap.size) (K := 1) hb (by first | omega | ((repeat (first | rw [World.size_alloc] | rw [World.size_setCell] | rw [World.size_drew])); omega)); obtain ⟨hco, hfo⟩ := bcellO (B := w.heap.size) hb (by first | omega | ((repeat (first | rw [World.size_alloc] | rw [World.size_setCell] | rw [World.size_drew])); omega)); have hz := hb.size; (repeat (first | rw [World.size_alloc] at hz | rw [World.size_setCell] at hz | rw [World.size_drew] at hz)); (first | (have f1 := tr0 f1 hz) | (have f1 := tr1 f1 hz) | (have f1 := tr2 f1 hz) | skip); (first | (have f2 := tr0 f2 hz) | (have f2 := tr1 f2 hz) | (have f2 := tr2 f2 hz) | skip); (first | (have f3 := tr0 f3 hz) | (have f3 := tr1 f3 hz) | (have f3 := tr2 f3 hz) | skip); (try have f3 := f1); (first | (obtain ⟨f1, f2⟩ := fr2 hz) | (have f1 := fr1 hz) | skip); have z0 : w.heap.size < w1.heap.size := (by omega)) | (go_at_call 28; refine (r01_valid _ _ _).mono ?_; rintro e w1 ⟨rfl, hb⟩; obtain ⟨hc, hf⟩ := bcell hb; obtain ⟨hcw, hfw⟩ := bcellK (B := w.heap.size) (K := 1) hb (by first | omega | ((repeat (first | rw [World.size_alloc] | rw [World.size_setCell] | rw [World.size_drew])); omega)); obtain ⟨hco, hfo⟩ := bcellO (B := w.heap.size) hb (by first | omega | ((repeat (first | rw [World.size_alloc] | rw [World.size_setCell] | rw [World.size_drew])); omega)); have hz := hb.size; (repeat (first | rw [World.size_alloc] at hz | rw [World.size_setCell] at hz | rw [World.size_drew] at hz)); (first | (have f1 := tr0 f1 hz) | (have f1 := tr1 f1 hz) | (have f1 := tr2 f1 hz) | skip); (first | (have f2 := tr0 f2 hz) | (have f2 := tr1 f2 hz) | (have f2 := tr2 f2 hz) | skip); (first | (have f3 := tr0 f3 hz) | (have f3 := tr1 f3 hz) | (have f3 := tr2 f3 hz) | skip); (try have f3 := f1); (first | (obtain ⟨f1, f2⟩ := fr2 hz) | (have f1 := fr1 hz) | skip); have z0 : w.heap.size < w1.heap.size := (by omega)))
      go_ret
      exact ⟨rb (by rw [HR.out]; simp [*]), by (repeat' (first | (with_reducible exact Below.refl _ _) | (with_reducible assumption) | (with_reducible refine Below.alloc ?_ ?_ _) | (with_reducible refine Below.setCell ?_ ?_ _) | (with_reducible refine Below.drew ?_) | (with_reducible refine Below.trans ?_ (Below.mono (by assumption) ?_)) | omega | (dsimp only; omega) | ((repeat (first | rw [World.size_alloc] | rw [World.size_setCell] | rw [World.size_drew])); (try dsimp only); omega)))⟩
    · have k := placeOk_bounds h7
      obtain ⟨k1, k2, k3, k4⟩ := k
      go_enter Tryz.func37, Tryz.ntmps37
      go_wp2_with (first | (go_at_call 58; refine (r07_disc5 _).mono ?_; rintro e w1 ⟨rfl, hb⟩; obtain ⟨hc, hf⟩ := bcell hb; obtain ⟨hcw, hfw⟩ := bcellK (B := w.heap.size) (K := 1) hb (by first | omega | ((repeat (first | rw [World.size_alloc] | rw [World.size_setCell] | rw [World.size_drew])); omega)); obtain ⟨hco, hfo⟩ := bcellO (B := w.heap.size) hb (by first | omega | ((repeat (first | rw [World.size_alloc] | rw [World.size_setCell] | rw [World.size_drew])); omega)); have hz := hb.size; (repeat (first | rw [World.size_alloc] at hz | rw [World.size_setCell] at hz | rw [World.size_drew] at hz)); (first | (have f1 := tr0 f1 hz) | (have f1 := tr1 f1 hz) | (have f1 := tr2 f1 hz) | skip); (first | (have f2 := tr0 f2 hz) | (have f2 := tr1 f2 hz) | (have f2 := tr2 f2 hz) | skip); (first | (have f3 := tr0 f3 hz) | (have f3 := tr1 f3 hz) | (have f3 := tr2 f3 hz) | skip); (try have f3 := f1); (first | (obtain ⟨f1, f2⟩ := fr2 hz) | (have f1 := fr1 hz) | skip); have z0 : w.heap.size < w1.heap.size := (by omega)) | (go_at_call 28; refine (r01_valid _ _ _).mono ?_; rintro e w1 ⟨rfl, hb⟩; obtain ⟨hc, hf⟩ := bcell hb; obtain ⟨hcw, hfw⟩ := bcellK (B := w.heap.size) (K := 1) hb (by first | omega | ((repeat (first | rw [World.size_alloc] | rw [World.size_setCell] | rw [World.size_drew])); omega)); obtain ⟨hco, hfo⟩ := bcellO (B := w.heap.size) hb (by first | omega | ((repeat (first | rw [World.size_alloc] | rw [World.size_setCell] | rw [World.size_drew])); omega)); have hz := hb.size; (repeat (first | rw [World.size_alloc] at hz | rw [World.size_setCell] at hz | rw [World.size_drew] at hz)); (first | (have f1 := tr0 f1 hz) | (have f1 := tr1 f1 hz) | (have f1 := tr2 f1 hz) | skip); (first | (have f2 := tr0 f2 hz) | (have f2 := tr1 f2 hz) | (have f2 := tr2 f2 hz) | skip); (first | (have f3 := tr0 f3 hz) | (have f3 := tr1 f3 hz) | (have f3 := tr2 f3 hz) | skip); (try have f3 := f1); (first | (obtain ⟨f1, f2⟩ := fr2 hz) | (have f1 := fr1 hz) | skip); have z0 : w.heap.size < w1.heap.size := (by omega)) | (go_at_call 59; refine (r07_room _ _ _ (by omega) (by omega) (by omega) (by omega)).mono ?_; rintro e w1 ⟨rfl, hb⟩; obtain ⟨hc, hf⟩ := bcell hb; obtain ⟨hcw, hfw⟩ := bcellK (B := w.heap.size) (K := 1) hb (by first | omega | ((repeat (first | rw [World.size_alloc] | rw [World.size_setCell] | rw [World.size_drew])); omega)); obtain ⟨hco, hfo⟩ := bcellO (B := w.heap.size) hb (by first | omega | ((repeat (first | rw [World.size_alloc] | rw [World.size_setCell] | rw [World.size_drew])); omega)); have hz := hb.size; (repeat (first | rw [World.size_alloc] at hz | rw [World.size_setCell] at hz | rw [World.size_drew] at hz)); (first | (have f1 := tr0 f1 hz) | (have f1 := tr1 f1 hz) | (have f1 := tr2 f1 hz) | skip); (first | (have f2 := tr0 f2 hz) | (have f2 := tr1 f2 hz) | (have f2 := tr2 f2 hz) | skip); (first | (have f3 := tr0 f3 hz) | (have f3 := tr1 f3 hz) | (have f3 := tr2 f3 hz) | skip); (try have f3 := f1); (first | (obtain ⟨f1, f2⟩ := fr2 hz) | (have f1 := fr1 hz) | skip); have z0 : w.heap.size < w1.heap.size := (by omega)))
      all_goals
        go_ret
        exact ⟨rb (by rw [HR.out]; simp [*]), by (repeat' (first | (with_reducible exact Below.refl _ _) | (with_reducible assumption) | (with_reducible refine Below.alloc ?_ ?_ _) | (with_reducible refine Below.setCell ?_ ?_ _) | (with_reducible refine Below.drew ?_) | (with_reducible refine Below.trans ?_ (Below.mono (by assumption) ?_)) | omega | (dsimp only; omega) | ((repeat (first | rw [World.size_alloc] | rw [World.size_setCell] | rw [World.size_drew])); (try dsimp only); omega)))⟩
  · have HR : Hid (buoyOk id ax ay r sym = false) := by show _ = _; simp [buoyOk, hv]
    go_enter Tryz.func37, Tryz.ntmps37
    go_wp2_with fail
    all_goals first
      | (exfalso; omega)
      | (go_ret
         exact ⟨rb (by rw [HR.out]), by (repeat' (first | (with_reducible exact Below.refl _ _) | (with_reducible assumption) | (with_reducible refine Below.alloc ?_ ?_ _) | (with_reducible refine Below.setCell ?_ ?_ _) | (with_reducible refine Below.drew ?_) | (with_reducible refine Below.trans ?_ (Below.mono (by assumption) ?_)) | omega | (dsimp only; omega) | ((repeat (first | rw [World.size_alloc] | rw [World.size_setCell] | rw [World.size_drew])); (try dsimp only); omega)))⟩)
end Go.Proofs.YtfefbckpocbeaaaGreat
