/- The walks of plane.near and Near. -/
import Derived.Test.YtfefbckpocbeaaaGa
import Derived.Test.YtfefbckpocbeaaaGb
namespace Go.Proofs.Ytfefbckpocbeaaa
open Go.RowKit
attribute [local go_sem high] run_max2 run_min2

theorem prbt {a c : Bool} {b d : Int} (h1 : a = c) (h2 : b = d) : Ending.returned (.tuple #[.bool a, .int .i64 b]) = .returned (.tuple #[.bool c, .int .i64 d]) := by rw [h1, h2]
theorem pplace_bounds {x y : Int} (h : placeOk x y = true) : -1000000 ≤ x ∧ x ≤ 1000000 ∧ -1000000 ≤ y ∧ y ≤ 1000000 := by
  simp [placeOk] at h; omega

theorem sqF_bounds (px py ax ay bx b_y : Int) (h1 : -1000000 ≤ ax) (h2 : ax ≤ 1000000) (h3 : -1000000 ≤ ay) (h4 : ay ≤ 1000000) (h5 : -1000000 ≤ bx) (h6 : bx ≤ 1000000) (h7 : -1000000 ≤ b_y) (h8 : b_y ≤ 1000000)
    (h9 : -1000000 ≤ px) (h10 : px ≤ 1000000) (h11 : -1000000 ≤ py) (h12 : py ≤ 1000000) :
    0 ≤ (sqF px py ax ay bx b_y).1 ∧ (sqF px py ax ay bx b_y).1 ≤ 8000000000000 ∧ 0 ≤ (sqF px py ax ay bx b_y).2.1 ∧ (sqF px py ax ay bx b_y).2.1 ≤ 8000000000000 ∧ 0 ≤ (sqF px py ax ay bx b_y).2.2 ∧ (sqF px py ax ay bx b_y).2.2 ≤ 8000000000000 := by
  have a1 := sq_bound (px - ax) 2000000 (by omega) (by omega)
  have a2 := sq_bound (py - ay) 2000000 (by omega) (by omega)
  have a3 := sq_bound (px - bx) 2000000 (by omega) (by omega)
  have a4 := sq_bound (py - b_y) 2000000 (by omega) (by omega)
  have a5 := sq_bound (bx - ax) 2000000 (by omega) (by omega)
  have a6 := sq_bound (b_y - ay) 2000000 (by omega) (by omega)
  have q5 := mul_bound (a := bx - ax) (b := py - ay) (A := 2000000) (B := 2000000) (by omega) (by omega) (by omega) (by omega)
  have q7 := mul_bound (a := b_y - ay) (b := px - ax) (A := 2000000) (B := 2000000) (by omega) (by omega) (by omega) (by omega)
  unfold sqF
  split
  · refine ⟨?_, ?_, ?_, ?_, ?_, ?_⟩ <;> dsimp only <;> omega
  · split
    · refine ⟨?_, ?_, ?_, ?_, ?_, ?_⟩ <;> dsimp only <;> omega
    · refine ⟨?_, ?_, ?_, ?_, ?_, ?_⟩ <;> dsimp only <;> omega

def nearF (px py ax ay bx b_y d : Int) : Bool := decide ((sqF px py ax ay bx b_y).1 * (sqF px py ax ay bx b_y).2.1 ≤ d * d * (sqF px py ax ay bx b_y).2.2)

set_option maxHeartbeats 1000000 in
theorem near_any (px py ax ay bx b_y d : Int) (w : World) (h1 : -1000000 ≤ ax) (h2 : ax ≤ 1000000) (h3 : -1000000 ≤ ay) (h4 : ay ≤ 1000000) (h5 : -1000000 ≤ bx) (h6 : bx ≤ 1000000) (h7 : -1000000 ≤ b_y) (h8 : b_y ≤ 1000000)
    (h9 : -1000000 ≤ px) (h10 : px ≤ 1000000) (h11 : -1000000 ≤ py) (h12 : py ≤ 1000000) (h13 : 0 ≤ d) (h14 : d ≤ 3000000) :
    Calls Try.prog 117 #[.agg #[.int .i64 px, .int .i64 py], .agg #[.int .i64 ax, .int .i64 ay], .agg #[.int .i64 bx, .int .i64 b_y], .int .i64 d] w (Ret w (.bool (nearF px py ax ay bx b_y d))) := by
  have hs : ∀ W, Calls Try.prog 118 #[.agg #[.int .i64 px, .int .i64 py], .agg #[.int .i64 ax, .int .i64 ay], .agg #[.int .i64 bx, .int .i64 b_y]] W
      (Ret W (.tuple #[.int .i64 (sqF px py ax ay bx b_y).1, .int .i64 (sqF px py ax ay bx b_y).2.1, .int .i64 (sqF px py ax ay bx b_y).2.2])) := fun W => square_any px py ax ay bx b_y W h1 h2 h3 h4 h5 h6 h7 h8 h9 h10 h11 h12
  obtain ⟨s1, s2, s3, s4, s5, s6⟩ := sqF_bounds px py ax ay bx b_y h1 h2 h3 h4 h5 h6 h7 h8 h9 h10 h11 h12
  have HR := Lib.hid (nearF.eq_1 px py ax ay bx b_y d)
  generalize sqF px py ax ay bx b_y = S at hs s1 s2 s3 s4 s5 s6 HR
  obtain ⟨x, y, z⟩ := S
  dsimp only at hs s1 s2 s3 s4 s5 s6 HR
  have HS := Lib.hid hs
  clear hs
  have b1 := sq_bound d 3000000 (by omega) h14
  obtain ⟨b11, b12⟩ := b1
  go_enter Try.func117, Try.ntmps117
  go_wp2_with (first | (go_at_call 118; refine (HS.out _).mono ?_; rintro e w1 ⟨rfl, hb⟩; have hz := hb.size; (repeat (first | rw [World.size_alloc] at hz | rw [World.size_setCell] at hz | rw [World.size_drew] at hz))) | (go_at_call 119; refine (most_any _ _ _ _ _ (by omega) (by omega) (by omega) (by omega) (by omega) (by omega) (by omega) (by omega)).mono ?_; rintro e w1 ⟨rfl, hb⟩; have hz := hb.size; (repeat (first | rw [World.size_alloc] at hz | rw [World.size_setCell] at hz | rw [World.size_drew] at hz))))
  go_ret
  exact ⟨by rw [HR.out]; rfl, by (repeat' (first | (with_reducible exact Below.refl _ _) | (with_reducible assumption) | (with_reducible refine Below.alloc ?_ ?_ _) | (with_reducible refine Below.setCell ?_ ?_ _) | (with_reducible refine Below.drew ?_) | (with_reducible refine Below.trans ?_ (Below.mono (by assumption) ?_)) | omega | (dsimp only; omega) | ((repeat (first | rw [World.size_alloc] | rw [World.size_setCell] | rw [World.size_drew])); (try dsimp only); omega)))⟩

set_option maxHeartbeats 400000 in
theorem distance_any (d : Int) (w : World) : Calls Try.prog 116 #[.int .i64 d] w (Ret w (.bool (decide (0 ≤ d ∧ d ≤ 3000000)))) := by
  go_enter Try.func116, Try.ntmps116
  go_wp2
  all_goals
    go_ret
    exact ⟨rb (by simp [*] <;> omega), by (repeat' (first | (with_reducible exact Below.refl _ _) | (with_reducible assumption) | (with_reducible refine Below.alloc ?_ ?_ _) | (with_reducible refine Below.setCell ?_ ?_ _) | (with_reducible refine Below.drew ?_) | (with_reducible refine Below.trans ?_ (Below.mono (by assumption) ?_)) | omega | (dsimp only; omega) | ((repeat (first | rw [World.size_alloc] | rw [World.size_setCell] | rw [World.size_drew])); (try dsimp only); omega)))⟩

def NearF (px py ax ay bx b_y d : Int) : Bool × Int :=
  if (placeOk px py && (placeOk ax ay && placeOk bx b_y) && decide (0 ≤ d ∧ d ≤ 3000000)) = true then (nearF px py ax ay bx b_y d, 0) else (false, 1)

set_option maxHeartbeats 2000000 in
theorem Near_any (px py ax ay bx b_y d : Int) (w : World) :
    Calls Try.prog 115 #[.agg #[.int .i64 px, .int .i64 py], .agg #[.int .i64 ax, .int .i64 ay], .agg #[.int .i64 bx, .int .i64 b_y], .int .i64 d] w
      (Ret w (.tuple #[.bool (NearF px py ax ay bx b_y d).1, .int .i64 (NearF px py ax ay bx b_y d).2])) := by
  have HR := Lib.hid (NearF.eq_1 px py ax ay bx b_y d)
  cases hp : placeOk px py && (placeOk ax ay && placeOk bx b_y)
  · rw [hp] at HR
    have HP := Lib.hid hp
    clear hp
    go_enter Try.func115, Try.ntmps115
    go_wp2_with (go_at_call 74; refine (pvalid3 _ px py ax ay bx b_y _ ?_ ?_ ?_ ?_ ?_ ?_).mono ?_; go_simp; go_simp; go_simp; go_simp; go_simp; go_simp; rw [HP.out]; rintro e w1 ⟨rfl, hb⟩; have hz := hb.size; (repeat (first | rw [World.size_alloc] at hz | rw [World.size_setCell] at hz | rw [World.size_drew] at hz)))
    go_ret2
    exact ⟨prbt (by rw [HR.out]; rfl) (by rw [HR.out]; rfl), by (repeat' (first | (with_reducible exact Below.refl _ _) | (with_reducible assumption) | (with_reducible refine Below.alloc ?_ ?_ _) | (with_reducible refine Below.setCell ?_ ?_ _) | (with_reducible refine Below.drew ?_) | (with_reducible refine Below.trans ?_ (Below.mono (by assumption) ?_)) | omega | (dsimp only; omega) | ((repeat (first | rw [World.size_alloc] | rw [World.size_setCell] | rw [World.size_drew])); (try dsimp only); omega)))⟩
  by_cases hd : 0 ≤ d ∧ d ≤ 3000000
  · rw [hp, decide_eq_true hd] at HR
    simp only [Bool.and_eq_true] at hp
    obtain ⟨p1, p2, p3⟩ := hp
    obtain ⟨k1, k2, k3, k4⟩ := pplace_bounds p1
    obtain ⟨k5, k6, k7, k8⟩ := pplace_bounds p2
    obtain ⟨k9, k10, k11, k12⟩ := pplace_bounds p3
    have hp : (placeOk px py && (placeOk ax ay && placeOk bx b_y)) = true := by rw [p1, p2, p3]; rfl
    obtain ⟨hd1, hd2⟩ := hd
    have HP := Lib.hid hp
    clear hp p1 p2 p3
    go_enter Try.func115, Try.ntmps115
    go_wp2_with (first
      | (go_at_call 74; refine (pvalid3 _ px py ax ay bx b_y _ ?_ ?_ ?_ ?_ ?_ ?_).mono ?_; go_simp; go_simp; go_simp; go_simp; go_simp; go_simp; rw [HP.out]; rintro e w1 ⟨rfl, hb⟩; obtain ⟨hc, hf⟩ := bcell hb; obtain ⟨hcw, hfw⟩ := bcellK (B := w.heap.size) (K := 3) hb (by first | omega | ((repeat (first | rw [World.size_alloc] | rw [World.size_setCell] | rw [World.size_drew])); omega)); obtain ⟨hco, hfo⟩ := bcellO (B := w.heap.size) hb (by first | omega | ((repeat (first | rw [World.size_alloc] | rw [World.size_setCell] | rw [World.size_drew])); omega)); have hz := hb.size; (repeat (first | rw [World.size_alloc] at hz | rw [World.size_setCell] at hz | rw [World.size_drew] at hz)); (first | (have f1 := tr0 f1 hz) | (have f1 := tr1 f1 hz) | (have f1 := tr2 f1 hz) | skip); (first | (have f2 := tr0 f2 hz) | (have f2 := tr1 f2 hz) | (have f2 := tr2 f2 hz) | skip); (first | (have f3 := tr0 f3 hz) | (have f3 := tr1 f3 hz) | (have f3 := tr2 f3 hz) | skip); (try have f3 := f1); (first | (obtain ⟨f1, f2⟩ := fr2 hz) | (have f1 := fr1 hz) | skip); have z0 : w.heap.size < w1.heap.size := (by omega); have z1 : w.heap.size + 1 < w1.heap.size := (by omega); have z2 : w.heap.size + 1 + 1 < w1.heap.size := (by omega))
      | (go_at_call 116; refine (distance_any _ _).mono ?_; rintro e w1 ⟨rfl, hb⟩; obtain ⟨hc, hf⟩ := bcell hb; obtain ⟨hcw, hfw⟩ := bcellK (B := w.heap.size) (K := 3) hb (by first | omega | ((repeat (first | rw [World.size_alloc] | rw [World.size_setCell] | rw [World.size_drew])); omega)); obtain ⟨hco, hfo⟩ := bcellO (B := w.heap.size) hb (by first | omega | ((repeat (first | rw [World.size_alloc] | rw [World.size_setCell] | rw [World.size_drew])); omega)); have hz := hb.size; (repeat (first | rw [World.size_alloc] at hz | rw [World.size_setCell] at hz | rw [World.size_drew] at hz)); (first | (have f1 := tr0 f1 hz) | (have f1 := tr1 f1 hz) | (have f1 := tr2 f1 hz) | skip); (first | (have f2 := tr0 f2 hz) | (have f2 := tr1 f2 hz) | (have f2 := tr2 f2 hz) | skip); (first | (have f3 := tr0 f3 hz) | (have f3 := tr1 f3 hz) | (have f3 := tr2 f3 hz) | skip); (try have f3 := f1); (first | (obtain ⟨f1, f2⟩ := fr2 hz) | (have f1 := fr1 hz) | skip); have z0 : w.heap.size < w1.heap.size := (by omega); have z1 : w.heap.size + 1 < w1.heap.size := (by omega); have z2 : w.heap.size + 1 + 1 < w1.heap.size := (by omega))
      | (go_at_call 117; refine (near_any _ _ _ _ _ _ _ _ (by omega) (by omega) (by omega) (by omega) (by omega) (by omega) (by omega) (by omega) (by omega) (by omega) (by omega) (by omega) (by omega) (by omega)).mono ?_; rintro e w1 ⟨rfl, hb⟩; obtain ⟨hc, hf⟩ := bcell hb; obtain ⟨hcw, hfw⟩ := bcellK (B := w.heap.size) (K := 3) hb (by first | omega | ((repeat (first | rw [World.size_alloc] | rw [World.size_setCell] | rw [World.size_drew])); omega)); obtain ⟨hco, hfo⟩ := bcellO (B := w.heap.size) hb (by first | omega | ((repeat (first | rw [World.size_alloc] | rw [World.size_setCell] | rw [World.size_drew])); omega)); have hz := hb.size; (repeat (first | rw [World.size_alloc] at hz | rw [World.size_setCell] at hz | rw [World.size_drew] at hz)); (first | (have f1 := tr0 f1 hz) | (have f1 := tr1 f1 hz) | (have f1 := tr2 f1 hz) | skip); (first | (have f2 := tr0 f2 hz) | (have f2 := tr1 f2 hz) | (have f2 := tr2 f2 hz) | skip); (first | (have f3 := tr0 f3 hz) | (have f3 := tr1 f3 hz) | (have f3 := tr2 f3 hz) | skip); (try have f3 := f1); (first | (obtain ⟨f1, f2⟩ := fr2 hz) | (have f1 := fr1 hz) | skip); have z0 : w.heap.size < w1.heap.size := (by omega); have z1 : w.heap.size + 1 < w1.heap.size := (by omega); have z2 : w.heap.size + 1 + 1 < w1.heap.size := (by omega)))
    go_ret2
    exact ⟨prbt (by rw [HR.out]; rfl) (by rw [HR.out]; rfl), by (repeat' (first | (with_reducible exact Below.refl _ _) | (with_reducible assumption) | (with_reducible refine Below.alloc ?_ ?_ _) | (with_reducible refine Below.setCell ?_ ?_ _) | (with_reducible refine Below.drew ?_) | (with_reducible refine Below.trans ?_ (Below.mono (by assumption) ?_)) | omega | (dsimp only; omega) | ((repeat (first | rw [World.size_alloc] | rw [World.size_setCell] | rw [World.size_drew])); (try dsimp only); omega)))⟩
  · rw [hp, decide_eq_false hd] at HR
    have HP := Lib.hid hp
    clear hp
    go_enter Try.func115, Try.ntmps115
    go_wp2_with (first
      | (go_at_call 74; refine (pvalid3 _ px py ax ay bx b_y _ ?_ ?_ ?_ ?_ ?_ ?_).mono ?_; go_simp; go_simp; go_simp; go_simp; go_simp; go_simp; rw [HP.out]; rintro e w1 ⟨rfl, hb⟩; obtain ⟨hc, hf⟩ := bcell hb; obtain ⟨hcw, hfw⟩ := bcellK (B := w.heap.size) (K := 3) hb (by first | omega | ((repeat (first | rw [World.size_alloc] | rw [World.size_setCell] | rw [World.size_drew])); omega)); obtain ⟨hco, hfo⟩ := bcellO (B := w.heap.size) hb (by first | omega | ((repeat (first | rw [World.size_alloc] | rw [World.size_setCell] | rw [World.size_drew])); omega)); have hz := hb.size; (repeat (first | rw [World.size_alloc] at hz | rw [World.size_setCell] at hz | rw [World.size_drew] at hz)); (first | (have f1 := tr0 f1 hz) | (have f1 := tr1 f1 hz) | (have f1 := tr2 f1 hz) | skip); (first | (have f2 := tr0 f2 hz) | (have f2 := tr1 f2 hz) | (have f2 := tr2 f2 hz) | skip); (first | (have f3 := tr0 f3 hz) | (have f3 := tr1 f3 hz) | (have f3 := tr2 f3 hz) | skip); (try have f3 := f1); (first | (obtain ⟨f1, f2⟩ := fr2 hz) | (have f1 := fr1 hz) | skip); have z0 : w.heap.size < w1.heap.size := (by omega); have z1 : w.heap.size + 1 < w1.heap.size := (by omega); have z2 : w.heap.size + 1 + 1 < w1.heap.size := (by omega))
      | (go_at_call 116; refine (distance_any _ _).mono ?_; rintro e w1 ⟨rfl, hb⟩; obtain ⟨hc, hf⟩ := bcell hb; obtain ⟨hcw, hfw⟩ := bcellK (B := w.heap.size) (K := 3) hb (by first | omega | ((repeat (first | rw [World.size_alloc] | rw [World.size_setCell] | rw [World.size_drew])); omega)); obtain ⟨hco, hfo⟩ := bcellO (B := w.heap.size) hb (by first | omega | ((repeat (first | rw [World.size_alloc] | rw [World.size_setCell] | rw [World.size_drew])); omega)); have hz := hb.size; (repeat (first | rw [World.size_alloc] at hz | rw [World.size_setCell] at hz | rw [World.size_drew] at hz)); (first | (have f1 := tr0 f1 hz) | (have f1 := tr1 f1 hz) | (have f1 := tr2 f1 hz) | skip); (first | (have f2 := tr0 f2 hz) | (have f2 := tr1 f2 hz) | (have f2 := tr2 f2 hz) | skip); (first | (have f3 := tr0 f3 hz) | (have f3 := tr1 f3 hz) | (have f3 := tr2 f3 hz) | skip); (try have f3 := f1); (first | (obtain ⟨f1, f2⟩ := fr2 hz) | (have f1 := fr1 hz) | skip); have z0 : w.heap.size < w1.heap.size := (by omega); have z1 : w.heap.size + 1 < w1.heap.size := (by omega); have z2 : w.heap.size + 1 + 1 < w1.heap.size := (by omega)))
    all_goals first
      | (exfalso; omega)
      | (go_ret2
         exact ⟨prbt (by rw [HR.out]; rfl) (by rw [HR.out]; rfl), by (repeat' (first | (with_reducible exact Below.refl _ _) | (with_reducible assumption) | (with_reducible refine Below.alloc ?_ ?_ _) | (with_reducible refine Below.setCell ?_ ?_ _) | (with_reducible refine Below.drew ?_) | (with_reducible refine Below.trans ?_ (Below.mono (by assumption) ?_)) | omega | (dsimp only; omega) | ((repeat (first | rw [World.size_alloc] | rw [World.size_setCell] | rw [World.size_drew])); (try dsimp only); omega)))⟩)
end Go.Proofs.Ytfefbckpocbeaaa
