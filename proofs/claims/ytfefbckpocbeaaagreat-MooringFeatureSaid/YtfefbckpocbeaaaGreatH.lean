/- The walk of the law's head: the examples of the chapter. -/
import Derived.Test.YtfefbckpocbeaaaGreatO
import Derived.Test.YtfefbckpocbeaaaGreatR
import Derived.Test.YtfefbckpocbeaaaGreatF
namespace Go.Proofs.YtfefbckpocbeaaaGreat
open Go.RowKit
attribute [local go_sem high] run_max2 run_min2

set_option maxHeartbeats 400000 in
theorem small_any (w : World) : Calls Tryz.prog 25 #[] w (Ret w (.agg #[.int .i64 0, .int .i64 0, .int .i64 30, .int .i64 40, .int .i64 50])) := by
  go_enter Tryz.func25, Tryz.ntmps25
  go_wp2
  refine bodyPost_ret (v := .agg #[.int .i64 0, .int .i64 0, .int .i64 30, .int .i64 40, .int .i64 50]) (by simp [results, Tryz.results25, go_sem, *]) rfl ⟨?_, by (repeat' (first | (with_reducible exact Below.refl _ _) | (with_reducible assumption) | (with_reducible refine Below.alloc ?_ ?_ _) | (with_reducible refine Below.setCell ?_ ?_ _) | (with_reducible refine Below.drew ?_) | (with_reducible refine Below.trans ?_ (Below.mono (by assumption) ?_)) | omega | (dsimp only; omega) | ((repeat (first | rw [World.size_alloc] | rw [World.size_setCell] | rw [World.size_drew])); (try dsimp only); omega)))⟩
  rfl

set_option maxHeartbeats 400000 in
theorem lradius_true (lo hi want err : Int) (w : World) (h : radiusF 0 0 30 40 50 lo hi = (want, err)) :
    Calls Tryz.prog 23 #[.int .i64 lo, .int .i64 hi, .int .i64 want, .int .i64 err] w (Ret w (.bool true)) := by
  go_enter Tryz.func23, Tryz.ntmps23
  go_wp2_with (first | (go_at_call 25; refine (small_any _).mono ?_; rintro e w1 ⟨rfl, hb⟩; have hz := hb.size; (repeat (first | rw [World.size_alloc] at hz | rw [World.size_setCell] at hz | rw [World.size_drew] at hz))) | (go_at_call 8; refine (radius_any _ _ _ _ _ _ _ _).mono ?_; rintro e w1 ⟨rfl, hb⟩; have hz := hb.size; (repeat (first | rw [World.size_alloc] at hz | rw [World.size_setCell] at hz | rw [World.size_drew] at hz))))
  go_ret
  exact ⟨by simp [*], by (repeat' (first | (with_reducible exact Below.refl _ _) | (with_reducible assumption) | (with_reducible refine Below.alloc ?_ ?_ _) | (with_reducible refine Below.setCell ?_ ?_ _) | (with_reducible refine Below.drew ?_) | (with_reducible refine Below.trans ?_ (Below.mono (by assumption) ?_)) | omega | (dsimp only; omega) | ((repeat (first | rw [World.size_alloc] | rw [World.size_setCell] | rw [World.size_drew])); (try dsimp only); omega)))⟩

set_option maxHeartbeats 400000 in
theorem lholds_any (t x y : Int) (b : Bool) (w : World) (h : holdsF 0 0 30 40 50 t x y = (b, 0)) :
    Calls Tryz.prog 24 #[.int .i64 t, .int .i64 x, .int .i64 y] w (Ret w (.bool b)) := by
  go_enter Tryz.func24, Tryz.ntmps24
  go_wp2_with (first | (go_at_call 25; refine (small_any _).mono ?_; rintro e w1 ⟨rfl, hb⟩; have hz := hb.size; (repeat (first | rw [World.size_alloc] at hz | rw [World.size_setCell] at hz | rw [World.size_drew] at hz))) | (go_at_call 10; refine (holds_any _ _ _ _ _ _ _ _ _).mono ?_; rintro e w1 ⟨rfl, hb⟩; have hz := hb.size; (repeat (first | rw [World.size_alloc] at hz | rw [World.size_setCell] at hz | rw [World.size_drew] at hz))))
  all_goals
    go_ret
    exact ⟨rb (by simp [*]), by (repeat' (first | (with_reducible exact Below.refl _ _) | (with_reducible assumption) | (with_reducible refine Below.alloc ?_ ?_ _) | (with_reducible refine Below.setCell ?_ ?_ _) | (with_reducible refine Below.drew ?_) | (with_reducible refine Below.trans ?_ (Below.mono (by assumption) ?_)) | omega | (dsimp only; omega) | ((repeat (first | rw [World.size_alloc] | rw [World.size_setCell] | rw [World.size_drew])); (try dsimp only); omega)))⟩

set_option maxHeartbeats 1000000 in
theorem points_nil (w : World) : Calls Tryz.prog 38 #[.slice none 0 0, .slice none 0 0] w (Ret w (.bool true)) := by
  go_enter Tryz.func38, Tryz.ntmps38
  go_wp2
  go_rounds 1
  go_ret
  exact ⟨rfl, by (repeat' (first | (with_reducible exact Below.refl _ _) | (with_reducible assumption) | (with_reducible refine Below.alloc ?_ ?_ _) | (with_reducible refine Below.setCell ?_ ?_ _) | (with_reducible refine Below.drew ?_) | (with_reducible refine Below.trans ?_ (Below.mono (by assumption) ?_)) | omega | (dsimp only; omega) | ((repeat (first | rw [World.size_alloc] | rw [World.size_setCell] | rw [World.size_drew])); (try dsimp only); omega)))⟩
set_option maxHeartbeats 1000000 in
theorem sectors_nil (w : World) : Calls Tryz.prog 39 #[.slice none 0 0, .slice none 0 0] w (Ret w (.bool true)) := by
  go_enter Tryz.func39, Tryz.ntmps39
  go_wp2
  go_rounds 1
  go_ret
  exact ⟨rfl, by (repeat' (first | (with_reducible exact Below.refl _ _) | (with_reducible assumption) | (with_reducible refine Below.alloc ?_ ?_ _) | (with_reducible refine Below.setCell ?_ ?_ _) | (with_reducible refine Below.drew ?_) | (with_reducible refine Below.trans ?_ (Below.mono (by assumption) ?_)) | omega | (dsimp only; omega) | ((repeat (first | rw [World.size_alloc] | rw [World.size_setCell] | rw [World.size_drew])); (try dsimp only); omega)))⟩
set_option maxHeartbeats 1000000 in
theorem same_true (a b c d e g h : Int) (w : World) :
    Calls Tryz.prog 14 #[.agg #[.int .i64 a, .int .i64 b, .int .i64 c, .int .i64 d, .int .i64 e, .slice none 0 0, .int .i64 g, .int .i64 h, .slice none 0 0], .agg #[.int .i64 a, .int .i64 b, .int .i64 c, .int .i64 d, .int .i64 e, .slice none 0 0, .int .i64 g, .int .i64 h, .slice none 0 0]] w (Ret w (.bool true)) := by
  go_enter Tryz.func14, Tryz.ntmps14
  go_wp2_with (first | (go_at_call 38; refine (points_nil _).mono ?_; rintro e w1 ⟨rfl, hb⟩; obtain ⟨hc, hf⟩ := bcell hb; obtain ⟨hcw, hfw⟩ := bcellK (B := w.heap.size) (K := 2) hb (by first | omega | ((repeat (first | rw [World.size_alloc] | rw [World.size_setCell] | rw [World.size_drew])); omega)); obtain ⟨hco, hfo⟩ := bcellO (B := w.heap.size) hb (by first | omega | ((repeat (first | rw [World.size_alloc] | rw [World.size_setCell] | rw [World.size_drew])); omega)); have hz := hb.size; (repeat (first | rw [World.size_alloc] at hz | rw [World.size_setCell] at hz | rw [World.size_drew] at hz)); (first | (have f1 := tr0 f1 hz) | (have f1 := tr1 f1 hz) | (have f1 := tr2 f1 hz) | skip); (first | (have f2 := tr0 f2 hz) | (have f2 := tr1 f2 hz) | (have f2 := tr2 f2 hz) | skip); (first | (have f3 := tr0 f3 hz) | (have f3 := tr1 f3 hz) | (have f3 := tr2 f3 hz) | skip); (try have f3 := f1); (first | (obtain ⟨f1, f2⟩ := fr2 hz) | (have f1 := fr1 hz) | skip); have z0 : w.heap.size < w1.heap.size := (by omega); have z1 : w.heap.size + 1 < w1.heap.size := (by omega)) | (go_at_call 39; refine (sectors_nil _).mono ?_; rintro e w1 ⟨rfl, hb⟩; obtain ⟨hc, hf⟩ := bcell hb; obtain ⟨hcw, hfw⟩ := bcellK (B := w.heap.size) (K := 2) hb (by first | omega | ((repeat (first | rw [World.size_alloc] | rw [World.size_setCell] | rw [World.size_drew])); omega)); obtain ⟨hco, hfo⟩ := bcellO (B := w.heap.size) hb (by first | omega | ((repeat (first | rw [World.size_alloc] | rw [World.size_setCell] | rw [World.size_drew])); omega)); have hz := hb.size; (repeat (first | rw [World.size_alloc] at hz | rw [World.size_setCell] at hz | rw [World.size_drew] at hz)); (first | (have f1 := tr0 f1 hz) | (have f1 := tr1 f1 hz) | (have f1 := tr2 f1 hz) | skip); (first | (have f2 := tr0 f2 hz) | (have f2 := tr1 f2 hz) | (have f2 := tr2 f2 hz) | skip); (first | (have f3 := tr0 f3 hz) | (have f3 := tr1 f3 hz) | (have f3 := tr2 f3 hz) | skip); (try have f3 := f1); (first | (obtain ⟨f1, f2⟩ := fr2 hz) | (have f1 := fr1 hz) | skip); have z0 : w.heap.size < w1.heap.size := (by omega); have z1 : w.heap.size + 1 < w1.heap.size := (by omega)))
  go_ret
  exact ⟨rfl, by (repeat' (first | (with_reducible exact Below.refl _ _) | (with_reducible assumption) | (with_reducible refine Below.alloc ?_ ?_ _) | (with_reducible refine Below.setCell ?_ ?_ _) | (with_reducible refine Below.drew ?_) | (with_reducible refine Below.trans ?_ (Below.mono (by assumption) ?_)) | omega | (dsimp only; omega) | ((repeat (first | rw [World.size_alloc] | rw [World.size_setCell] | rw [World.size_drew])); (try dsimp only); omega)))⟩
end Go.Proofs.YtfefbckpocbeaaaGreat
