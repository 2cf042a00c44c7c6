/- The walks of span.JoinBox, WithinBox, InBox. -/
import Derived.Test.YtfefbckpocbeaaaP
namespace Go.Proofs.Ytfefbckpocbeaaa
open Go.RowKit
attribute [local go_sem high] run_max2 run_min2

def joinBoxF (a b c d a' b' c' d' : Int) : Int × Int × Int × Int × Int :=
  if (boxOk a b c d && boxOk a' b' c' d') = true then (min a a', max b b', min c c', max d d', 0) else (0, 0, 0, 0, 1)

set_option maxRecDepth 100000 in
set_option maxHeartbeats 2000000 in
theorem boxes_join (a b c d a' b' c' d' : Int) (w : World) :
    Calls Try.prog 63 #[.agg #[.int .i64 a, .int .i64 b, .int .i64 c, .int .i64 d], .agg #[.int .i64 a', .int .i64 b', .int .i64 c', .int .i64 d'], .func (.func 53) #[] #[]] w
      (Ret w (.tuple #[.agg #[.int .i64 (joinBoxF a b c d a' b' c' d').1, .int .i64 (joinBoxF a b c d a' b' c' d').2.1, .int .i64 (joinBoxF a b c d a' b' c' d').2.2.1, .int .i64 (joinBoxF a b c d a' b' c' d').2.2.2.1], .int .i64 (joinBoxF a b c d a' b' c' d').2.2.2.2])) := by
  have HR := Lib.hid (joinBoxF.eq_1 a b c d a' b' c' d')
  cases h1 : boxOk a b c d
  · rw [h1] at HR
    go_enter Try.func63, Try.ntmps63
    go_wp2_with (go_at_call 36; refine (validbox_any _ _ _ _ _).mono ?_; rintro e w1 ⟨rfl, hb⟩; obtain ⟨hc, hf⟩ := bcell hb; obtain ⟨hcw, hfw⟩ := bcellK (B := w.heap.size) (K := 3) hb (by first | omega | ((repeat (first | rw [World.size_alloc] | rw [World.size_setCell] | rw [World.size_drew])); omega)); obtain ⟨hco, hfo⟩ := bcellO (B := w.heap.size) hb (by first | omega | ((repeat (first | rw [World.size_alloc] | rw [World.size_setCell] | rw [World.size_drew])); omega)); have hz := hb.size; (repeat (first | rw [World.size_alloc] at hz | rw [World.size_setCell] at hz | rw [World.size_drew] at hz)); (first | (have f1 := tr0 f1 hz) | (have f1 := tr1 f1 hz) | (have f1 := tr2 f1 hz) | skip); (first | (have f2 := tr0 f2 hz) | (have f2 := tr1 f2 hz) | (have f2 := tr2 f2 hz) | skip); (first | (have f3 := tr0 f3 hz) | (have f3 := tr1 f3 hz) | (have f3 := tr2 f3 hz) | skip); (try have f3 := f1); (first | (obtain ⟨f1, f2⟩ := fr2 hz) | (have f1 := fr1 hz) | skip); have z0 : w.heap.size < w1.heap.size := (by omega); have z1 : w.heap.size + 1 < w1.heap.size := (by omega); have z2 : w.heap.size + 1 + 1 < w1.heap.size := (by omega))
    refine bodyPost_ret (v := .tuple #[.agg #[.int .i64 0, .int .i64 0, .int .i64 0, .int .i64 0], .int .i64 1]) (by simp [results, Try.results63, go_sem, *]) rfl ⟨?_, by (repeat' (first | (with_reducible exact Below.refl _ _) | (with_reducible assumption) | (with_reducible refine Below.alloc ?_ ?_ _) | (with_reducible refine Below.setCell ?_ ?_ _) | (with_reducible refine Below.drew ?_) | (with_reducible refine Below.trans ?_ (Below.mono (by assumption) ?_)) | omega | (dsimp only; omega) | ((repeat (first | rw [World.size_alloc] | rw [World.size_setCell] | rw [World.size_drew])); (try dsimp only); omega)))⟩
    rw [HR.out]; rfl
  cases h2 : boxOk a' b' c' d'
  · rw [h1, h2] at HR
    go_enter Try.func63, Try.ntmps63
    go_wp2_with (go_at_call 36; refine (validbox_any _ _ _ _ _).mono ?_; rintro e w1 ⟨rfl, hb⟩; obtain ⟨hc, hf⟩ := bcell hb; obtain ⟨hcw, hfw⟩ := bcellK (B := w.heap.size) (K := 3) hb (by first | omega | ((repeat (first | rw [World.size_alloc] | rw [World.size_setCell] | rw [World.size_drew])); omega)); obtain ⟨hco, hfo⟩ := bcellO (B := w.heap.size) hb (by first | omega | ((repeat (first | rw [World.size_alloc] | rw [World.size_setCell] | rw [World.size_drew])); omega)); have hz := hb.size; (repeat (first | rw [World.size_alloc] at hz | rw [World.size_setCell] at hz | rw [World.size_drew] at hz)); (first | (have f1 := tr0 f1 hz) | (have f1 := tr1 f1 hz) | (have f1 := tr2 f1 hz) | skip); (first | (have f2 := tr0 f2 hz) | (have f2 := tr1 f2 hz) | (have f2 := tr2 f2 hz) | skip); (first | (have f3 := tr0 f3 hz) | (have f3 := tr1 f3 hz) | (have f3 := tr2 f3 hz) | skip); (try have f3 := f1); (first | (obtain ⟨f1, f2⟩ := fr2 hz) | (have f1 := fr1 hz) | skip); have z0 : w.heap.size < w1.heap.size := (by omega); have z1 : w.heap.size + 1 < w1.heap.size := (by omega); have z2 : w.heap.size + 1 + 1 < w1.heap.size := (by omega))
    refine bodyPost_ret (v := .tuple #[.agg #[.int .i64 0, .int .i64 0, .int .i64 0, .int .i64 0], .int .i64 1]) (by simp [results, Try.results63, go_sem, *]) rfl ⟨?_, by (repeat' (first | (with_reducible exact Below.refl _ _) | (with_reducible assumption) | (with_reducible refine Below.alloc ?_ ?_ _) | (with_reducible refine Below.setCell ?_ ?_ _) | (with_reducible refine Below.drew ?_) | (with_reducible refine Below.trans ?_ (Below.mono (by assumption) ?_)) | omega | (dsimp only; omega) | ((repeat (first | rw [World.size_alloc] | rw [World.size_setCell] | rw [World.size_drew])); (try dsimp only); omega)))⟩
    rw [HR.out]; rfl
  rw [h1, h2] at HR
  obtain ⟨s1, s2⟩ := boxOk_span h1
  obtain ⟨s3, s4⟩ := boxOk_span h2
  have j1 : joinF a b a' b' = (min a a', max b b', 0) := by rw [joinF, s1, s3]; rfl
  have j2 : joinF c d c' d' = (min c c', max d d', 0) := by rw [joinF, s2, s4]; rfl
  clear s1 s2 s3 s4
  go_enter Try.func63, Try.ntmps63
  go_wp2_with (first | (go_at_call 36; refine (validbox_any _ _ _ _ _).mono ?_; rintro e w1 ⟨rfl, hb⟩; obtain ⟨hc, hf⟩ := bcell hb; obtain ⟨hcw, hfw⟩ := bcellK (B := w.heap.size) (K := 3) hb (by first | omega | ((repeat (first | rw [World.size_alloc] | rw [World.size_setCell] | rw [World.size_drew])); omega)); obtain ⟨hco, hfo⟩ := bcellO (B := w.heap.size) hb (by first | omega | ((repeat (first | rw [World.size_alloc] | rw [World.size_setCell] | rw [World.size_drew])); omega)); have hz := hb.size; (repeat (first | rw [World.size_alloc] at hz | rw [World.size_setCell] at hz | rw [World.size_drew] at hz)); (first | (have f1 := tr0 f1 hz) | (have f1 := tr1 f1 hz) | (have f1 := tr2 f1 hz) | skip); (first | (have f2 := tr0 f2 hz) | (have f2 := tr1 f2 hz) | (have f2 := tr2 f2 hz) | skip); (first | (have f3 := tr0 f3 hz) | (have f3 := tr1 f3 hz) | (have f3 := tr2 f3 hz) | skip); (try have f3 := f1); (first | (obtain ⟨f1, f2⟩ := fr2 hz) | (have f1 := fr1 hz) | skip); have z0 : w.heap.size < w1.heap.size := (by omega); have z1 : w.heap.size + 1 < w1.heap.size := (by omega); have z2 : w.heap.size + 1 + 1 < w1.heap.size := (by omega)) | (go_at_call 53; refine (join_any _ _ _ _ _).mono ?_; rintro e w1 ⟨rfl, hb⟩; obtain ⟨hc, hf⟩ := bcell hb; obtain ⟨hcw, hfw⟩ := bcellK (B := w.heap.size) (K := 3) hb (by first | omega | ((repeat (first | rw [World.size_alloc] | rw [World.size_setCell] | rw [World.size_drew])); omega)); obtain ⟨hco, hfo⟩ := bcellO (B := w.heap.size) hb (by first | omega | ((repeat (first | rw [World.size_alloc] | rw [World.size_setCell] | rw [World.size_drew])); omega)); have hz := hb.size; (repeat (first | rw [World.size_alloc] at hz | rw [World.size_setCell] at hz | rw [World.size_drew] at hz)); (first | (have f1 := tr0 f1 hz) | (have f1 := tr1 f1 hz) | (have f1 := tr2 f1 hz) | skip); (first | (have f2 := tr0 f2 hz) | (have f2 := tr1 f2 hz) | (have f2 := tr2 f2 hz) | skip); (first | (have f3 := tr0 f3 hz) | (have f3 := tr1 f3 hz) | (have f3 := tr2 f3 hz) | skip); (try have f3 := f1); (first | (obtain ⟨f1, f2⟩ := fr2 hz) | (have f1 := fr1 hz) | skip); have z0 : w.heap.size < w1.heap.size := (by omega); have z1 : w.heap.size + 1 < w1.heap.size := (by omega); have z2 : w.heap.size + 1 + 1 < w1.heap.size := (by omega)))
  refine bodyPost_ret (v := .tuple #[.agg #[.int .i64 (min a a'), .int .i64 (max b b'), .int .i64 (min c c'), .int .i64 (max d d')], .int .i64 0]) (by simp [results, Try.results63, go_sem, *]) rfl ⟨?_, by (repeat' (first | (with_reducible exact Below.refl _ _) | (with_reducible assumption) | (with_reducible refine Below.alloc ?_ ?_ _) | (with_reducible refine Below.setCell ?_ ?_ _) | (with_reducible refine Below.drew ?_) | (with_reducible refine Below.trans ?_ (Below.mono (by assumption) ?_)) | omega | (dsimp only; omega) | ((repeat (first | rw [World.size_alloc] | rw [World.size_setCell] | rw [World.size_drew])); (try dsimp only); omega)))⟩
  rw [HR.out]; rfl

set_option maxHeartbeats 1000000 in
theorem joinbox_any (a b c d a' b' c' d' : Int) (w : World) :
    Calls Try.prog 51 #[.agg #[.int .i64 a, .int .i64 b, .int .i64 c, .int .i64 d], .agg #[.int .i64 a', .int .i64 b', .int .i64 c', .int .i64 d']] w
      (Ret w (.tuple #[.agg #[.int .i64 (joinBoxF a b c d a' b' c' d').1, .int .i64 (joinBoxF a b c d a' b' c' d').2.1, .int .i64 (joinBoxF a b c d a' b' c' d').2.2.1, .int .i64 (joinBoxF a b c d a' b' c' d').2.2.2.1], .int .i64 (joinBoxF a b c d a' b' c' d').2.2.2.2])) := by
  generalize hJ : joinBoxF a b c d a' b' c' d' = J
  obtain ⟨x1, x2, x3, x4, x5⟩ := J
  have H := Lib.hid hJ
  clear hJ
  go_enter Try.func51, Try.ntmps51
  go_wp2_with (go_at_call 63; refine (boxes_join _ _ _ _ _ _ _ _ _).mono ?_; rw [H.out]; rintro e w1 ⟨rfl, hb⟩; obtain ⟨hc, hf⟩ := bcell hb; obtain ⟨hcw, hfw⟩ := bcellK (B := w.heap.size) (K := 3) hb (by first | omega | ((repeat (first | rw [World.size_alloc] | rw [World.size_setCell] | rw [World.size_drew])); omega)); obtain ⟨hco, hfo⟩ := bcellO (B := w.heap.size) hb (by first | omega | ((repeat (first | rw [World.size_alloc] | rw [World.size_setCell] | rw [World.size_drew])); omega)); have hz := hb.size; (repeat (first | rw [World.size_alloc] at hz | rw [World.size_setCell] at hz | rw [World.size_drew] at hz)); (first | (have f1 := tr0 f1 hz) | (have f1 := tr1 f1 hz) | (have f1 := tr2 f1 hz) | skip); (first | (have f2 := tr0 f2 hz) | (have f2 := tr1 f2 hz) | (have f2 := tr2 f2 hz) | skip); (first | (have f3 := tr0 f3 hz) | (have f3 := tr1 f3 hz) | (have f3 := tr2 f3 hz) | skip); (try have f3 := f1); (first | (obtain ⟨f1, f2⟩ := fr2 hz) | (have f1 := fr1 hz) | skip); have z0 : w.heap.size < w1.heap.size := (by omega); have z1 : w.heap.size + 1 < w1.heap.size := (by omega); have z2 : w.heap.size + 1 + 1 < w1.heap.size := (by omega))
  refine bodyPost_ret (v := .tuple #[.agg #[.int .i64 x1, .int .i64 x2, .int .i64 x3, .int .i64 x4], .int .i64 x5]) (by simp [results, Try.results51, go_sem, *]) rfl ⟨?_, by (repeat' (first | (with_reducible exact Below.refl _ _) | (with_reducible assumption) | (with_reducible refine Below.alloc ?_ ?_ _) | (with_reducible refine Below.setCell ?_ ?_ _) | (with_reducible refine Below.drew ?_) | (with_reducible refine Below.trans ?_ (Below.mono (by assumption) ?_)) | omega | (dsimp only; omega) | ((repeat (first | rw [World.size_alloc] | rw [World.size_setCell] | rw [World.size_drew])); (try dsimp only); omega)))⟩
  rfl

def withinBoxF (a b c d a' b' c' d' : Int) : Bool × Int :=
  if (boxOk a b c d && boxOk a' b' c' d') = true then (decide (a' ≤ a ∧ b ≤ b' ∧ c' ≤ c ∧ d ≤ d'), 0) else (false, 1)

set_option maxHeartbeats 1000000 in
theorem withinbox_any (a b c d a' b' c' d' : Int) (w : World) :
    Calls Try.prog 41 #[.agg #[.int .i64 a, .int .i64 b, .int .i64 c, .int .i64 d], .agg #[.int .i64 a', .int .i64 b', .int .i64 c', .int .i64 d']] w
      (Ret w (.tuple #[.bool (withinBoxF a b c d a' b' c' d').1, .int .i64 (withinBoxF a b c d a' b' c' d').2])) := by
  by_cases hv : (boxOk a b c d && boxOk a' b' c' d') = true
  · have HR : Hid (withinBoxF a b c d a' b' c' d' = (decide (a' ≤ a ∧ b ≤ b' ∧ c' ≤ c ∧ d ≤ d'), 0)) := by show _ = _; rw [withinBoxF, if_pos hv]
    have hj : joinBoxF a b c d a' b' c' d' = (min a a', max b b', min c c', max d d', 0) := by rw [joinBoxF, if_pos hv]
    clear hv
    go_enter Try.func41, Try.ntmps41
    go_wp2_with (go_at_call 51; refine (joinbox_any _ _ _ _ _ _ _ _ _).mono ?_; rintro e w1 ⟨rfl, hb⟩; obtain ⟨hc, hf⟩ := bcell hb; obtain ⟨hcw, hfw⟩ := bcellK (B := w.heap.size) (K := 2) hb (by first | omega | ((repeat (first | rw [World.size_alloc] | rw [World.size_setCell] | rw [World.size_drew])); omega)); obtain ⟨hco, hfo⟩ := bcellO (B := w.heap.size) hb (by first | omega | ((repeat (first | rw [World.size_alloc] | rw [World.size_setCell] | rw [World.size_drew])); omega)); have hz := hb.size; (repeat (first | rw [World.size_alloc] at hz | rw [World.size_setCell] at hz | rw [World.size_drew] at hz)); (first | (have f1 := tr0 f1 hz) | (have f1 := tr1 f1 hz) | (have f1 := tr2 f1 hz) | skip); (first | (have f2 := tr0 f2 hz) | (have f2 := tr1 f2 hz) | (have f2 := tr2 f2 hz) | skip); (first | (have f3 := tr0 f3 hz) | (have f3 := tr1 f3 hz) | (have f3 := tr2 f3 hz) | skip); (try have f3 := f1); (first | (obtain ⟨f1, f2⟩ := fr2 hz) | (have f1 := fr1 hz) | skip); have z0 : w.heap.size < w1.heap.size := (by omega); have z1 : w.heap.size + 1 < w1.heap.size := (by omega))
    all_goals
      go_ret2
      exact ⟨rbt2 (by rw [HR.out]; simp [*]; try omega) (by rw [HR.out]), by (repeat' (first | (with_reducible exact Below.refl _ _) | (with_reducible assumption) | (with_reducible refine Below.alloc ?_ ?_ _) | (with_reducible refine Below.setCell ?_ ?_ _) | (with_reducible refine Below.drew ?_) | (with_reducible refine Below.trans ?_ (Below.mono (by assumption) ?_)) | omega | (dsimp only; omega) | ((repeat (first | rw [World.size_alloc] | rw [World.size_setCell] | rw [World.size_drew])); (try dsimp only); omega)))⟩
  · have HR : Hid (withinBoxF a b c d a' b' c' d' = (false, 1)) := by show _ = _; rw [withinBoxF, if_neg hv]
    have hj : joinBoxF a b c d a' b' c' d' = (0, 0, 0, 0, 1) := by rw [joinBoxF, if_neg hv]
    clear hv
    go_enter Try.func41, Try.ntmps41
    go_wp2_with (go_at_call 51; refine (joinbox_any _ _ _ _ _ _ _ _ _).mono ?_; rintro e w1 ⟨rfl, hb⟩; obtain ⟨hc, hf⟩ := bcell hb; obtain ⟨hcw, hfw⟩ := bcellK (B := w.heap.size) (K := 2) hb (by first | omega | ((repeat (first | rw [World.size_alloc] | rw [World.size_setCell] | rw [World.size_drew])); omega)); obtain ⟨hco, hfo⟩ := bcellO (B := w.heap.size) hb (by first | omega | ((repeat (first | rw [World.size_alloc] | rw [World.size_setCell] | rw [World.size_drew])); omega)); have hz := hb.size; (repeat (first | rw [World.size_alloc] at hz | rw [World.size_setCell] at hz | rw [World.size_drew] at hz)); (first | (have f1 := tr0 f1 hz) | (have f1 := tr1 f1 hz) | (have f1 := tr2 f1 hz) | skip); (first | (have f2 := tr0 f2 hz) | (have f2 := tr1 f2 hz) | (have f2 := tr2 f2 hz) | skip); (first | (have f3 := tr0 f3 hz) | (have f3 := tr1 f3 hz) | (have f3 := tr2 f3 hz) | skip); (try have f3 := f1); (first | (obtain ⟨f1, f2⟩ := fr2 hz) | (have f1 := fr1 hz) | skip); have z0 : w.heap.size < w1.heap.size := (by omega); have z1 : w.heap.size + 1 < w1.heap.size := (by omega))
    go_ret2
    exact ⟨rbt2 (by rw [HR.out]) (by rw [HR.out]), by (repeat' (first | (with_reducible exact Below.refl _ _) | (with_reducible assumption) | (with_reducible refine Below.alloc ?_ ?_ _) | (with_reducible refine Below.setCell ?_ ?_ _) | (with_reducible refine Below.drew ?_) | (with_reducible refine Below.trans ?_ (Below.mono (by assumption) ?_)) | omega | (dsimp only; omega) | ((repeat (first | rw [World.size_alloc] | rw [World.size_setCell] | rw [World.size_drew])); (try dsimp only); omega)))⟩

set_option maxHeartbeats 400000 in
theorem inbox_any (x y a b c d : Int) (w : World) :
    Calls Try.prog 19 #[.agg #[.int .i64 x, .int .i64 y], .agg #[.int .i64 a, .int .i64 b, .int .i64 c, .int .i64 d]] w
      (Ret w (.tuple #[.bool (withinBoxF x x y y a b c d).1, .int .i64 (withinBoxF x x y y a b c d).2])) := by
  go_enter Try.func19, Try.ntmps19
  go_wp2_with (go_at_call 41; refine (withinbox_any _ _ _ _ _ _ _ _ _).mono ?_; rintro e w1 ⟨rfl, hb⟩; obtain ⟨hc, hf⟩ := bcell hb; obtain ⟨hcw, hfw⟩ := bcellK (B := w.heap.size) (K := 2) hb (by first | omega | ((repeat (first | rw [World.size_alloc] | rw [World.size_setCell] | rw [World.size_drew])); omega)); obtain ⟨hco, hfo⟩ := bcellO (B := w.heap.size) hb (by first | omega | ((repeat (first | rw [World.size_alloc] | rw [World.size_setCell] | rw [World.size_drew])); omega)); have hz := hb.size; (repeat (first | rw [World.size_alloc] at hz | rw [World.size_setCell] at hz | rw [World.size_drew] at hz)); (first | (have f1 := tr0 f1 hz) | (have f1 := tr1 f1 hz) | (have f1 := tr2 f1 hz) | skip); (first | (have f2 := tr0 f2 hz) | (have f2 := tr1 f2 hz) | (have f2 := tr2 f2 hz) | skip); (first | (have f3 := tr0 f3 hz) | (have f3 := tr1 f3 hz) | (have f3 := tr2 f3 hz) | skip); (try have f3 := f1); (first | (obtain ⟨f1, f2⟩ := fr2 hz) | (have f1 := fr1 hz) | skip); have z0 : w.heap.size < w1.heap.size := (by omega); have z1 : w.heap.size + 1 < w1.heap.size := (by omega))
  go_ret2
  exact ⟨rfl, by (repeat' (first | (with_reducible exact Below.refl _ _) | (with_reducible assumption) | (with_reducible refine Below.alloc ?_ ?_ _) | (with_reducible refine Below.setCell ?_ ?_ _) | (with_reducible refine Below.drew ?_) | (with_reducible refine Below.trans ?_ (Below.mono (by assumption) ?_)) | omega | (dsimp only; omega) | ((repeat (first | rw [World.size_alloc] | rw [World.size_setCell] | rw [World.size_drew])); (try dsimp only); omega)))⟩
end Go.Proofs.Ytfefbckpocbeaaa
