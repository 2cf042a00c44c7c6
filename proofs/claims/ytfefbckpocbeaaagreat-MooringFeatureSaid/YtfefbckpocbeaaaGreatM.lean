/- The walks of package mooring, but Feature, Box and their laws. -/
import Derived.Test.YtfefbckpocbeaaaGreatS
namespace Go.Proofs.YtfefbckpocbeaaaGreat
open Go.RowKit
attribute [local go_sem high] run_max2 run_min2

def heightsOk (lo hi : Int) : Bool := withinOk lo hi (-100000) 100000
def depthsOk (lo hi : Int) : Bool := withinOk lo hi 0 100000
def moorOk (ax ay dlo dhi ch : Int) : Bool := placeOk ax ay && (depthsOk dlo dhi && decide (0 ≤ ch ∧ ch ≤ 1000000))

set_option maxHeartbeats 400000 in
theorem heights_any (lo hi : Int) (w : World) :
    Calls Tryz.prog 30 #[.agg #[.int .i64 lo, .int .i64 hi]] w (Ret w (.bool (heightsOk lo hi))) := by
  go_enter Tryz.func30, Tryz.ntmps30
  go_wp2_with (go_at_call 53; refine (within_any _ _ _ _ _).mono ?_; rintro e w1 ⟨rfl, hb⟩; obtain ⟨hc, hf⟩ := bcell hb; obtain ⟨hcw, hfw⟩ := bcellK (B := w.heap.size) (K := 1) hb (by first | omega | ((repeat (first | rw [World.size_alloc] | rw [World.size_setCell] | rw [World.size_drew])); omega)); obtain ⟨hco, hfo⟩ := bcellO (B := w.heap.size) hb (by first | omega | ((repeat (first | rw [World.size_alloc] | rw [World.size_setCell] | rw [World.size_drew])); omega)); have hz := hb.size; (repeat (first | rw [World.size_alloc] at hz | rw [World.size_setCell] at hz | rw [World.size_drew] at hz)); (first | (have f1 := tr0 f1 hz) | (have f1 := tr1 f1 hz) | (have f1 := tr2 f1 hz) | skip); (first | (have f2 := tr0 f2 hz) | (have f2 := tr1 f2 hz) | (have f2 := tr2 f2 hz) | skip); (first | (have f3 := tr0 f3 hz) | (have f3 := tr1 f3 hz) | (have f3 := tr2 f3 hz) | skip); (try have f3 := f1); (first | (obtain ⟨f1, f2⟩ := fr2 hz) | (have f1 := fr1 hz) | skip); have z0 : w.heap.size < w1.heap.size := (by omega))
  go_ret
  exact ⟨rfl, by (repeat' (first | (with_reducible exact Below.refl _ _) | (with_reducible assumption) | (with_reducible refine Below.alloc ?_ ?_ _) | (with_reducible refine Below.setCell ?_ ?_ _) | (with_reducible refine Below.drew ?_) | (with_reducible refine Below.trans ?_ (Below.mono (by assumption) ?_)) | omega | (dsimp only; omega) | ((repeat (first | rw [World.size_alloc] | rw [World.size_setCell] | rw [World.size_drew])); (try dsimp only); omega)))⟩

set_option maxHeartbeats 400000 in
theorem depths_any (lo hi : Int) (w : World) :
    Calls Tryz.prog 27 #[.agg #[.int .i64 lo, .int .i64 hi]] w (Ret w (.bool (depthsOk lo hi))) := by
  go_enter Tryz.func27, Tryz.ntmps27
  go_wp2_with (go_at_call 53; refine (within_any _ _ _ _ _).mono ?_; rintro e w1 ⟨rfl, hb⟩; obtain ⟨hc, hf⟩ := bcell hb; obtain ⟨hcw, hfw⟩ := bcellK (B := w.heap.size) (K := 1) hb (by first | omega | ((repeat (first | rw [World.size_alloc] | rw [World.size_setCell] | rw [World.size_drew])); omega)); obtain ⟨hco, hfo⟩ := bcellO (B := w.heap.size) hb (by first | omega | ((repeat (first | rw [World.size_alloc] | rw [World.size_setCell] | rw [World.size_drew])); omega)); have hz := hb.size; (repeat (first | rw [World.size_alloc] at hz | rw [World.size_setCell] at hz | rw [World.size_drew] at hz)); (first | (have f1 := tr0 f1 hz) | (have f1 := tr1 f1 hz) | (have f1 := tr2 f1 hz) | skip); (first | (have f2 := tr0 f2 hz) | (have f2 := tr1 f2 hz) | (have f2 := tr2 f2 hz) | skip); (first | (have f3 := tr0 f3 hz) | (have f3 := tr1 f3 hz) | (have f3 := tr2 f3 hz) | skip); (try have f3 := f1); (first | (obtain ⟨f1, f2⟩ := fr2 hz) | (have f1 := fr1 hz) | skip); have z0 : w.heap.size < w1.heap.size := (by omega))
  go_ret
  exact ⟨rfl, by (repeat' (first | (with_reducible exact Below.refl _ _) | (with_reducible assumption) | (with_reducible refine Below.alloc ?_ ?_ _) | (with_reducible refine Below.setCell ?_ ?_ _) | (with_reducible refine Below.drew ?_) | (with_reducible refine Below.trans ?_ (Below.mono (by assumption) ?_)) | omega | (dsimp only; omega) | ((repeat (first | rw [World.size_alloc] | rw [World.size_setCell] | rw [World.size_drew])); (try dsimp only); omega)))⟩

set_option maxHeartbeats 400000 in
theorem moor_valid (ax ay dlo dhi ch : Int) (w : World) :
    Calls Tryz.prog 6 #[.agg #[.int .i64 ax, .int .i64 ay, .int .i64 dlo, .int .i64 dhi, .int .i64 ch]] w (Ret w (.bool (moorOk ax ay dlo dhi ch))) := by
  go_enter Tryz.func6, Tryz.ntmps6
  go_wp2_with (first | (go_at_call 26; refine (plane_valid _ _ _).mono ?_; rintro e w1 ⟨rfl, hb⟩; obtain ⟨hc, hf⟩ := bcell hb; obtain ⟨hcw, hfw⟩ := bcellK (B := w.heap.size) (K := 1) hb (by first | omega | ((repeat (first | rw [World.size_alloc] | rw [World.size_setCell] | rw [World.size_drew])); omega)); obtain ⟨hco, hfo⟩ := bcellO (B := w.heap.size) hb (by first | omega | ((repeat (first | rw [World.size_alloc] | rw [World.size_setCell] | rw [World.size_drew])); omega)); have hz := hb.size; (repeat (first | rw [World.size_alloc] at hz | rw [World.size_setCell] at hz | rw [World.size_drew] at hz)); (first | (have f1 := tr0 f1 hz) | (have f1 := tr1 f1 hz) | (have f1 := tr2 f1 hz) | skip); (first | (have f2 := tr0 f2 hz) | (have f2 := tr1 f2 hz) | (have f2 := tr2 f2 hz) | skip); (first | (have f3 := tr0 f3 hz) | (have f3 := tr1 f3 hz) | (have f3 := tr2 f3 hz) | skip); (try have f3 := f1); (first | (obtain ⟨f1, f2⟩ := fr2 hz) | (have f1 := fr1 hz) | skip); have z0 : w.heap.size < w1.heap.size := (by omega)) | (go_at_call 27; refine (depths_any _ _ _).mono ?_; rintro e w1 ⟨rfl, hb⟩; obtain ⟨hc, hf⟩ := bcell hb; obtain ⟨hcw, hfw⟩ := bcellK (B := w.heap.size) (K := 1) hb (by first | omega | ((repeat (first | rw [World.size_alloc] | rw [World.size_setCell] | rw [World.size_drew])); omega)); obtain ⟨hco, hfo⟩ := bcellO (B := w.heap.size) hb (by first | omega | ((repeat (first | rw [World.size_alloc] | rw [World.size_setCell] | rw [World.size_drew])); omega)); have hz := hb.size; (repeat (first | rw [World.size_alloc] at hz | rw [World.size_setCell] at hz | rw [World.size_drew] at hz)); (first | (have f1 := tr0 f1 hz) | (have f1 := tr1 f1 hz) | (have f1 := tr2 f1 hz) | skip); (first | (have f2 := tr0 f2 hz) | (have f2 := tr1 f2 hz) | (have f2 := tr2 f2 hz) | skip); (first | (have f3 := tr0 f3 hz) | (have f3 := tr1 f3 hz) | (have f3 := tr2 f3 hz) | skip); (try have f3 := f1); (first | (obtain ⟨f1, f2⟩ := fr2 hz) | (have f1 := fr1 hz) | skip); have z0 : w.heap.size < w1.heap.size := (by omega)))
  all_goals
    go_ret
    exact ⟨rb (by simp [moorOk, *] <;> omega), by (repeat' (first | (with_reducible exact Below.refl _ _) | (with_reducible assumption) | (with_reducible refine Below.alloc ?_ ?_ _) | (with_reducible refine Below.setCell ?_ ?_ _) | (with_reducible refine Below.drew ?_) | (with_reducible refine Below.trans ?_ (Below.mono (by assumption) ?_)) | omega | (dsimp only; omega) | ((repeat (first | rw [World.size_alloc] | rw [World.size_setCell] | rw [World.size_drew])); (try dsimp only); omega)))⟩

theorem moorOk_bounds {ax ay dlo dhi ch : Int} (h : moorOk ax ay dlo dhi ch = true) :
    -1000000 ≤ ax ∧ ax ≤ 1000000 ∧ -1000000 ≤ ay ∧ ay ≤ 1000000 ∧ 0 ≤ dlo ∧ dlo ≤ dhi ∧ dhi ≤ 100000 ∧ 0 ≤ ch ∧ ch ≤ 1000000 := by
  simp [moorOk, placeOk, depthsOk, withinOk, spanOk] at h; omega
theorem heightsOk_bounds {lo hi : Int} (h : heightsOk lo hi = true) : -100000 ≤ lo ∧ lo ≤ hi ∧ hi ≤ 100000 := by
  simp [heightsOk, withinOk, spanOk] at h; omega
theorem placeOk_bounds {x y : Int} (h : placeOk x y = true) : -1000000 ≤ x ∧ x ≤ 1000000 ∧ -1000000 ≤ y ∧ y ≤ 1000000 := by
  simp [placeOk] at h; omega

set_option maxHeartbeats 400000 in
theorem in_any (ax ay dlo dhi ch tlo thi : Int) (w : World) (h1 : 0 ≤ dlo) (h2 : dlo ≤ dhi) (h3 : dhi ≤ 100000) (h4 : -100000 ≤ tlo) (h5 : tlo ≤ thi) (h6 : thi ≤ 100000) :
    Calls Tryz.prog 31 #[.agg #[.int .i64 ax, .int .i64 ay, .int .i64 dlo, .int .i64 dhi, .int .i64 ch], .agg #[.int .i64 tlo, .int .i64 thi]] w
      (Ret w (.agg #[.int .i64 ax, .int .i64 ay, .int .i64 dlo, .int .i64 dhi, .int .i64 ch, .int .i64 (max 0 (dlo + tlo)), .int .i64 (max 0 (dhi + thi))])) := by
  go_enter Tryz.func31, Tryz.ntmps31
  go_wp2
  go_returns
  exact ⟨rfl, by (repeat' (first | (with_reducible exact Below.refl _ _) | (with_reducible assumption) | (with_reducible refine Below.alloc ?_ ?_ _) | (with_reducible refine Below.setCell ?_ ?_ _) | (with_reducible refine Below.drew ?_) | (with_reducible refine Below.trans ?_ (Below.mono (by assumption) ?_)) | omega | (dsimp only; omega) | ((repeat (first | rw [World.size_alloc] | rw [World.size_setCell] | rw [World.size_drew])); (try dsimp only); omega)))⟩

set_option maxHeartbeats 400000 in
theorem has_any (ax ay dlo dhi ch wl wh x y : Int) (w : World) (h1 : 0 ≤ ch) (h2 : ch ≤ 1000000) (h3 : 0 ≤ wl) (h4 : wl ≤ 200000) (h5 : -4000000 ≤ x) (h6 : x ≤ 4000000) (h7 : -4000000 ≤ y) (h8 : y ≤ 4000000) :
    Calls Tryz.prog 35 #[.agg #[.int .i64 ax, .int .i64 ay, .int .i64 dlo, .int .i64 dhi, .int .i64 ch, .int .i64 wl, .int .i64 wh], .int .i64 x, .int .i64 y] w
      (Ret w (.bool (decide (100 * (x * x + y * y) + wl * wl ≤ ch * ch)))) := by
  have b1 := sq_bound x 4000000 h5 h6
  have b2 := sq_bound y 4000000 h7 h8
  have b3 := sq_bound wl 200000 (by omega) h4
  have b4 := sq_bound ch 1000000 (by omega) h2
  obtain ⟨b1, c1⟩ := b1
  obtain ⟨b2, c2⟩ := b2
  obtain ⟨b3, c3⟩ := b3
  obtain ⟨b4, c4⟩ := b4
  go_enter Tryz.func35, Tryz.ntmps35
  go_wp2
  go_ret
  exact ⟨rfl, by (repeat' (first | (with_reducible exact Below.refl _ _) | (with_reducible assumption) | (with_reducible refine Below.alloc ?_ ?_ _) | (with_reducible refine Below.setCell ?_ ?_ _) | (with_reducible refine Below.drew ?_) | (with_reducible refine Below.trans ?_ (Below.mono (by assumption) ?_)) | omega | (dsimp only; omega) | ((repeat (first | rw [World.size_alloc] | rw [World.size_setCell] | rw [World.size_drew])); (try dsimp only); omega)))⟩
/-- The least r from 0 on with free <= 100 * r * r (for free up to 10^12). -/
def rootUp (free : Int) : Nat := bsearch (fun r => decide (free ≤ 100 * (r : Int) * (r : Int))) 18 0 100000
theorem sq_mono (a b : Nat) (h : a ≤ b) : 100 * (a : Int) * (a : Int) ≤ 100 * (b : Int) * (b : Int) := by
  have h1 : a * a ≤ b * b := Nat.mul_le_mul h h
  have h2 : ((a * a : Nat) : Int) ≤ ((b * b : Nat) : Int) := by exact_mod_cast h1
  rw [Int.natCast_mul, Int.natCast_mul] at h2
  rw [Int.mul_assoc, Int.mul_assoc]; omega
theorem rootUp_spec (free : Int) : rootUp free ≤ 100000 ∧ (∀ t : Nat, t < rootUp free → 100 * (t : Int) * (t : Int) < free) ∧ (∀ t : Nat, rootUp free ≤ t → t < 100000 → free ≤ 100 * (t : Int) * (t : Int)) := by
  have h := bsearch_spec (fun r => decide (free ≤ 100 * (r : Int) * (r : Int))) 100000 (fun a b hab _ ha => by
    simp only [decide_eq_true_eq] at ha ⊢; have := sq_mono a b hab; omega) 18 0 100000 (Nat.le_refl _) (by omega) (by decide) (by omega) (by omega)
  refine ⟨h.1, fun t ht => ?_, fun t h1 h2 => ?_⟩
  · have := h.2.1 t ht; simpa using this
  · have := h.2.2 t h1 h2; simpa using this

set_option maxHeartbeats 400000 in
theorem radius1_any (free : Int) (B i : Nat) (w : World) (hi : i < 100000) (hB : w.cell? ⟨B, 0, none⟩ = some (.int .i64 free)) :
    Calls Tryz.prog 55 (#[.int .i64 i] ++ #[.pointer (some ⟨B, 0, none⟩)]) w (Ret w (.bool (decide (free ≤ 100 * (i : Int) * (i : Int))))) := by
  have b1 := sq_bound i 100000 (by omega) (by omega)
  have b2 : 100 * (i : Int) * (i : Int) = 100 * ((i : Int) * (i : Int)) := Int.mul_assoc _ _ _
  obtain ⟨b1, c1⟩ := b1
  have c2 : 0 ≤ 100 * (i : Int) * (i : Int) := by omega
  have c3 : 100 * (i : Int) * (i : Int) ≤ 1000000000000 := by omega
  clear b1 c1 b2
  go_enter Tryz.func55, Tryz.ntmps55
  go_wp2
  go_ret
  exact ⟨rfl, by (repeat' (first | (with_reducible exact Below.refl _ _) | (with_reducible assumption) | (with_reducible refine Below.alloc ?_ ?_ _) | (with_reducible refine Below.setCell ?_ ?_ _) | (with_reducible refine Below.drew ?_) | (with_reducible refine Below.trans ?_ (Below.mono (by assumption) ?_)) | omega | (dsimp only; omega) | ((repeat (first | rw [World.size_alloc] | rw [World.size_setCell] | rw [World.size_drew])); (try dsimp only); omega)))⟩

set_option maxHeartbeats 400000 in
theorem radius0_any (ax ay dlo dhi ch wl wh : Int) (w : World) (h1 : 0 ≤ ch) (h2 : ch ≤ 1000000) (h3 : 0 ≤ wl) (h4 : wl ≤ 200000) :
    Calls Tryz.prog 32 #[.agg #[.int .i64 ax, .int .i64 ay, .int .i64 dlo, .int .i64 dhi, .int .i64 ch, .int .i64 wl, .int .i64 wh]] w
      (Ret w (.int .i64 (rootUp (ch * ch - wl * wl)))) := by
  have b3 := sq_bound wl 200000 (by omega) h4
  have b4 := sq_bound ch 1000000 (by omega) h2
  obtain ⟨b3, c3⟩ := b3
  obtain ⟨b4, c4⟩ := b4
  go_enter Tryz.func32, Tryz.ntmps32
  go_wp2_with (go_at_call 42; refine (search_lit 55 _ 100000 100000 rfl (fun r => decide (ch * ch - wl * wl ≤ 100 * (r : Int) * (r : Int))) _ (enters_of Tryz.func55 (by kernel_rfl) rfl) (by decide) ?hf ?hm).mono ?hk)
  case hm =>
    intro a b hab _ ha
    simp only [decide_eq_true_eq] at ha ⊢; have := sq_mono a b hab; omega
  case hf =>
    intro w1 i hb hi
    refine radius1_any _ _ _ _ hi ?_
    rw [hb.cell (by simp)]
    simp
  case hk =>
    rintro e w1 ⟨r, rfl, hr1, hr2, hr3, hb⟩
    have hs := rootUp_spec (ch * ch - wl * wl)
    have hrr : r = rootUp (ch * ch - wl * wl) := search_unique hr1 hr2 hr3 hs.1 (fun t ht => by simpa using hs.2.1 t ht) (fun t h1 h2 => by simpa using hs.2.2 t h1 h2)
    subst hrr
    clear hr1 hr2 hr3 hs
    go_wp2
    go_ret
    exact ⟨rfl, by (repeat' (first | (with_reducible exact Below.refl _ _) | (with_reducible assumption) | (with_reducible refine Below.alloc ?_ ?_ _) | (with_reducible refine Below.setCell ?_ ?_ _) | (with_reducible refine Below.drew ?_) | (with_reducible refine Below.trans ?_ (Below.mono (by assumption) ?_)) | omega | (dsimp only; omega) | ((repeat (first | rw [World.size_alloc] | rw [World.size_setCell] | rw [World.size_drew])); (try dsimp only); omega)))⟩
end Go.Proofs.YtfefbckpocbeaaaGreat
