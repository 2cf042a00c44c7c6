/- The walks of mooring.Chain and Allows. -/
import Derived.Test.YtfefbckpocbeaaaGreatN
import Derived.Test.YtfefbckpocbeaaaGreatP
namespace Go.Proofs.YtfefbckpocbeaaaGreat
open Go.RowKit
attribute [local go_sem high] run_max2 run_min2

theorem run_max3 {P : Program} (w : World) (ts : Array TypeId) (t : TypeId) (k k' k'' : IntKind) (x y z : Int) : (Builtin.max_ ts t #[.int k x, .int k' y, .int k'' z]).run P w = .ok (.int k (max (max x y) z)) w := by
  rw [run_max_int3]; congr 2; split <;> split <;> omega
attribute [local go_sem high] run_max3

/-- The greatest c below n with c * c <= most. -/
def rootDown (most : Int) : Nat := bsearch (fun c => decide (most < ((c : Int) + 1) * ((c : Int) + 1))) 21 0 1000000
theorem sq1_mono (a b : Nat) (h : a ≤ b) : ((a : Int) + 1) * ((a : Int) + 1) ≤ ((b : Int) + 1) * ((b : Int) + 1) :=
  Int.mul_le_mul (by omega) (by omega) (by omega) (by omega)
theorem rootDown_spec (most : Int) : rootDown most ≤ 1000000 ∧ (∀ t : Nat, t < rootDown most → ((t : Int) + 1) * ((t : Int) + 1) ≤ most) ∧ (∀ t : Nat, rootDown most ≤ t → t < 1000000 → most < ((t : Int) + 1) * ((t : Int) + 1)) := by
  have h := bsearch_spec (fun c => decide (most < ((c : Int) + 1) * ((c : Int) + 1))) 1000000 (fun a b hab _ ha => by
    simp only [decide_eq_true_eq] at ha ⊢; have := sq1_mono a b hab; omega) 21 0 1000000 (Nat.le_refl _) (by omega) (by decide) (by omega) (by omega)
  refine ⟨h.1, fun t ht => ?_, fun t h1 h2 => ?_⟩
  · have := h.2.1 t ht; simpa using this
  · have := h.2.2 t h1 h2; simpa using this

set_option maxHeartbeats 400000 in
theorem chain1_any (most : Int) (B i : Nat) (w : World) (hi : i < 1000000) (hB : w.cell? ⟨B, 0, none⟩ = some (.int .i64 most)) :
    Calls Tryz.prog 43 (#[.int .i64 i] ++ #[.pointer (some ⟨B, 0, none⟩)]) w (Ret w (.bool (decide (most < ((i : Int) + 1) * ((i : Int) + 1))))) := by
  have b1 := sq_bound ((i : Int) + 1) 1000000 (by omega) (by omega)
  obtain ⟨b1, c1⟩ := b1
  go_enter Tryz.func43, Tryz.ntmps43
  go_wp2
  go_ret
  exact ⟨rfl, by (repeat' (first | (with_reducible exact Below.refl _ _) | (with_reducible assumption) | (with_reducible refine Below.alloc ?_ ?_ _) | (with_reducible refine Below.setCell ?_ ?_ _) | (with_reducible refine Below.drew ?_) | (with_reducible refine Below.trans ?_ (Below.mono (by assumption) ?_)) | omega | (dsimp only; omega) | ((repeat (first | rw [World.size_alloc] | rw [World.size_setCell] | rw [World.size_drew])); (try dsimp only); omega)))⟩

def chainF (dlo dhi tlo thi r : Int) : Int × Int :=
  if (depthsOk dlo dhi && heightsOk tlo thi && decide (0 ≤ r ∧ r ≤ 100000)) = true then
    (if (rootDown (100 * r * r + max 0 (dlo + tlo) * max 0 (dlo + tlo)) : Int) < max 0 (dhi + thi) then (0, 6) else ((rootDown (100 * r * r + max 0 (dlo + tlo) * max 0 (dlo + tlo)) : Int), 0))
  else (0, 1)
theorem depthsOk_bounds {lo hi : Int} (h : depthsOk lo hi = true) : 0 ≤ lo ∧ lo ≤ hi ∧ hi ≤ 100000 := by
  simp [depthsOk, withinOk, spanOk] at h; omega

set_option maxHeartbeats 1000000 in
theorem chain_any (dlo dhi tlo thi r : Int) (w : World) :
    Calls Tryz.prog 17 #[.agg #[.int .i64 dlo, .int .i64 dhi], .agg #[.int .i64 tlo, .int .i64 thi], .int .i64 r] w
      (Ret w (.tuple #[.int .i64 (chainF dlo dhi tlo thi r).1, .int .i64 (chainF dlo dhi tlo thi r).2])) := by
  by_cases hv : (depthsOk dlo dhi && heightsOk tlo thi && decide (0 ≤ r ∧ r ≤ 100000)) = true
  · have HR : Hid (chainF dlo dhi tlo thi r = if (rootDown (100 * r * r + max 0 (dlo + tlo) * max 0 (dlo + tlo)) : Int) < max 0 (dhi + thi) then (0, 6) else ((rootDown (100 * r * r + max 0 (dlo + tlo) * max 0 (dlo + tlo)) : Int), 0)) := by
      show _ = _; rw [chainF, if_pos hv]
    simp only [Bool.and_eq_true, decide_eq_true_eq] at hv
    obtain ⟨⟨h1, h2⟩, h3, h4⟩ := hv
    have k1 := depthsOk_bounds h1
    have k2 := heightsOk_bounds h2
    obtain ⟨k11, k12, k13⟩ := k1
    obtain ⟨k21, k22, k23⟩ := k2
    have b1 := sq_bound r 100000 (by omega) h4
    have b2 : 100 * r * r = 100 * (r * r) := Int.mul_assoc _ _ _
    have b3 := sq_bound (max 0 (dlo + tlo)) 200000 (by omega) (by omega)
    obtain ⟨b1, c1⟩ := b1
    obtain ⟨b3, c3⟩ := b3
    have c4 : 0 ≤ 100 * r * r := by omega
    have c5 : 100 * r * r ≤ 1000000000000 := by omega
    clear b1 c1 b2
    generalize hmo : 100 * r * r + max 0 (dlo + tlo) * max 0 (dlo + tlo) = most at HR
    have HM := Lib.hid hmo
    clear hmo
    go_enter Tryz.func17, Tryz.ntmps17
    go_wp2_with (first | (go_at_call 27; refine (depths_any _ _ _).mono ?_; rintro e w1 ⟨rfl, hb⟩; obtain ⟨hc, hf⟩ := bcell hb; obtain ⟨hcw, hfw⟩ := bcellK (B := w.heap.size) (K := 2) hb (by first | omega | ((repeat (first | rw [World.size_alloc] | rw [World.size_setCell] | rw [World.size_drew])); omega)); obtain ⟨hco, hfo⟩ := bcellO (B := w.heap.size) hb (by first | omega | ((repeat (first | rw [World.size_alloc] | rw [World.size_setCell] | rw [World.size_drew])); omega)); have hz := hb.size; (repeat (first | rw [World.size_alloc] at hz | rw [World.size_setCell] at hz | rw [World.size_drew] at hz)); (first | (have f1 := tr0 f1 hz) | (have f1 := tr1 f1 hz) | (have f1 := tr2 f1 hz) | skip); (first | (have f2 := tr0 f2 hz) | (have f2 := tr1 f2 hz) | (have f2 := tr2 f2 hz) | skip); (first | (have f3 := tr0 f3 hz) | (have f3 := tr1 f3 hz) | (have f3 := tr2 f3 hz) | skip); (try have f3 := f1); (first | (obtain ⟨f1, f2⟩ := fr2 hz) | (have f1 := fr1 hz) | skip); have z0 : w.heap.size < w1.heap.size := (by omega); have z1 : w.heap.size + 1 < w1.heap.size := (by omega)) | (go_at_call 30; refine (heights_any _ _ _).mono ?_; rintro e w1 ⟨rfl, hb⟩; obtain ⟨hc, hf⟩ := bcell hb; obtain ⟨hcw, hfw⟩ := bcellK (B := w.heap.size) (K := 2) hb (by first | omega | ((repeat (first | rw [World.size_alloc] | rw [World.size_setCell] | rw [World.size_drew])); omega)); obtain ⟨hco, hfo⟩ := bcellO (B := w.heap.size) hb (by first | omega | ((repeat (first | rw [World.size_alloc] | rw [World.size_setCell] | rw [World.size_drew])); omega)); have hz := hb.size; (repeat (first | rw [World.size_alloc] at hz | rw [World.size_setCell] at hz | rw [World.size_drew] at hz)); (first | (have f1 := tr0 f1 hz) | (have f1 := tr1 f1 hz) | (have f1 := tr2 f1 hz) | skip); (first | (have f2 := tr0 f2 hz) | (have f2 := tr1 f2 hz) | (have f2 := tr2 f2 hz) | skip); (first | (have f3 := tr0 f3 hz) | (have f3 := tr1 f3 hz) | (have f3 := tr2 f3 hz) | skip); (try have f3 := f1); (first | (obtain ⟨f1, f2⟩ := fr2 hz) | (have f1 := fr1 hz) | skip); have z0 : w.heap.size < w1.heap.size := (by omega); have z1 : w.heap.size + 1 < w1.heap.size := (by omega)) |
      (go_at_call 31; refine (in_any _ _ _ _ _ _ _ _ (by omega) (by omega) (by omega) (by omega) (by omega) (by omega)).mono ?_; rintro e w1 ⟨rfl, hb⟩; obtain ⟨hc, hf⟩ := bcell hb; obtain ⟨hcw, hfw⟩ := bcellK (B := w.heap.size) (K := 2) hb (by first | omega | ((repeat (first | rw [World.size_alloc] | rw [World.size_setCell] | rw [World.size_drew])); omega)); obtain ⟨hco, hfo⟩ := bcellO (B := w.heap.size) hb (by first | omega | ((repeat (first | rw [World.size_alloc] | rw [World.size_setCell] | rw [World.size_drew])); omega)); have hz := hb.size; (repeat (first | rw [World.size_alloc] at hz | rw [World.size_setCell] at hz | rw [World.size_drew] at hz)); (first | (have f1 := tr0 f1 hz) | (have f1 := tr1 f1 hz) | (have f1 := tr2 f1 hz) | skip); (first | (have f2 := tr0 f2 hz) | (have f2 := tr1 f2 hz) | (have f2 := tr2 f2 hz) | skip); (first | (have f3 := tr0 f3 hz) | (have f3 := tr1 f3 hz) | (have f3 := tr2 f3 hz) | skip); (try have f3 := f1); (first | (obtain ⟨f1, f2⟩ := fr2 hz) | (have f1 := fr1 hz) | skip); have z0 : w.heap.size < w1.heap.size := (by omega); have z1 : w.heap.size + 1 < w1.heap.size := (by omega)) |
      (go_at_call 42; rw [HM.out]; refine (search_lit 43 _ 1000000 1000000 rfl (fun c => decide (most < ((c : Int) + 1) * ((c : Int) + 1))) _ (enters_of Tryz.func43 (by kernel_rfl) rfl) (by decide) ?hf ?hm).mono ?hk))
    case hm =>
      intro a b hab _ ha
      simp only [decide_eq_true_eq] at ha ⊢; have := sq1_mono a b hab; omega
    case hf =>
      intro w1 i hb hi
      refine chain1_any _ _ _ _ hi ?_
      rw [hb.cell (by simp)]
      simp
    case hk =>
      rintro e w1 ⟨r', rfl, hr1, hr2, hr3, hb⟩
      have hs := rootDown_spec most
      have hrr : r' = rootDown most := search_unique hr1 hr2 hr3 hs.1 (fun t ht => by simpa using hs.2.1 t ht) (fun t h1 h2 => by simpa using hs.2.2 t h1 h2)
      subst hrr
      clear hr1 hr2 hr3 hs
      obtain ⟨hc, hf⟩ := bcell hb; obtain ⟨hcw, hfw⟩ := bcellK (B := w.heap.size) (K := 2) hb (by first | omega | ((repeat (first | rw [World.size_alloc] | rw [World.size_setCell] | rw [World.size_drew])); omega)); obtain ⟨hco, hfo⟩ := bcellO (B := w.heap.size) hb (by first | omega | ((repeat (first | rw [World.size_alloc] | rw [World.size_setCell] | rw [World.size_drew])); omega)); have hz := hb.size; (repeat (first | rw [World.size_alloc] at hz | rw [World.size_setCell] at hz | rw [World.size_drew] at hz)); (first | (have f1 := tr0 f1 hz) | (have f1 := tr1 f1 hz) | (have f1 := tr2 f1 hz) | skip); (first | (have f2 := tr0 f2 hz) | (have f2 := tr1 f2 hz) | (have f2 := tr2 f2 hz) | skip); (first | (have f3 := tr0 f3 hz) | (have f3 := tr1 f3 hz) | (have f3 := tr2 f3 hz) | skip); (try have f3 := f1); (first | (obtain ⟨f1, f2⟩ := fr2 hz) | (have f1 := fr1 hz) | skip); have z0 : w.heap.size < w1.heap.size := (by omega); have z1 : w.heap.size + 1 < w1.heap.size := (by omega)
      by_cases h5 : (rootDown most : Int) < max 0 (dhi + thi)
      · rw [if_pos h5] at HR
        go_wp2
        go_ret2
        exact ⟨rt2 (by rw [HR.out]) (by rw [HR.out]), by (repeat' (first | (with_reducible exact Below.refl _ _) | (with_reducible assumption) | (with_reducible refine Below.alloc ?_ ?_ _) | (with_reducible refine Below.setCell ?_ ?_ _) | (with_reducible refine Below.drew ?_) | (with_reducible refine Below.trans ?_ (Below.mono (by assumption) ?_)) | omega | (dsimp only; omega) | ((repeat (first | rw [World.size_alloc] | rw [World.size_setCell] | rw [World.size_drew])); (try dsimp only); omega)))⟩
      · rw [if_neg h5] at HR
        go_wp2
        go_ret2
        exact ⟨rt2 (by rw [HR.out]) (by rw [HR.out]), by (repeat' (first | (with_reducible exact Below.refl _ _) | (with_reducible assumption) | (with_reducible refine Below.alloc ?_ ?_ _) | (with_reducible refine Below.setCell ?_ ?_ _) | (with_reducible refine Below.drew ?_) | (with_reducible refine Below.trans ?_ (Below.mono (by assumption) ?_)) | omega | (dsimp only; omega) | ((repeat (first | rw [World.size_alloc] | rw [World.size_setCell] | rw [World.size_drew])); (try dsimp only); omega)))⟩
  · have HR : Hid (chainF dlo dhi tlo thi r = (0, 1)) := by
      show _ = _; rw [chainF, if_neg hv]
    cases h1 : depthsOk dlo dhi
    · clear hv
      go_enter Tryz.func17, Tryz.ntmps17
      go_wp2_with (go_at_call 27; refine (depths_any _ _ _).mono ?_; rintro e w1 ⟨rfl, hb⟩; obtain ⟨hc, hf⟩ := bcell hb; obtain ⟨hcw, hfw⟩ := bcellK (B := w.heap.size) (K := 2) hb (by first | omega | ((repeat (first | rw [World.size_alloc] | rw [World.size_setCell] | rw [World.size_drew])); omega)); obtain ⟨hco, hfo⟩ := bcellO (B := w.heap.size) hb (by first | omega | ((repeat (first | rw [World.size_alloc] | rw [World.size_setCell] | rw [World.size_drew])); omega)); have hz := hb.size; (repeat (first | rw [World.size_alloc] at hz | rw [World.size_setCell] at hz | rw [World.size_drew] at hz)); (first | (have f1 := tr0 f1 hz) | (have f1 := tr1 f1 hz) | (have f1 := tr2 f1 hz) | skip); (first | (have f2 := tr0 f2 hz) | (have f2 := tr1 f2 hz) | (have f2 := tr2 f2 hz) | skip); (first | (have f3 := tr0 f3 hz) | (have f3 := tr1 f3 hz) | (have f3 := tr2 f3 hz) | skip); (try have f3 := f1); (first | (obtain ⟨f1, f2⟩ := fr2 hz) | (have f1 := fr1 hz) | skip); have z0 : w.heap.size < w1.heap.size := (by omega); have z1 : w.heap.size + 1 < w1.heap.size := (by omega))
      go_ret2
      exact ⟨rt2 (by rw [HR.out]) (by rw [HR.out]), by (repeat' (first | (with_reducible exact Below.refl _ _) | (with_reducible assumption) | (with_reducible refine Below.alloc ?_ ?_ _) | (with_reducible refine Below.setCell ?_ ?_ _) | (with_reducible refine Below.drew ?_) | (with_reducible refine Below.trans ?_ (Below.mono (by assumption) ?_)) | omega | (dsimp only; omega) | ((repeat (first | rw [World.size_alloc] | rw [World.size_setCell] | rw [World.size_drew])); (try dsimp only); omega)))⟩
    cases h2 : heightsOk tlo thi
    · clear hv
      go_enter Tryz.func17, Tryz.ntmps17
      go_wp2_with (first | (go_at_call 27; refine (depths_any _ _ _).mono ?_; rintro e w1 ⟨rfl, hb⟩; obtain ⟨hc, hf⟩ := bcell hb; obtain ⟨hcw, hfw⟩ := bcellK (B := w.heap.size) (K := 2) hb (by first | omega | ((repeat (first | rw [World.size_alloc] | rw [World.size_setCell] | rw [World.size_drew])); omega)); obtain ⟨hco, hfo⟩ := bcellO (B := w.heap.size) hb (by first | omega | ((repeat (first | rw [World.size_alloc] | rw [World.size_setCell] | rw [World.size_drew])); omega)); have hz := hb.size; (repeat (first | rw [World.size_alloc] at hz | rw [World.size_setCell] at hz | rw [World.size_drew] at hz)); (first | (have f1 := tr0 f1 hz) | (have f1 := tr1 f1 hz) | (have f1 := tr2 f1 hz) | skip); (first | (have f2 := tr0 f2 hz) | (have f2 := tr1 f2 hz) | (have f2 := tr2 f2 hz) | skip); (first | (have f3 := tr0 f3 hz) | (have f3 := tr1 f3 hz) | (have f3 := tr2 f3 hz) | skip); (try have f3 := f1); (first | (obtain ⟨f1, f2⟩ := fr2 hz) | (have f1 := fr1 hz) | skip); have z0 : w.heap.size < w1.heap.size := (by omega); have z1 : w.heap.size + 1 < w1.heap.size := (by omega)) | (go_at_call 30; refine (heights_any _ _ _).mono ?_; rintro e w1 ⟨rfl, hb⟩; obtain ⟨hc, hf⟩ := bcell hb; obtain ⟨hcw, hfw⟩ := bcellK (B := w.heap.size) (K := 2) hb (by first | omega | ((repeat (first | rw [World.size_alloc] | rw [World.size_setCell] | rw [World.size_drew])); omega)); obtain ⟨hco, hfo⟩ := bcellO (B := w.heap.size) hb (by first | omega | ((repeat (first | rw [World.size_alloc] | rw [World.size_setCell] | rw [World.size_drew])); omega)); have hz := hb.size; (repeat (first | rw [World.size_alloc] at hz | rw [World.size_setCell] at hz | rw [World.size_drew] at hz)); (first | (have f1 := tr0 f1 hz) | (have f1 := tr1 f1 hz) | (have f1 := tr2 f1 hz) | skip); (first | (have f2 := tr0 f2 hz) | (have f2 := tr1 f2 hz) | (have f2 := tr2 f2 hz) | skip); (first | (have f3 := tr0 f3 hz) | (have f3 := tr1 f3 hz) | (have f3 := tr2 f3 hz) | skip); (try have f3 := f1); (first | (obtain ⟨f1, f2⟩ := fr2 hz) | (have f1 := fr1 hz) | skip); have z0 : w.heap.size < w1.heap.size := (by omega); have z1 : w.heap.size + 1 < w1.heap.size := (by omega)))
      go_ret2
      exact ⟨rt2 (by rw [HR.out]) (by rw [HR.out]), by (repeat' (first | (with_reducible exact Below.refl _ _) | (with_reducible assumption) | (with_reducible refine Below.alloc ?_ ?_ _) | (with_reducible refine Below.setCell ?_ ?_ _) | (with_reducible refine Below.drew ?_) | (with_reducible refine Below.trans ?_ (Below.mono (by assumption) ?_)) | omega | (dsimp only; omega) | ((repeat (first | rw [World.size_alloc] | rw [World.size_setCell] | rw [World.size_drew])); (try dsimp only); omega)))⟩
    have hn : r < 0 ∨ 100000 < r := by
      simp [h1, h2] at hv; omega
    clear hv
    rcases hn with hn | hn
    all_goals
      go_enter Tryz.func17, Tryz.ntmps17
      go_wp2_with (first | (go_at_call 27; refine (depths_any _ _ _).mono ?_; rintro e w1 ⟨rfl, hb⟩; obtain ⟨hc, hf⟩ := bcell hb; obtain ⟨hcw, hfw⟩ := bcellK (B := w.heap.size) (K := 2) hb (by first | omega | ((repeat (first | rw [World.size_alloc] | rw [World.size_setCell] | rw [World.size_drew])); omega)); obtain ⟨hco, hfo⟩ := bcellO (B := w.heap.size) hb (by first | omega | ((repeat (first | rw [World.size_alloc] | rw [World.size_setCell] | rw [World.size_drew])); omega)); have hz := hb.size; (repeat (first | rw [World.size_alloc] at hz | rw [World.size_setCell] at hz | rw [World.size_drew] at hz)); (first | (have f1 := tr0 f1 hz) | (have f1 := tr1 f1 hz) | (have f1 := tr2 f1 hz) | skip); (first | (have f2 := tr0 f2 hz) | (have f2 := tr1 f2 hz) | (have f2 := tr2 f2 hz) | skip); (first | (have f3 := tr0 f3 hz) | (have f3 := tr1 f3 hz) | (have f3 := tr2 f3 hz) | skip); (try have f3 := f1); (first | (obtain ⟨f1, f2⟩ := fr2 hz) | (have f1 := fr1 hz) | skip); have z0 : w.heap.size < w1.heap.size := (by omega); have z1 : w.heap.size + 1 < w1.heap.size := (by omega)) | (go_at_call 30; refine (heights_any _ _ _).mono ?_; rintro e w1 ⟨rfl, hb⟩; obtain ⟨hc, hf⟩ := bcell hb; obtain ⟨hcw, hfw⟩ := bcellK (B := w.heap.size) (K := 2) hb (by first | omega | ((repeat (first | rw [World.size_alloc] | rw [World.size_setCell] | rw [World.size_drew])); omega)); obtain ⟨hco, hfo⟩ := bcellO (B := w.heap.size) hb (by first | omega | ((repeat (first | rw [World.size_alloc] | rw [World.size_setCell] | rw [World.size_drew])); omega)); have hz := hb.size; (repeat (first | rw [World.size_alloc] at hz | rw [World.size_setCell] at hz | rw [World.size_drew] at hz)); (first | (have f1 := tr0 f1 hz) | (have f1 := tr1 f1 hz) | (have f1 := tr2 f1 hz) | skip); (first | (have f2 := tr0 f2 hz) | (have f2 := tr1 f2 hz) | (have f2 := tr2 f2 hz) | skip); (first | (have f3 := tr0 f3 hz) | (have f3 := tr1 f3 hz) | (have f3 := tr2 f3 hz) | skip); (try have f3 := f1); (first | (obtain ⟨f1, f2⟩ := fr2 hz) | (have f1 := fr1 hz) | skip); have z0 : w.heap.size < w1.heap.size := (by omega); have z1 : w.heap.size + 1 < w1.heap.size := (by omega)))
      go_ret2
      exact ⟨rt2 (by rw [HR.out]) (by rw [HR.out]), by (repeat' (first | (with_reducible exact Below.refl _ _) | (with_reducible assumption) | (with_reducible refine Below.alloc ?_ ?_ _) | (with_reducible refine Below.setCell ?_ ?_ _) | (with_reducible refine Below.drew ?_) | (with_reducible refine Below.trans ?_ (Below.mono (by assumption) ?_)) | omega | (dsimp only; omega) | ((repeat (first | rw [World.size_alloc] | rw [World.size_setCell] | rw [World.size_drew])); (try dsimp only); omega)))⟩
end Go.Proofs.YtfefbckpocbeaaaGreat
