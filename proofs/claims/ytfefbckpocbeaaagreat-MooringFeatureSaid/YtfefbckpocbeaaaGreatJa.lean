/- The reference's distances and roots. -/
import Derived.Test.YtfefbckpocbeaaaGreatJ
import Derived.Test.YtfefbckpocbeaaaGreatGb
import Derived.Test.YtfefbckpocbeaaaGreatR
namespace Go.Proofs.YtfefbckpocbeaaaGreat
open Go.RowKit
attribute [local go_sem high] run_max2 run_min2

set_option maxHeartbeats 400000 in
theorem r01_minus (ax ay bx b_y : Int) (w : World) (h1 : -1000000 ≤ ax) (h2 : ax ≤ 1000000) (h3 : -1000000 ≤ ay) (h4 : ay ≤ 1000000) (h5 : -1000000 ≤ bx) (h6 : bx ≤ 1000000) (h7 : -1000000 ≤ b_y) (h8 : b_y ≤ 1000000) :
    Calls Tryz.prog 57 #[.agg #[.int .i64 bx, .int .i64 b_y], .agg #[.int .i64 ax, .int .i64 ay]] w (Ret w (.agg #[.int .i64 (bx - ax), .int .i64 (b_y - ay)])) := by
  go_enter Tryz.func57, Tryz.ntmps57
  go_wp2
  refine bodyPost_ret (v := .agg #[.int .i64 (bx - ax), .int .i64 (b_y - ay)]) (by simp [results, Tryz.results57, go_sem, *]) rfl ⟨?_, by (repeat' (first | (with_reducible exact Below.refl _ _) | (with_reducible assumption) | (with_reducible refine Below.alloc ?_ ?_ _) | (with_reducible refine Below.setCell ?_ ?_ _) | (with_reducible refine Below.drew ?_) | (with_reducible refine Below.trans ?_ (Below.mono (by assumption) ?_)) | omega | (dsimp only; omega) | ((repeat (first | rw [World.size_alloc] | rw [World.size_setCell] | rw [World.size_drew])); (try dsimp only); omega)))⟩
  rfl

set_option maxHeartbeats 400000 in
theorem r01_dot (a b c d : Int) (w : World) (h1 : -2000000 ≤ a) (h2 : a ≤ 2000000) (h3 : -2000000 ≤ b) (h4 : b ≤ 2000000) (h5 : -2000000 ≤ c) (h6 : c ≤ 2000000) (h7 : -2000000 ≤ d) (h8 : d ≤ 2000000) :
    Calls Tryz.prog 56 #[.agg #[.int .i64 a, .int .i64 b], .agg #[.int .i64 c, .int .i64 d]] w (Ret w (.int .i64 (a * c + b * d))) := by
  obtain ⟨q1, q2⟩ := mul_bound h1 h2 h5 h6
  obtain ⟨q3, q4⟩ := mul_bound h3 h4 h7 h8
  go_enter Tryz.func56, Tryz.ntmps56
  go_wp2
  go_ret
  exact ⟨rfl, by (repeat' (first | (with_reducible exact Below.refl _ _) | (with_reducible assumption) | (with_reducible refine Below.alloc ?_ ?_ _) | (with_reducible refine Below.setCell ?_ ?_ _) | (with_reducible refine Below.drew ?_) | (with_reducible refine Below.trans ?_ (Below.mono (by assumption) ?_)) | omega | (dsimp only; omega) | ((repeat (first | rw [World.size_alloc] | rw [World.size_setCell] | rw [World.size_drew])); (try dsimp only); omega)))⟩

set_option maxHeartbeats 1000000 in
theorem r01_square (ax ay bx b_y : Int) (w : World) (h1 : -1000000 ≤ ax) (h2 : ax ≤ 1000000) (h3 : -1000000 ≤ ay) (h4 : ay ≤ 1000000) (h5 : -1000000 ≤ bx) (h6 : bx ≤ 1000000) (h7 : -1000000 ≤ b_y) (h8 : b_y ≤ 1000000) :
    Calls Tryz.prog 36 #[.agg #[.int .i64 ax, .int .i64 ay], .agg #[.int .i64 bx, .int .i64 b_y]] w (Ret w (.int .i64 ((bx - ax) * (bx - ax) + (b_y - ay) * (b_y - ay)))) := by
  go_enter Tryz.func36, Tryz.ntmps36
  go_wp2_with fail
  obtain ⟨wx, hx⟩ : ∃ wx : World, wx = (w.alloc (Obj.cells #[.int .i64 ax, .int .i64 ay] 23)).alloc (Obj.cells #[.int .i64 bx, .int .i64 b_y] 23) := ⟨_, rfl⟩
  have hB : Below w.heap.size w wx := by rw [hx]; (repeat' (first | (with_reducible exact Below.refl _ _) | (with_reducible assumption) | (with_reducible refine Below.alloc ?_ ?_ _) | (with_reducible refine Below.setCell ?_ ?_ _) | (with_reducible refine Below.drew ?_) | (with_reducible refine Below.trans ?_ (Below.mono (by assumption) ?_)) | omega | (dsimp only; omega) | ((repeat (first | rw [World.size_alloc] | rw [World.size_setCell] | rw [World.size_drew])); (try dsimp only); omega)))
  have hS : wx.heap.size = w.heap.size + 2 := by rw [hx]; simp
  have c1 : wx.cell? ⟨w.heap.size, 0, none⟩ = some (.int .i64 ax) := by rw [hx]; simp
  have c2 : wx.cell? ⟨w.heap.size, 1, none⟩ = some (.int .i64 ay) := by rw [hx]; simp
  have c3 : wx.cell? ⟨w.heap.size + 1, 0, none⟩ = some (.int .i64 bx) := by rw [hx]; simp
  have c4 : wx.cell? ⟨w.heap.size + 1, 1, none⟩ = some (.int .i64 b_y) := by rw [hx]; simp
  rw [← hx]
  clear hx
  go_region_held3 (fun w' => Below wx.heap.size wx w' ∧ ∀ b o, b < wx.heap.size → w'.cell? ⟨b, o, none⟩ = wx.cell? ⟨b, o, none⟩) (repeat' (first | (with_reducible exact sk_refl _ _) | (with_reducible assumption) | (with_reducible refine sk_dr ?_) | (refine sk_alloc ?_ ?_) | (refine sk_set ?_ ?_ ?_) | (refine sk_step (by assumption) ?_ ?_) | omega | (dsimp only; omega) | ((repeat (first | rw [World.size_alloc] | rw [World.size_setCell] | rw [World.size_drew])); (try dsimp only); omega))) (first | (go_at_call 57; refine (r01_minus _ _ _ _ _ (by omega) (by omega) (by omega) (by omega) (by omega) (by omega) (by omega) (by omega)).mono ?_; rintro e w1 ⟨rfl, hb⟩; have hz := hb.size; (repeat (first | rw [World.size_alloc] at hz | rw [World.size_setCell] at hz | rw [World.size_drew] at hz))) | (go_at_call 56; refine (r01_dot _ _ _ _ _ (by omega) (by omega) (by omega) (by omega) (by omega) (by omega) (by omega) (by omega)).mono ?_; rintro e w1 ⟨rfl, hb⟩; have hz := hb.size; (repeat (first | rw [World.size_alloc] at hz | rw [World.size_setCell] at hz | rw [World.size_drew] at hz))))
  all_goals go_wp2
  all_goals
    go_ret
    exact ⟨rfl, by (repeat' (first | (with_reducible exact Below.refl _ _) | (with_reducible assumption) | (with_reducible refine Below.alloc ?_ ?_ _) | (with_reducible refine Below.setCell ?_ ?_ _) | (with_reducible refine Below.drew ?_) | (with_reducible refine Below.trans ?_ (Below.mono (by assumption) ?_)) | omega | (dsimp only; omega) | ((repeat (first | rw [World.size_alloc] | rw [World.size_setCell] | rw [World.size_drew])); (try dsimp only); omega)))⟩

theorem least_facts {n : Int} (h0 : n ≤ 1000000000000) (r : Nat) (hr : r = rootN (max 0 n / 100)) :
    r ≤ 100000 ∧ ((100 * (r : Int) * (r : Int) < n ∧ r + 1 = rootUp n) ∨ (¬ 100 * (r : Int) * (r : Int) < n ∧ r = rootUp n)) := by
  have hs := rootN_spec (max 0 n / 100)
  rw [← hr] at hs
  have hu := rootUp_spec n
  have e1 : ∀ x : Int, 100 * x * x = 100 * (x * x) := fun x => Int.mul_assoc _ _ _
  have hlow : (r : Int) * (r : Int) ≤ max 0 n / 100 := by
    by_cases h : r = 0
    · subst h; simp; omega
    · have := hs.2.1 (r - 1) (by omega)
      rw [show (((r - 1 : Nat) : Int)) + 1 = (r : Int) by omega] at this
      exact this
  have hr5 : r ≤ 100000 := by
    rcases Nat.lt_or_ge 100000 r with h | h
    · have : (100001 : Int) * 100001 ≤ (r : Int) * (r : Int) := Int.mul_le_mul (by omega) (by omega) (by omega) (by omega)
      omega
    · exact h
  have hhigh := hs.2.2 r (Nat.le_refl _) (by omega)
  refine ⟨hr5, ?_⟩
  have uniq : ∀ u : Nat, u ≤ 100000 → n ≤ 100 * (u : Int) * (u : Int) → (u = 0 ∨ 100 * ((u : Int) - 1) * ((u : Int) - 1) < n) → u = rootUp n := by
    intro u h1 h2 h3
    refine search_unique (n := 100000) (p := fun c => decide (n ≤ 100 * (c : Int) * (c : Int))) h1 (fun t ht => ?_) (fun t h4 _ => ?_) hu.1 (fun t ht => by simpa using hu.2.1 t ht) (fun t h1 h2 => by simpa using hu.2.2 t h1 h2)
    · have h5 : 100 * ((u : Int) - 1) * ((u : Int) - 1) < n := by
        rcases h3 with h3 | h3
        · omega
        · exact h3
      have h6 : (t : Int) * (t : Int) ≤ ((u : Int) - 1) * ((u : Int) - 1) := Int.mul_le_mul (by omega) (by omega) (by omega) (by omega)
      rw [e1] at h5
      simp only [decide_eq_false_iff_not, e1]; omega
    · have := sq_mono u t h4
      simp only [decide_eq_true_eq]; omega
  by_cases hlt : 100 * (r : Int) * (r : Int) < n
  · refine .inl ⟨hlt, uniq (r + 1) ?_ ?_ (.inr ?_)⟩
    · rcases Nat.lt_or_ge r 100000 with h | h
      · omega
      · have h7 : r = 100000 := by omega
        subst h7; omega
    · rw [e1, show ((r + 1 : Nat) : Int) = (r : Int) + 1 by omega]; omega
    · rw [show ((r + 1 : Nat) : Int) - 1 = (r : Int) by omega]; exact hlt
  · refine .inr ⟨hlt, uniq r hr5 (by omega) ?_⟩
    by_cases h : r = 0
    · exact .inl h
    · right
      have h8 : ((r : Int) - 1) * ((r : Int) - 1) = (r : Int) * (r : Int) - 2 * (r : Int) + 1 := by rw [Int.sub_mul, Int.mul_sub]; omega
      have h9 : (1 : Int) * 1 ≤ (r : Int) * (r : Int) := Int.mul_le_mul (by omega) (by omega) (by omega) (by omega)
      rw [e1] at hlt ⊢
      omega

set_option maxHeartbeats 1000000 in
theorem r15_least (n : Int) (w : World) (h1 : n ≤ 1000000000000) (h2 : -1000000000000 ≤ n) : Calls Tryz.prog 34 #[.int .i64 n] w (Ret w (.int .i64 (rootUp n))) := by
  obtain ⟨k1, k2⟩ := least_facts h1 _ rfl
  have b1 := sq_bound (rootN (max 0 n / 100) : Int) 100000 (by omega) (by omega)
  have b2 : 100 * (rootN (max 0 n / 100) : Int) * (rootN (max 0 n / 100) : Int) = 100 * ((rootN (max 0 n / 100) : Int) * (rootN (max 0 n / 100) : Int)) := Int.mul_assoc _ _ _
  obtain ⟨b1, c1⟩ := b1
  have c2 : 0 ≤ 100 * (rootN (max 0 n / 100) : Int) * (rootN (max 0 n / 100) : Int) := by omega
  have c3 : 100 * (rootN (max 0 n / 100) : Int) * (rootN (max 0 n / 100) : Int) ≤ 1000000000000 := by omega
  clear b1 c1 b2
  rcases k2 with ⟨k2, k3⟩ | ⟨k2, k3⟩
  all_goals
    have K3 := Lib.hid k3
    clear k3
    go_enter Tryz.func34, Tryz.ntmps34
    go_wp2_with (go_at_call 44; refine (root_any _ _ (by omega) (by omega)).mono ?_; rintro e w1 ⟨rfl, hb⟩; obtain ⟨hc, hf⟩ := bcell hb; obtain ⟨hcw, hfw⟩ := bcellK (B := w.heap.size) (K := 0) hb (by first | omega | ((repeat (first | rw [World.size_alloc] | rw [World.size_setCell] | rw [World.size_drew])); omega)); obtain ⟨hco, hfo⟩ := bcellO (B := w.heap.size) hb (by first | omega | ((repeat (first | rw [World.size_alloc] | rw [World.size_setCell] | rw [World.size_drew])); omega)); have hz := hb.size; (repeat (first | rw [World.size_alloc] at hz | rw [World.size_setCell] at hz | rw [World.size_drew] at hz)); (first | (have f1 := tr0 f1 hz) | (have f1 := tr1 f1 hz) | (have f1 := tr2 f1 hz) | skip); (first | (have f2 := tr0 f2 hz) | (have f2 := tr1 f2 hz) | (have f2 := tr2 f2 hz) | skip); (first | (have f3 := tr0 f3 hz) | (have f3 := tr1 f3 hz) | (have f3 := tr2 f3 hz) | skip); (try have f3 := f1); (first | (obtain ⟨f1, f2⟩ := fr2 hz) | (have f1 := fr1 hz) | skip))
    go_ret
    exact ⟨ri (by have := K3.out; omega), by (repeat' (first | (with_reducible exact Below.refl _ _) | (with_reducible assumption) | (with_reducible refine Below.alloc ?_ ?_ _) | (with_reducible refine Below.setCell ?_ ?_ _) | (with_reducible refine Below.drew ?_) | (with_reducible refine Below.trans ?_ (Below.mono (by assumption) ?_)) | omega | (dsimp only; omega) | ((repeat (first | rw [World.size_alloc] | rw [World.size_setCell] | rw [World.size_drew])); (try dsimp only); omega)))⟩
end Go.Proofs.YtfefbckpocbeaaaGreat
