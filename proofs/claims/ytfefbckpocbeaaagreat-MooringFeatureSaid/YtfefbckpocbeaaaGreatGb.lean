/- The walks of plane.from, dot, cross, square. -/
import Derived.Test.YtfefbckpocbeaaaGreatG
import Derived.Deep.DeepCutAuto
namespace Go.Proofs.YtfefbckpocbeaaaGreat
open Go.RowKit
attribute [local go_sem high] run_max2 run_min2

theorem cell_same {w : World} {a : Addr} {v : Value} (h : (w.cell? a).isSome = true) : (w.setCell a v).cell? a = some v := by
  obtain ⟨u, hu⟩ := Option.isSome_iff_exists.1 h
  exact World.cell?_setCell_same _ _ _ hu

theorem mul_bound {a b A B : Int} (h1 : -A ≤ a) (h2 : a ≤ A) (h3 : -B ≤ b) (h4 : b ≤ B) : -(A * B) ≤ a * b ∧ a * b ≤ A * B := by
  have hA : 0 ≤ A := by omega
  have hB : 0 ≤ B := by omega
  have key : ∀ x y : Int, -A ≤ x → x ≤ A → -B ≤ y → y ≤ B → x * y ≤ A * B := by
    intro x y hx1 hx2 hy1 hy2
    rcases Int.le_total 0 x with hx | hx <;> rcases Int.le_total 0 y with hy | hy
    · exact Int.mul_le_mul hx2 hy2 hy hA
    · have : x * y ≤ 0 := Int.mul_nonpos_of_nonneg_of_nonpos hx hy
      have := Int.mul_nonneg hA hB
      omega
    · have : x * y ≤ 0 := Int.mul_nonpos_of_nonpos_of_nonneg hx hy
      have := Int.mul_nonneg hA hB
      omega
    · have e : x * y = (-x) * (-y) := by rw [Int.neg_mul_neg]
      rw [e]
      exact Int.mul_le_mul (by omega) (by omega) (by omega) hA
  refine ⟨?_, key a b h1 h2 h3 h4⟩
  have := key (-a) b (by omega) (by omega) h3 h4
  rw [Int.neg_mul] at this
  omega

set_option maxHeartbeats 400000 in
theorem from_any (ax ay bx b_y : Int) (w : World) (h1 : -1000000 ≤ ax) (h2 : ax ≤ 1000000) (h3 : -1000000 ≤ ay) (h4 : ay ≤ 1000000) (h5 : -1000000 ≤ bx) (h6 : bx ≤ 1000000) (h7 : -1000000 ≤ b_y) (h8 : b_y ≤ 1000000) :
    Calls Tryz.prog 115 #[.agg #[.int .i64 ax, .int .i64 ay], .agg #[.int .i64 bx, .int .i64 b_y]] w (Ret w (.agg #[.int .i64 (bx - ax), .int .i64 (b_y - ay)])) := by
  go_enter Tryz.func115, Tryz.ntmps115
  go_wp2
  refine bodyPost_ret (v := .agg #[.int .i64 (bx - ax), .int .i64 (b_y - ay)]) (by simp [results, Tryz.results115, go_sem, *]) rfl ⟨?_, by (repeat' (first | (with_reducible exact Below.refl _ _) | (with_reducible assumption) | (with_reducible refine Below.alloc ?_ ?_ _) | (with_reducible refine Below.setCell ?_ ?_ _) | (with_reducible refine Below.drew ?_) | (with_reducible refine Below.trans ?_ (Below.mono (by assumption) ?_)) | omega | (dsimp only; omega) | ((repeat (first | rw [World.size_alloc] | rw [World.size_setCell] | rw [World.size_drew])); (try dsimp only); omega)))⟩
  rfl

set_option maxHeartbeats 400000 in
theorem dot_any (a b c d : Int) (w : World) (h1 : -2000000 ≤ a) (h2 : a ≤ 2000000) (h3 : -2000000 ≤ b) (h4 : b ≤ 2000000) (h5 : -2000000 ≤ c) (h6 : c ≤ 2000000) (h7 : -2000000 ≤ d) (h8 : d ≤ 2000000) :
    Calls Tryz.prog 155 #[.agg #[.int .i64 a, .int .i64 b], .agg #[.int .i64 c, .int .i64 d]] w (Ret w (.int .i64 (a * c + b * d))) := by
  obtain ⟨q1, q2⟩ := mul_bound h1 h2 h5 h6
  obtain ⟨q3, q4⟩ := mul_bound h3 h4 h7 h8
  go_enter Tryz.func155, Tryz.ntmps155
  go_wp2
  go_ret
  exact ⟨rfl, by (repeat' (first | (with_reducible exact Below.refl _ _) | (with_reducible assumption) | (with_reducible refine Below.alloc ?_ ?_ _) | (with_reducible refine Below.setCell ?_ ?_ _) | (with_reducible refine Below.drew ?_) | (with_reducible refine Below.trans ?_ (Below.mono (by assumption) ?_)) | omega | (dsimp only; omega) | ((repeat (first | rw [World.size_alloc] | rw [World.size_setCell] | rw [World.size_drew])); (try dsimp only); omega)))⟩
set_option maxHeartbeats 400000 in
theorem cross_any (a b c d : Int) (w : World) (h1 : -2000000 ≤ a) (h2 : a ≤ 2000000) (h3 : -2000000 ≤ b) (h4 : b ≤ 2000000) (h5 : -2000000 ≤ c) (h6 : c ≤ 2000000) (h7 : -2000000 ≤ d) (h8 : d ≤ 2000000) :
    Calls Tryz.prog 116 #[.agg #[.int .i64 a, .int .i64 b], .agg #[.int .i64 c, .int .i64 d]] w (Ret w (.int .i64 (a * d - b * c))) := by
  obtain ⟨q1, q2⟩ := mul_bound h1 h2 h7 h8
  obtain ⟨q3, q4⟩ := mul_bound h3 h4 h5 h6
  go_enter Tryz.func116, Tryz.ntmps116
  go_wp2
  go_ret
  exact ⟨rfl, by (repeat' (first | (with_reducible exact Below.refl _ _) | (with_reducible assumption) | (with_reducible refine Below.alloc ?_ ?_ _) | (with_reducible refine Below.setCell ?_ ?_ _) | (with_reducible refine Below.drew ?_) | (with_reducible refine Below.trans ?_ (Below.mono (by assumption) ?_)) | omega | (dsimp only; omega) | ((repeat (first | rw [World.size_alloc] | rw [World.size_setCell] | rw [World.size_drew])); (try dsimp only); omega)))⟩

/-- The square of the distance of p and the segment from a to b, as x * y / z. -/
def sqF (px py ax ay bx b_y : Int) : Int × Int × Int :=
  if (bx - ax) * (px - ax) + (b_y - ay) * (py - ay) ≤ 0 then ((px - ax) * (px - ax) + (py - ay) * (py - ay), 1, 1)
  else if (bx - ax) * (bx - ax) + (b_y - ay) * (b_y - ay) ≤ (bx - ax) * (px - ax) + (b_y - ay) * (py - ay) then ((px - bx) * (px - bx) + (py - b_y) * (py - b_y), 1, 1)
  else (max ((bx - ax) * (py - ay) - (b_y - ay) * (px - ax)) (-((bx - ax) * (py - ay) - (b_y - ay) * (px - ax))), max ((bx - ax) * (py - ay) - (b_y - ay) * (px - ax)) (-((bx - ax) * (py - ay) - (b_y - ay) * (px - ax))), (bx - ax) * (bx - ax) + (b_y - ay) * (b_y - ay))

theorem rt3 {a b c d e f : Int} (h1 : a = d) (h2 : b = e) (h3 : c = f) : Ending.returned (.tuple #[.int .i64 a, .int .i64 b, .int .i64 c]) = .returned (.tuple #[.int .i64 d, .int .i64 e, .int .i64 f]) := by rw [h1, h2, h3]

set_option maxRecDepth 100000 in
set_option maxHeartbeats 4000000 in
theorem square_any (px py ax ay bx b_y : Int) (w : World) (h1 : -1000000 ≤ ax) (h2 : ax ≤ 1000000) (h3 : -1000000 ≤ ay) (h4 : ay ≤ 1000000) (h5 : -1000000 ≤ bx) (h6 : bx ≤ 1000000) (h7 : -1000000 ≤ b_y) (h8 : b_y ≤ 1000000)
    (h9 : -1000000 ≤ px) (h10 : px ≤ 1000000) (h11 : -1000000 ≤ py) (h12 : py ≤ 1000000) :
    Calls Tryz.prog 150 #[.agg #[.int .i64 px, .int .i64 py], .agg #[.int .i64 ax, .int .i64 ay], .agg #[.int .i64 bx, .int .i64 b_y]] w
      (Ret w (.tuple #[.int .i64 (sqF px py ax ay bx b_y).1, .int .i64 (sqF px py ax ay bx b_y).2.1, .int .i64 (sqF px py ax ay bx b_y).2.2])) := by
  have HR := Lib.hid (sqF.eq_1 px py ax ay bx b_y)
  obtain ⟨q1, q2⟩ := mul_bound (a := bx - ax) (b := px - ax) (A := 2000000) (B := 2000000) (by omega) (by omega) (by omega) (by omega)
  obtain ⟨q3, q4⟩ := mul_bound (a := b_y - ay) (b := py - ay) (A := 2000000) (B := 2000000) (by omega) (by omega) (by omega) (by omega)
  obtain ⟨q5, q6⟩ := mul_bound (a := bx - ax) (b := py - ay) (A := 2000000) (B := 2000000) (by omega) (by omega) (by omega) (by omega)
  obtain ⟨q7, q8⟩ := mul_bound (a := b_y - ay) (b := px - ax) (A := 2000000) (B := 2000000) (by omega) (by omega) (by omega) (by omega)
  go_enter Tryz.func150, Tryz.ntmps150
  go_upto_region 1 with fail
  go_cut [9, 10] (fun s9 s10 wx => ∃ b9 b10 : Nat, s9 = .pointer (some ⟨b9, 0, none⟩) ∧ s10 = .pointer (some ⟨b10, 0, none⟩) ∧
    wx.cell? ⟨b9, 0, none⟩ = some (.int .i64 (bx - ax)) ∧ wx.cell? ⟨b9, 1, none⟩ = some (.int .i64 (b_y - ay)) ∧ wx.cell? ⟨b10, 0, none⟩ = some (.int .i64 (px - ax)) ∧ wx.cell? ⟨b10, 1, none⟩ = some (.int .i64 (py - ay)) ∧
    wx.cell? ⟨w.heap.size, 0, none⟩ = some (.int .i64 px) ∧ wx.cell? ⟨w.heap.size, 1, none⟩ = some (.int .i64 py) ∧ wx.cell? ⟨w.heap.size + 1 + 1, 0, none⟩ = some (.int .i64 bx) ∧ wx.cell? ⟨w.heap.size + 1 + 1, 1, none⟩ = some (.int .i64 b_y) ∧ Below w.heap.size w wx)
  case first =>
    obtain ⟨W0, hW0⟩ : ∃ W0 : World, W0 = ((w.alloc (.cells #[.int .i64 px, .int .i64 py] 23)).alloc (.cells #[.int .i64 ax, .int .i64 ay] 23)).alloc (.cells #[.int .i64 bx, .int .i64 b_y] 23) := ⟨_, rfl⟩
    have c1 : W0.cell? ⟨w.heap.size, 0, none⟩ = some (.int .i64 px) := by rw [hW0]; go_simp
    have c2 : W0.cell? ⟨w.heap.size, 1, none⟩ = some (.int .i64 py) := by rw [hW0]; go_simp
    have c3 : W0.cell? ⟨w.heap.size + 1, 0, none⟩ = some (.int .i64 ax) := by rw [hW0]; go_simp
    have c4 : W0.cell? ⟨w.heap.size + 1, 1, none⟩ = some (.int .i64 ay) := by rw [hW0]; go_simp
    have c5 : W0.cell? ⟨w.heap.size + 1 + 1, 0, none⟩ = some (.int .i64 bx) := by rw [hW0]; go_simp
    have c6 : W0.cell? ⟨w.heap.size + 1 + 1, 1, none⟩ = some (.int .i64 b_y) := by rw [hW0]; go_simp
    have hB0 : Below w.heap.size w W0 := by rw [hW0]; exact (by (repeat' (first | (with_reducible exact Below.refl _ _) | (with_reducible assumption) | (with_reducible refine Below.alloc ?_ ?_ _) | (with_reducible refine Below.setCell ?_ ?_ _) | (with_reducible refine Below.drew ?_) | (with_reducible refine Below.trans ?_ (Below.mono (by assumption) ?_)) | omega | (dsimp only; omega) | ((repeat (first | rw [World.size_alloc] | rw [World.size_setCell] | rw [World.size_drew])); (try dsimp only); omega))))
    have hs : w.heap.size + 3 ≤ W0.heap.size := by rw [hW0]; (first | omega | ((repeat (first | rw [World.size_alloc] | rw [World.size_setCell] | rw [World.size_drew])); omega))
    rw [← hW0]
    clear hW0 q1 q2 q3 q4 q5 q6 q7 q8
    go_region_held3 (fun w' => Below W0.heap.size W0 w' ∧ ∀ b o, b < w.heap.size + 3 → w'.cell? ⟨b, o, none⟩ = W0.cell? ⟨b, o, none⟩) (repeat' (first | (with_reducible exact sk_refl _ _) | (with_reducible assumption) | (with_reducible refine sk_dr ?_) | (refine sk_alloc ?_ ?_) | (refine sk_set ?_ ?_ ?_) | (refine sk_step (by assumption) ?_ ?_) | omega | (dsimp only; omega) | ((repeat (first | rw [World.size_alloc] | rw [World.size_setCell] | rw [World.size_drew])); (try dsimp only); omega))) (first | (go_at_call 115; refine (from_any _ _ _ _ _ (by omega) (by omega) (by omega) (by omega) (by omega) (by omega) (by omega) (by omega)).mono ?_; rintro e w1 ⟨rfl, hb⟩; obtain ⟨hc, hf⟩ := bcell hb; obtain ⟨hcw, hfw⟩ := bcellK (B := w.heap.size) (K := 3) hb (by first | omega | ((repeat (first | rw [World.size_alloc] | rw [World.size_setCell] | rw [World.size_drew])); omega)); obtain ⟨hco, hfo⟩ := bcellO (B := w.heap.size) hb (by first | omega | ((repeat (first | rw [World.size_alloc] | rw [World.size_setCell] | rw [World.size_drew])); omega)); have hz := hb.size; (repeat (first | rw [World.size_alloc] at hz | rw [World.size_setCell] at hz | rw [World.size_drew] at hz)); (first | (have f1 := tr0 f1 hz) | (have f1 := tr1 f1 hz) | (have f1 := tr2 f1 hz) | skip); (first | (have f2 := tr0 f2 hz) | (have f2 := tr1 f2 hz) | (have f2 := tr2 f2 hz) | skip); (first | (have f3 := tr0 f3 hz) | (have f3 := tr1 f3 hz) | (have f3 := tr2 f3 hz) | skip); (try have f3 := f1); (first | (obtain ⟨f1, f2⟩ := fr2 hz) | (have f1 := fr1 hz) | skip); have z0 : w.heap.size < w1.heap.size := (by omega); have z1 : w.heap.size + 1 < w1.heap.size := (by omega); have z2 : w.heap.size + 1 + 1 < w1.heap.size := (by omega)))
    all_goals
      go_wp2_with fail
      go_meet
      refine ⟨_, _, rfl, rfl, ?_, ?_, ?_, ?_, ?_, ?_, ?_, ?_, by (repeat' (first | (with_reducible exact Below.refl _ _) | (with_reducible assumption) | (with_reducible refine Below.alloc ?_ ?_ _) | (with_reducible refine Below.setCell ?_ ?_ _) | (with_reducible refine Below.drew ?_) | (with_reducible refine Below.trans ?_ (Below.mono (by assumption) ?_)) | omega | (dsimp only; omega) | ((repeat (first | rw [World.size_alloc] | rw [World.size_setCell] | rw [World.size_drew])); (try dsimp only); omega)))⟩
      all_goals first
        | (go_simp; done)
        | (go_simp; rw [cell_same (by go_simp)])
  case rest =>
    obtain ⟨wx, rfl⟩ : ∃ wx : World, wx = wc := ⟨_, rfl⟩
    obtain ⟨b9, b10, rfl, rfl, d1, d2, d3, d4, d5, d6, d7, d8, hB⟩ := hcut
    have l9 : b9 < wx.heap.size := World.block_lt_of_cell? _ _ d1
    have l10 : b10 < wx.heap.size := World.block_lt_of_cell? _ _ d3
    have l1 : w.heap.size < wx.heap.size := World.block_lt_of_cell? _ _ d5
    have l2 : w.heap.size + 1 + 1 < wx.heap.size := World.block_lt_of_cell? _ _ d7
    -- boxes
    go_upto_region 2 with fail
    go_cut [11, 12] (fun s11 s12 wy => s11 = .int .i64 ((bx - ax) * (bx - ax) + (b_y - ay) * (b_y - ay)) ∧ s12 = .int .i64 ((bx - ax) * (px - ax) + (b_y - ay) * (py - ay)) ∧ Below wx.heap.size wx wy)
    case first =>
      go_region_held3 (fun w' => Below wx.heap.size wx w' ∧ ∀ b o, b < wx.heap.size → w'.cell? ⟨b, o, none⟩ = wx.cell? ⟨b, o, none⟩) (repeat' (first | (with_reducible exact sk_refl _ _) | (with_reducible assumption) | (with_reducible refine sk_dr ?_) | (refine sk_alloc ?_ ?_) | (refine sk_set ?_ ?_ ?_) | (refine sk_step (by assumption) ?_ ?_) | omega | (dsimp only; omega) | ((repeat (first | rw [World.size_alloc] | rw [World.size_setCell] | rw [World.size_drew])); (try dsimp only); omega))) (first | (go_at_call 155; refine (dot_any _ _ _ _ _ (by omega) (by omega) (by omega) (by omega) (by omega) (by omega) (by omega) (by omega)).mono ?_; rintro e w1 ⟨rfl, hb⟩; have hz := hb.size; (repeat (first | rw [World.size_alloc] at hz | rw [World.size_setCell] at hz | rw [World.size_drew] at hz))))
      all_goals
        go_wp2_with fail
        go_meet
        exact ⟨rfl, rfl, by (repeat' (first | (with_reducible exact Below.refl _ _) | (with_reducible assumption) | (with_reducible refine Below.alloc ?_ ?_ _) | (with_reducible refine Below.setCell ?_ ?_ _) | (with_reducible refine Below.drew ?_) | (with_reducible refine Below.trans ?_ (Below.mono (by assumption) ?_)) | omega | (dsimp only; omega) | ((repeat (first | rw [World.size_alloc] | rw [World.size_setCell] | rw [World.size_drew])); (try dsimp only); omega)))⟩
    case rest =>
      obtain ⟨wy, rfl⟩ : ∃ wy : World, wy = wc := ⟨_, rfl⟩
      obtain ⟨rfl, rfl, hB2⟩ := hcut
      have hz2 := hB2.size
      have hB3 : Below w.heap.size w wy := hB.trans (hB2.mono hB.size)
      have d1' : wy.cell? ⟨b9, 0, none⟩ = some (.int .i64 (bx - ax)) := (hB2.cell l9).trans d1
      have d2' : wy.cell? ⟨b9, 1, none⟩ = some (.int .i64 (b_y - ay)) := (hB2.cell l9).trans d2
      have d3' : wy.cell? ⟨b10, 0, none⟩ = some (.int .i64 (px - ax)) := (hB2.cell l10).trans d3
      have d4' : wy.cell? ⟨b10, 1, none⟩ = some (.int .i64 (py - ay)) := (hB2.cell l10).trans d4
      have d5' : wy.cell? ⟨w.heap.size, 0, none⟩ = some (.int .i64 px) := (hB2.cell l1).trans d5
      have d6' : wy.cell? ⟨w.heap.size, 1, none⟩ = some (.int .i64 py) := (hB2.cell l1).trans d6
      have d7' : wy.cell? ⟨w.heap.size + 1 + 1, 0, none⟩ = some (.int .i64 bx) := (hB2.cell l2).trans d7
      have d8' : wy.cell? ⟨w.heap.size + 1 + 1, 1, none⟩ = some (.int .i64 b_y) := (hB2.cell l2).trans d8
      have m1 : b9 < wy.heap.size := by omega
      have m2 : b10 < wy.heap.size := by omega
      clear d1 d2 d3 d4 d5 d6 d7 d8 l9 l10 hB hB2
      by_cases g1 : (bx - ax) * (px - ax) + (b_y - ay) * (py - ay) ≤ 0
      · rw [if_pos g1] at HR
        go_wp2_with (go_at_call 155; refine (dot_any _ _ _ _ _ (by omega) (by omega) (by omega) (by omega) (by omega) (by omega) (by omega) (by omega)).mono ?_; rintro e w1 ⟨rfl, hb⟩; have hz := hb.size; (repeat (first | rw [World.size_alloc] at hz | rw [World.size_setCell] at hz | rw [World.size_drew] at hz)))
        go_ret3
        exact ⟨rt3 (by rw [HR.out]) (by rw [HR.out]) (by rw [HR.out]), by (repeat' (first | (with_reducible exact Below.refl _ _) | (with_reducible assumption) | (with_reducible refine Below.alloc ?_ ?_ _) | (with_reducible refine Below.setCell ?_ ?_ _) | (with_reducible refine Below.drew ?_) | (with_reducible refine Below.trans ?_ (Below.mono (by assumption) ?_)) | omega | (dsimp only; omega) | ((repeat (first | rw [World.size_alloc] | rw [World.size_setCell] | rw [World.size_drew])); (try dsimp only); omega)))⟩
      · rw [if_neg g1] at HR
        by_cases g2 : (bx - ax) * (bx - ax) + (b_y - ay) * (b_y - ay) ≤ (bx - ax) * (px - ax) + (b_y - ay) * (py - ay)
        · rw [if_pos g2] at HR
          go_wp2_with (first | (go_at_call 115; refine (from_any _ _ _ _ _ (by omega) (by omega) (by omega) (by omega) (by omega) (by omega) (by omega) (by omega)).mono ?_; rintro e w1 ⟨rfl, hb⟩; have hz := hb.size; (repeat (first | rw [World.size_alloc] at hz | rw [World.size_setCell] at hz | rw [World.size_drew] at hz))) | (go_at_call 155; refine (dot_any _ _ _ _ _ (by omega) (by omega) (by omega) (by omega) (by omega) (by omega) (by omega) (by omega)).mono ?_; rintro e w1 ⟨rfl, hb⟩; have hz := hb.size; (repeat (first | rw [World.size_alloc] at hz | rw [World.size_setCell] at hz | rw [World.size_drew] at hz))))
          go_ret3
          exact ⟨rt3 (by rw [HR.out]) (by rw [HR.out]) (by rw [HR.out]), by (repeat' (first | (with_reducible exact Below.refl _ _) | (with_reducible assumption) | (with_reducible refine Below.alloc ?_ ?_ _) | (with_reducible refine Below.setCell ?_ ?_ _) | (with_reducible refine Below.drew ?_) | (with_reducible refine Below.trans ?_ (Below.mono (by assumption) ?_)) | omega | (dsimp only; omega) | ((repeat (first | rw [World.size_alloc] | rw [World.size_setCell] | rw [World.size_drew])); (try dsimp only); omega)))⟩
        · rw [if_neg g2] at HR
          go_wp2_with (go_at_call 116; refine (cross_any _ _ _ _ _ (by omega) (by omega) (by omega) (by omega) (by omega) (by omega) (by omega) (by omega)).mono ?_; rintro e w1 ⟨rfl, hb⟩; have hz := hb.size; (repeat (first | rw [World.size_alloc] at hz | rw [World.size_setCell] at hz | rw [World.size_drew] at hz)))
          go_ret3
          exact ⟨rt3 (by rw [HR.out]) (by rw [HR.out]) (by rw [HR.out]), by (repeat' (first | (with_reducible exact Below.refl _ _) | (with_reducible assumption) | (with_reducible refine Below.alloc ?_ ?_ _) | (with_reducible refine Below.setCell ?_ ?_ _) | (with_reducible refine Below.drew ?_) | (with_reducible refine Below.trans ?_ (Below.mono (by assumption) ?_)) | omega | (dsimp only; omega) | ((repeat (first | rw [World.size_alloc] | rw [World.size_setCell] | rw [World.size_drew])); (try dsimp only); omega)))⟩
end Go.Proofs.YtfefbckpocbeaaaGreat
