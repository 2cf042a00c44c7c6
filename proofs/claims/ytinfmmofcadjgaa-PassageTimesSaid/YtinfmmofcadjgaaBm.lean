/- The walks of bits.Mul64 and plane.most. -/
import Derived.Test.YtinfmmofcadjgaaBa
import Derived.Shelf.Bits.Mul64
namespace Go.Proofs.Ytinfmmofcadjgaa
open Go.RowKit
attribute [local go_sem high] run_max2 run_min2

set_option maxHeartbeats 1000000 in
theorem mul64_any (x y : Nat) (hx : x < 18446744073709551616) (hy : y < 18446744073709551616) (w : World) :
    Calls Try.prog 91 #[.int .u64 x, .int .u64 y] w (Ret w (.tuple #[.int .u64 ((x * y / 18446744073709551616 : Nat) : Int), .int .u64 ((x * y % 18446744073709551616 : Nat) : Int)])) := by
  obtain ⟨bd, bt, bw, hhi⟩ := Lib.mul64_hi x y hx hy
  have ba := Lib.half_mul_le (a := x / 4294967296) (b := y / 4294967296) (by omega) (by omega)
  have bb := Lib.half_mul_le (a := x / 4294967296) (b := y % 4294967296) (by omega) (by omega)
  have bc := Lib.half_mul_le (a := x % 4294967296) (b := y / 4294967296) (by omega) (by omega)
  have ba' : x / 4294967296 * (y / 4294967296) < 18446744073709551616 := by omega
  have bb' : x / 4294967296 * (y % 4294967296) < 18446744073709551616 := by omega
  have bc' : x % 4294967296 * (y / 4294967296) < 18446744073709551616 := by omega
  have bh1 : x / 4294967296 * (y / 4294967296) + (x / 4294967296 * (y % 4294967296) + x % 4294967296 * (y % 4294967296) / 4294967296) / 4294967296 < 18446744073709551616 := by omega
  have bh : x / 4294967296 * (y / 4294967296) + (x / 4294967296 * (y % 4294967296) + x % 4294967296 * (y % 4294967296) / 4294967296) / 4294967296 + ((x / 4294967296 * (y % 4294967296) + x % 4294967296 * (y % 4294967296) / 4294967296) % 4294967296 + x % 4294967296 * (y / 4294967296)) / 4294967296 < 18446744073709551616 := by omega
  go_enter Try.func91, Try.ntmps91
  go_wp2
  simp only [Mul64.maskN x hx, Mul64.maskN y hy, Mul64.divN, Mul64.mulN, Mul64.addN, Mul64.wrapN _ bd, Mul64.wrapN _ bb', Mul64.wrapN _ bt, Mul64.maskN _ bt, Mul64.wrapN _ bc', Mul64.wrapN _ bw, Mul64.wrapN _ ba', Mul64.wrapN _ bh1, Mul64.wrapN _ bh, Mul64.wrapM (x * y)]
  rw [hhi]
  go_ret2
  exact ⟨rfl, by (repeat' (first | (with_reducible exact Below.refl _ _) | (with_reducible assumption) | (with_reducible refine Below.alloc ?_ ?_ _) | (with_reducible refine Below.setCell ?_ ?_ _) | (with_reducible refine Below.drew ?_) | (with_reducible refine Below.trans ?_ (Below.mono (by assumption) ?_)) | omega | (dsimp only; omega) | ((repeat (first | rw [World.size_alloc] | rw [World.size_setCell] | rw [World.size_drew])); (try dsimp only); omega)))⟩

theorem most_dec (a b c d : Nat) : (decide (a * b / 18446744073709551616 < c * d / 18446744073709551616) || (decide (a * b / 18446744073709551616 = c * d / 18446744073709551616) && decide (a * b % 18446744073709551616 ≤ c * d % 18446744073709551616))) = decide (a * b ≤ c * d) := by
  rw [Bool.eq_iff_iff]
  simp only [Bool.or_eq_true, Bool.and_eq_true, decide_eq_true_eq]
  omega

set_option maxHeartbeats 1000000 in
theorem most_any (a b c d : Int) (w : World) (ha : 0 ≤ a) (hb : 0 ≤ b) (hc : 0 ≤ c) (hd : 0 ≤ d) (ha' : a < 9223372036854775808) (hb' : b < 9223372036854775808) (hc' : c < 9223372036854775808) (hd' : d < 9223372036854775808) :
    Calls Try.prog 79 #[.int .i64 a, .int .i64 b, .int .i64 c, .int .i64 d] w (Ret w (.bool (decide (a * b ≤ c * d)))) := by
  obtain ⟨a, rfl⟩ := Int.eq_ofNat_of_zero_le ha
  obtain ⟨b, rfl⟩ := Int.eq_ofNat_of_zero_le hb
  obtain ⟨c, rfl⟩ := Int.eq_ofNat_of_zero_le hc
  obtain ⟨d, rfl⟩ := Int.eq_ofNat_of_zero_le hd
  have HR : Hid (decide ((a : Int) * b ≤ (c : Int) * d) = (decide (a * b / 18446744073709551616 < c * d / 18446744073709551616) || (decide (a * b / 18446744073709551616 = c * d / 18446744073709551616) && decide (a * b % 18446744073709551616 ≤ c * d % 18446744073709551616)))) := by
    show _ = _
    rw [most_dec, ← Int.natCast_mul, ← Int.natCast_mul, Bool.eq_iff_iff]
    simp only [decide_eq_true_eq]
    omega
  generalize hx1 : a * b / 18446744073709551616 = x1 at HR
  generalize hx2 : a * b % 18446744073709551616 = x2 at HR
  generalize hy1 : c * d / 18446744073709551616 = y1 at HR
  generalize hy2 : c * d % 18446744073709551616 = y2 at HR
  have h1 : ∀ W, Calls Try.prog 91 #[.int .u64 a, .int .u64 b] W (Ret W (.tuple #[.int .u64 (x1 : Int), .int .u64 (x2 : Int)])) := fun W => by
    have := mul64_any a b (by omega) (by omega) W
    rwa [hx1, hx2] at this
  have h2 : ∀ W, Calls Try.prog 91 #[.int .u64 c, .int .u64 d] W (Ret W (.tuple #[.int .u64 (y1 : Int), .int .u64 (y2 : Int)])) := fun W => by
    have := mul64_any c d (by omega) (by omega) W
    rwa [hy1, hy2] at this
  have H1 := Lib.hid h1
  have H2 := Lib.hid h2
  have e1 := Mul64.wrapN a (by omega)
  have e2 := Mul64.wrapN b (by omega)
  have e3 := Mul64.wrapN c (by omega)
  have e4 := Mul64.wrapN d (by omega)
  clear h1 h2 hx1 hx2 hy1 hy2 ha hb hc hd ha' hb' hc' hd'
  go_enter Try.func79, Try.ntmps79
  go_wp2_with fail
  refine (H1.out _).mono ?_
  rintro e w1 ⟨rfl, hb1⟩
  have hz1 := hb1.size
  go_wp2_with fail
  refine (H2.out _).mono ?_
  rintro e w2 ⟨rfl, hb2⟩
  have hz2 := hb2.size
  go_wp2
  all_goals
    go_ret
    exact ⟨rb (by rw [HR.out]; simp [*]; try omega), by (repeat' (first | (with_reducible exact Below.refl _ _) | (with_reducible assumption) | (with_reducible refine Below.alloc ?_ ?_ _) | (with_reducible refine Below.setCell ?_ ?_ _) | (with_reducible refine Below.drew ?_) | (with_reducible refine Below.trans ?_ (Below.mono (by assumption) ?_)) | omega | (dsimp only; omega) | ((repeat (first | rw [World.size_alloc] | rw [World.size_setCell] | rw [World.size_drew])); (try dsimp only); omega)))⟩
end Go.Proofs.Ytinfmmofcadjgaa
