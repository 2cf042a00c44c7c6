/- Shared small lemmas; the walks of package span's and plane's validity tests. -/
import Derived.Test.YtfefbckpocbeaaaGreatProg
import Derived.WalkKit
import Derived.WalkSpells
import Derived.WalkLawsBesides
import Derived.Handy
import Derived.Lib.Hide
import Derived.Deep.RegionHeld3
namespace Go.Proofs.YtfefbckpocbeaaaGreat
open Go.RowKit

theorem run_max2 {P : Program} (w : World) (ts : Array TypeId) (t : TypeId) (k k' : IntKind) (x y : Int) : (Builtin.max_ ts t #[.int k x, .int k' y]).run P w = .ok (.int k (max x y)) w := by
  rw [run_max_int2]; congr 2; split <;> omega
theorem run_min2 {P : Program} (w : World) (ts : Array TypeId) (t : TypeId) (k k' : IntKind) (x y : Int) : (Builtin.min_ ts t #[.int k x, .int k' y]).run P w = .ok (.int k (min x y)) w := by
  rw [run_min_int2]; congr 2; split <;> omega
attribute [local go_sem high] run_max2 run_min2

def Ret (w : World) (v : Value) (e : Ending) (w' : World) : Prop := e = .returned v ∧ Below w.heap.size w w'

theorem bcell {W w1 : World} (hb : Below W.heap.size W w1) : (∀ b o, b < W.heap.size → w1.cell? ⟨b, o, none⟩ = W.cell? ⟨b, o, none⟩) ∧ (∀ b o, b < W.heap.size → w1.frozen? ⟨b, o, none⟩ = W.frozen? ⟨b, o, none⟩) :=
  ⟨fun b o h => hb.cell (p := ⟨b, o, none⟩) h, fun b o h => hb.frozen (p := ⟨b, o, none⟩) h⟩

theorem bcellK {B K : Nat} {W w1 : World} (hb : Below W.heap.size W w1) (hk : B + K ≤ W.heap.size) : (∀ b o, b < B + K → w1.cell? ⟨b, o, none⟩ = W.cell? ⟨b, o, none⟩) ∧ (∀ b o, b < B + K → w1.frozen? ⟨b, o, none⟩ = W.frozen? ⟨b, o, none⟩) :=
  ⟨fun b o h => hb.cell (p := ⟨b, o, none⟩) (Nat.lt_of_lt_of_le h hk), fun b o h => hb.frozen (p := ⟨b, o, none⟩) (Nat.lt_of_lt_of_le h hk)⟩
theorem bcellO {B : Nat} {W w1 : World} (hb : Below W.heap.size W w1) (hk : B ≤ W.heap.size) : (∀ b o, b < B → w1.cell? ⟨b, o, none⟩ = W.cell? ⟨b, o, none⟩) ∧ (∀ b o, b < B → w1.frozen? ⟨b, o, none⟩ = W.frozen? ⟨b, o, none⟩) :=
  ⟨fun b o h => hb.cell (p := ⟨b, o, none⟩) (Nat.lt_of_lt_of_le h hk), fun b o h => hb.frozen (p := ⟨b, o, none⟩) (Nat.lt_of_lt_of_le h hk)⟩

theorem sk_refl (W : World) (n : Nat) : Below W.heap.size W W ∧ ∀ b o, b < n → W.cell? ⟨b, o, none⟩ = W.cell? ⟨b, o, none⟩ := ⟨Below.refl _ _, fun _ _ _ => rfl⟩
theorem sk_dr {W w' : World} {n : Nat} (h : Below W.heap.size W w' ∧ ∀ b o, b < n → w'.cell? ⟨b, o, none⟩ = W.cell? ⟨b, o, none⟩) : Below W.heap.size W w'.drew ∧ ∀ b o, b < n → w'.drew.cell? ⟨b, o, none⟩ = W.cell? ⟨b, o, none⟩ := ⟨h.1.drew, h.2⟩
theorem sk_step {W w' w'' : World} {n : Nat} (hb : Below w'.heap.size w' w'') (h : Below W.heap.size W w' ∧ ∀ b o, b < n → w'.cell? ⟨b, o, none⟩ = W.cell? ⟨b, o, none⟩) (hn : n ≤ W.heap.size) :
    Below W.heap.size W w'' ∧ ∀ b o, b < n → w''.cell? ⟨b, o, none⟩ = W.cell? ⟨b, o, none⟩ :=
  ⟨h.1.trans (hb.mono h.1.size), fun b o hbn => (hb.cell (p := ⟨b, o, none⟩) (Nat.lt_of_lt_of_le hbn (Nat.le_trans hn h.1.size))).trans (h.2 b o hbn)⟩

theorem sk_alloc {W w' : World} {n : Nat} {o : Obj} (h : Below W.heap.size W w' ∧ ∀ b o, b < n → w'.cell? ⟨b, o, none⟩ = W.cell? ⟨b, o, none⟩) (hn : n ≤ W.heap.size) :
    Below W.heap.size W (w'.alloc o) ∧ ∀ b o', b < n → (w'.alloc o).cell? ⟨b, o', none⟩ = W.cell? ⟨b, o', none⟩ :=
  ⟨h.1.alloc h.1.size o, fun b o' hbn => (World.cell?_alloc_lt _ _ _ (show b < w'.heap.size from Nat.lt_of_lt_of_le hbn (Nat.le_trans hn h.1.size))).trans (h.2 b o' hbn)⟩
theorem sk_set {W w' : World} {n : Nat} {a : Addr} {v : Value} (h : Below W.heap.size W w' ∧ ∀ b o, b < n → w'.cell? ⟨b, o, none⟩ = W.cell? ⟨b, o, none⟩) (hn : n ≤ W.heap.size) (ha : W.heap.size ≤ a.block) :
    Below W.heap.size W (w'.setCell a v) ∧ ∀ b o', b < n → (w'.setCell a v).cell? ⟨b, o', none⟩ = W.cell? ⟨b, o', none⟩ :=
  ⟨h.1.setCell ha v, fun b o' hbn => (World.cell?_of_block (Below.heap_setCell w' a v b (by show b ≠ a.block; omega))).trans (h.2 b o' hbn)⟩

theorem tr0 {X a b : Nat} (f : X < a) (h : a ≤ b) : X < b := by omega
theorem tr1 {X a b : Nat} (f : X < a) (h : a + 1 ≤ b) : X < b := by omega
theorem tr2 {X a b : Nat} (f : X < a) (h : a + 1 + 1 ≤ b) : X < b := by omega
theorem fr1 {a b : Nat} (h : a + 1 ≤ b) : a < b := h
theorem fr2 {a b : Nat} (h : a + 1 + 1 ≤ b) : a + 1 < b ∧ a < b := by omega

theorem rb {a b : Bool} (h : (a = true) ↔ (b = true)) : Ending.returned (.bool a) = .returned (.bool b) := by rw [Bool.eq_iff_iff.2 h]

theorem sq_bound (x b : Int) (h1 : -b ≤ x) (h2 : x ≤ b) : 0 ≤ x * x ∧ x * x ≤ b * b := by
  have hb : 0 ≤ b := by omega
  rcases Int.le_total 0 x with h | h
  · exact ⟨Int.mul_nonneg h h, Int.mul_le_mul h2 h2 h hb⟩
  · have e : x * x = (-x) * (-x) := by rw [Int.neg_mul_neg]
    rw [e]
    exact ⟨Int.mul_nonneg (by omega) (by omega), Int.mul_le_mul (by omega) (by omega) (by omega) hb⟩

def spanOk (a b : Int) : Bool := decide (-1000000000000 ≤ a ∧ a ≤ b ∧ b ≤ 1000000000000)

set_option maxHeartbeats 400000 in
theorem span_valid (a b : Int) (w : World) :
    Calls Tryz.prog 76 #[.agg #[.int .i64 a, .int .i64 b]] w (Ret w (.bool (spanOk a b))) := by
  go_enter Tryz.func76, Tryz.ntmps76
  go_wp2
  all_goals
    go_ret
    exact ⟨rb (by simp [spanOk, *] <;> omega), by (repeat' (first | (with_reducible exact Below.refl _ _) | (with_reducible assumption) | (with_reducible refine Below.alloc ?_ ?_ _) | (with_reducible refine Below.setCell ?_ ?_ _) | (with_reducible refine Below.drew ?_) | (with_reducible refine Below.trans ?_ (Below.mono (by assumption) ?_)) | omega | (dsimp only; omega) | ((repeat (first | rw [World.size_alloc] | rw [World.size_setCell] | rw [World.size_drew])); (try dsimp only); omega)))⟩

def placeOk (x y : Int) : Bool := decide (-1000000 ≤ x ∧ x ≤ 1000000 ∧ -1000000 ≤ y ∧ y ≤ 1000000)

set_option maxHeartbeats 400000 in
theorem plane_valid (x y : Int) (w : World) :
    Calls Tryz.prog 26 #[.agg #[.int .i64 x, .int .i64 y]] w (Ret w (.bool (placeOk x y))) := by
  go_enter Tryz.func26, Tryz.ntmps26
  go_wp2
  all_goals
    go_ret
    exact ⟨rb (by simp [placeOk, *] <;> omega), by (repeat' (first | (with_reducible exact Below.refl _ _) | (with_reducible assumption) | (with_reducible refine Below.alloc ?_ ?_ _) | (with_reducible refine Below.setCell ?_ ?_ _) | (with_reducible refine Below.drew ?_) | (with_reducible refine Below.trans ?_ (Below.mono (by assumption) ?_)) | omega | (dsimp only; omega) | ((repeat (first | rw [World.size_alloc] | rw [World.size_setCell] | rw [World.size_drew])); (try dsimp only); omega)))⟩

def withinOk (a b lo hi : Int) : Bool := spanOk a b && decide (lo ≤ a ∧ b ≤ hi)

set_option maxHeartbeats 400000 in
theorem within_any (a b lo hi : Int) (w : World) :
    Calls Tryz.prog 53 #[.agg #[.int .i64 a, .int .i64 b], .int .i64 lo, .int .i64 hi] w (Ret w (.bool (withinOk a b lo hi))) := by
  go_enter Tryz.func53, Tryz.ntmps53
  go_wp2_with (go_at_call 76; refine (span_valid _ _ _).mono ?_; rintro e w1 ⟨rfl, hb⟩; obtain ⟨hc, hf⟩ := bcell hb; obtain ⟨hcw, hfw⟩ := bcellK (B := w.heap.size) (K := 1) hb (by first | omega | ((repeat (first | rw [World.size_alloc] | rw [World.size_setCell] | rw [World.size_drew])); omega)); obtain ⟨hco, hfo⟩ := bcellO (B := w.heap.size) hb (by first | omega | ((repeat (first | rw [World.size_alloc] | rw [World.size_setCell] | rw [World.size_drew])); omega)); have hz := hb.size; (repeat (first | rw [World.size_alloc] at hz | rw [World.size_setCell] at hz | rw [World.size_drew] at hz)); (first | (have f1 := tr0 f1 hz) | (have f1 := tr1 f1 hz) | (have f1 := tr2 f1 hz) | skip); (first | (have f2 := tr0 f2 hz) | (have f2 := tr1 f2 hz) | (have f2 := tr2 f2 hz) | skip); (first | (have f3 := tr0 f3 hz) | (have f3 := tr1 f3 hz) | (have f3 := tr2 f3 hz) | skip); (try have f3 := f1); (first | (obtain ⟨f1, f2⟩ := fr2 hz) | (have f1 := fr1 hz) | skip); have z0 : w.heap.size < w1.heap.size := (by omega))
  all_goals
    go_ret
    exact ⟨rb (by simp [withinOk, *] <;> omega), by (repeat' (first | (with_reducible exact Below.refl _ _) | (with_reducible assumption) | (with_reducible refine Below.alloc ?_ ?_ _) | (with_reducible refine Below.setCell ?_ ?_ _) | (with_reducible refine Below.drew ?_) | (with_reducible refine Below.trans ?_ (Below.mono (by assumption) ?_)) | omega | (dsimp only; omega) | ((repeat (first | rw [World.size_alloc] | rw [World.size_setCell] | rw [World.size_drew])); (try dsimp only); omega)))⟩
end Go.Proofs.YtfefbckpocbeaaaGreat
