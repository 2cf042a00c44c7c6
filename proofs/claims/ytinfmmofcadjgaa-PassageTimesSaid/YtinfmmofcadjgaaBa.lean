/- Shared small lemmas for walks. -/
import Derived.Test.YtinfmmofcadjgaaProg
import Derived.WalkKit
import Derived.WalkSpells
import Derived.WalkLawsBesides
import Derived.Handy
import Derived.Lib.Hide
import Derived.Deep.RegionHeld3
namespace Go.Proofs.Ytinfmmofcadjgaa
open Go.RowKit

theorem run_max2 {P : Program} (w : World) (ts : Array TypeId) (t : TypeId) (k k' : IntKind) (x y : Int) : (Builtin.max_ ts t #[.int k x, .int k' y]).run P w = .ok (.int k (max x y)) w := by
  rw [run_max_int2]; congr 2; split <;> omega
theorem run_min2 {P : Program} (w : World) (ts : Array TypeId) (t : TypeId) (k k' : IntKind) (x y : Int) : (Builtin.min_ ts t #[.int k x, .int k' y]).run P w = .ok (.int k (min x y)) w := by
  rw [run_min_int2]; congr 2; split <;> omega
attribute [local go_sem high] run_max2 run_min2

def Ret (w : World) (v : Value) (e : Ending) (w' : World) : Prop := e = .returned v ∧ Below w.heap.size w w'

theorem bcell {W w1 : World} (hb : Below W.heap.size W w1) : (∀ b o, b < W.heap.size → w1.cell? ⟨b, o, none⟩ = W.cell? ⟨b, o, none⟩) ∧ (∀ b o, b < W.heap.size → w1.frozen? ⟨b, o, none⟩ = W.frozen? ⟨b, o, none⟩) :=
  ⟨fun b o h => hb.cell (p := ⟨b, o, none⟩) h, fun b o h => hb.frozen (p := ⟨b, o, none⟩) h⟩

theorem bcellK {B K : Nat} {W w1 : World} (hb : Below W.heap.size W w1) (hk : B + K ≤ W.heap.size) : (∀ b o, b < B + K → w1.cell? ⟨b, o, none⟩ = W.cell? ⟨b, o, none⟩) ∧ (∀ b o, b < B + K → w1.frozen? ⟨b, o, none⟩ = W.frozen? ⟨b, o, none⟩) :=
  ⟨fun b o h => hb.cell (p := ⟨b, o, none⟩) (Nat.lt_of_lt_of_le h hk), fun b o h => hb.frozen (p := ⟨b, o, none⟩) (Nat.lt_of_lt_of_le h hk)⟩
theorem bcellO {B : Nat} {W w1 : World} (hb : Below W.heap.size W w1) (hk : B ≤ W.heap.size) : (∀ b o, b < B → w1.cell? ⟨b, o, none⟩ = W.cell? ⟨b, o, none⟩) ∧ (∀ b o, b < B → w1.frozen? ⟨b, o, none⟩ = W.frozen? ⟨b, o, none⟩) :=
  ⟨fun b o h => hb.cell (p := ⟨b, o, none⟩) (Nat.lt_of_lt_of_le h hk), fun b o h => hb.frozen (p := ⟨b, o, none⟩) (Nat.lt_of_lt_of_le h hk)⟩

theorem sk_refl (W : World) (n : Nat) : Below W.heap.size W W ∧ ∀ b o, b < n → W.cell? ⟨b, o, none⟩ = W.cell? ⟨b, o, none⟩ := ⟨Below.refl _ _, fun _ _ _ => rfl⟩
theorem sk_dr {W w' : World} {n : Nat} (h : Below W.heap.size W w' ∧ ∀ b o, b < n → w'.cell? ⟨b, o, none⟩ = W.cell? ⟨b, o, none⟩) : Below W.heap.size W w'.drew ∧ ∀ b o, b < n → w'.drew.cell? ⟨b, o, none⟩ = W.cell? ⟨b, o, none⟩ := ⟨h.1.drew, h.2⟩
theorem sk_step {W w' w'' : World} {n : Nat} (hb : Below w'.heap.size w' w'') (h : Below W.heap.size W w' ∧ ∀ b o, b < n → w'.cell? ⟨b, o, none⟩ = W.cell? ⟨b, o, none⟩) (hn : n ≤ W.heap.size) :
    Below W.heap.size W w'' ∧ ∀ b o, b < n → w''.cell? ⟨b, o, none⟩ = W.cell? ⟨b, o, none⟩ :=
  ⟨h.1.trans (hb.mono h.1.size), fun b o hbn => (hb.cell (p := ⟨b, o, none⟩) (Nat.lt_of_lt_of_le hbn (Nat.le_trans hn h.1.size))).trans (h.2 b o hbn)⟩

theorem sk_alloc {W w' : World} {n : Nat} {o : Obj} (h : Below W.heap.size W w' ∧ ∀ b o, b < n → w'.cell? ⟨b, o, none⟩ = W.cell? ⟨b, o, none⟩) (hn : n ≤ W.heap.size) :
    Below W.heap.size W (w'.alloc o) ∧ ∀ b o', b < n → (w'.alloc o).cell? ⟨b, o', none⟩ = W.cell? ⟨b, o', none⟩ :=
  ⟨h.1.alloc h.1.size o, fun b o' hbn => (World.cell?_alloc_lt _ _ _ (show b < w'.heap.size from Nat.lt_of_lt_of_le hbn (Nat.le_trans hn h.1.size))).trans (h.2 b o' hbn)⟩
theorem sk_set {W w' : World} {n : Nat} {a : Addr} {v : Value} (h : Below W.heap.size W w' ∧ ∀ b o, b < n → w'.cell? ⟨b, o, none⟩ = W.cell? ⟨b, o, none⟩) (hn : n ≤ W.heap.size) (ha : W.heap.size ≤ a.block) :
    Below W.heap.size W (w'.setCell a v) ∧ ∀ b o', b < n → (w'.setCell a v).cell? ⟨b, o', none⟩ = W.cell? ⟨b, o', none⟩ :=
  ⟨h.1.setCell ha v, fun b o' hbn => (World.cell?_of_block (Below.heap_setCell w' a v b (by show b ≠ a.block; omega))).trans (h.2 b o' hbn)⟩

theorem tr0 {X a b : Nat} (f : X < a) (h : a ≤ b) : X < b := by omega
theorem tr1 {X a b : Nat} (f : X < a) (h : a + 1 ≤ b) : X < b := by omega
theorem tr2 {X a b : Nat} (f : X < a) (h : a + 1 + 1 ≤ b) : X < b := by omega
theorem fr1 {a b : Nat} (h : a + 1 ≤ b) : a < b := h
theorem fr2 {a b : Nat} (h : a + 1 + 1 ≤ b) : a + 1 < b ∧ a < b := by omega

theorem rb {a b : Bool} (h : (a = true) ↔ (b = true)) : Ending.returned (.bool a) = .returned (.bool b) := by rw [Bool.eq_iff_iff.2 h]

theorem sq_bound (x b : Int) (h1 : -b ≤ x) (h2 : x ≤ b) : 0 ≤ x * x ∧ x * x ≤ b * b := by
  have hb : 0 ≤ b := by omega
  rcases Int.le_total 0 x with h | h
  · exact ⟨Int.mul_nonneg h h, Int.mul_le_mul h2 h2 h hb⟩
  · have e : x * x = (-x) * (-x) := by rw [Int.neg_mul_neg]
    rw [e]
    exact ⟨Int.mul_nonneg (by omega) (by omega), Int.mul_le_mul (by omega) (by omega) (by omega) hb⟩

end Go.Proofs.Ytinfmmofcadjgaa
