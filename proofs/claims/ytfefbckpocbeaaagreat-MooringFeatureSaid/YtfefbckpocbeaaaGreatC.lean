/- What lay in the first boxes, carried from world to world. -/
import Derived.Test.YtfefbckpocbeaaaGreatA
namespace Go.Proofs.YtfefbckpocbeaaaGreat
open Go.RowKit

/-- What lay in the first boxes, carried from world to world. -/
theorem cw_base {B K : Nat} {w W w1 : World} (hb : Below W.heap.size W w1) (hk : B + K ≤ W.heap.size) (h0 : Below B w W) :
    (∀ b o, b < B + K → w1.cell? ⟨b, o, none⟩ = W.cell? ⟨b, o, none⟩) ∧ (∀ b o, b < B + K → w1.frozen? ⟨b, o, none⟩ = W.frozen? ⟨b, o, none⟩) ∧ B + K ≤ w1.heap.size ∧ Below B w w1 :=
  ⟨fun b o h => hb.cell (p := ⟨b, o, none⟩) (Nat.lt_of_lt_of_le h hk), fun b o h => hb.frozen (p := ⟨b, o, none⟩) (Nat.lt_of_lt_of_le h hk), Nat.le_trans hk hb.size, h0.trans (hb.mono (by omega))⟩
theorem cw_step {B K : Nat} {w W0 W1 w2 : World} (hb : Below W1.heap.size W1 w2)
    (h : (∀ b o, b < B + K → W1.cell? ⟨b, o, none⟩ = W0.cell? ⟨b, o, none⟩) ∧ (∀ b o, b < B + K → W1.frozen? ⟨b, o, none⟩ = W0.frozen? ⟨b, o, none⟩) ∧ B + K ≤ W1.heap.size ∧ Below B w W1) :
    (∀ b o, b < B + K → w2.cell? ⟨b, o, none⟩ = W0.cell? ⟨b, o, none⟩) ∧ (∀ b o, b < B + K → w2.frozen? ⟨b, o, none⟩ = W0.frozen? ⟨b, o, none⟩) ∧ B + K ≤ w2.heap.size ∧ Below B w w2 :=
  ⟨fun b o hl => (hb.cell (p := ⟨b, o, none⟩) (Nat.lt_of_lt_of_le hl h.2.2.1)).trans (h.1 b o hl), fun b o hl => (hb.frozen (p := ⟨b, o, none⟩) (Nat.lt_of_lt_of_le hl h.2.2.1)).trans (h.2.1 b o hl),
    Nat.le_trans h.2.2.1 hb.size, h.2.2.2.trans (hb.mono (by omega))⟩

end Go.Proofs.YtfefbckpocbeaaaGreat
