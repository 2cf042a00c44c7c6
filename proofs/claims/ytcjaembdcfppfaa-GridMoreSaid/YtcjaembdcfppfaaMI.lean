/- MI, merged: Lm0, Pa, Pb, Pc, Pd, Pe, Pf, Ph, Pi, Pj, Pk, Sb. -/
import Derived.Test.YtcjaembdcfppfaaMF
import Derived.Test.YtcjaembdcfppfaaMC
set_option linter.unusedSimpArgs false
set_option linter.unusedVariables false
/- Chapters 38, 40: symbols of the older contracts. -/
namespace Go.Proofs.Ytcjaembdcfppfaa
open Go.RowKit
theorem KG_K7 {ρ : Env} (h : Sees ρ KG 80) : Sees ρ K7 61 := h.trans (by decide) fun n l hn => by
  have e : n < 61 := hn
  refine ⟨?_, ?_⟩
  · simp only [KG, KF, KE, KD, KC, KB, KA, K9, K8]
    (repeat' split) <;> first | omega | rfl
  · simp only [KG, KF, KE, KD, KC, KB, KA, K9, K8]
    (repeat' split) <;> first | omega | rfl
end Go.Proofs.Ytcjaembdcfppfaa
/- Plane geometry, no program: common points of segments, distances of segments. -/
namespace Go.Proofs.Ytcjaembdcfppfaa
open Go.RowKit

def Seg (ax ay bx by' k x y : Int) : Prop := ∃ s, 0 ≤ s ∧ s ≤ k ∧ x = k * ax + s * (bx - ax) ∧ y = k * ay + s * (by' - ay)
def Common (ax ay bx by' cx cy dx dy : Int) : Prop := ∃ k x y, 0 < k ∧ Seg ax ay bx by' k x y ∧ Seg cx cy dx dy k x y
/-! ### Places on segments -/
/-! ### Common points -/
end Go.Proofs.Ytcjaembdcfppfaa
/- Plane geometry, no program: a place near a segment; segments close to each other. -/
namespace Go.Proofs.Ytcjaembdcfppfaa
open Go.RowKit

/-! ### How far a way within bounds goes -/
end Go.Proofs.Ytcjaembdcfppfaa
/- Plane geometry, no program: plane.Close tells segments that are close to each other. -/
namespace Go.Proofs.Ytcjaembdcfppfaa
open Go.RowKit

end Go.Proofs.Ytcjaembdcfppfaa
/- Plane geometry, no program: how often a ray crosses an edge changes along a segment as the ends of the edge tell. -/
namespace Go.Proofs.Ytcjaembdcfppfaa
open Go.RowKit

section
variable {ax ay bx by' px py qx qy : Int} (hn : meetB ax ay bx by' px py qx qy = false)
include hn
end
end Go.Proofs.Ytcjaembdcfppfaa
/- Plane geometry, no program: a box and a segment; a polygon and a segment that meets no edge. -/
namespace Go.Proofs.Ytcjaembdcfppfaa
open Go.RowKit

/-! ### Scaling -/
end Go.Proofs.Ytcjaembdcfppfaa
/- Plane geometry, no program: a polygon and a segment that meets no edge. -/
namespace Go.Proofs.Ytcjaembdcfppfaa
open Go.RowKit

def cx (r : Rows) (i : Nat) : Int := lg r (i : Int) 0
def cy (r : Rows) (i : Nat) : Int := lg r (i : Int) 1
theorem nearR_eq {a b c d e f r : Int} (h1 : placeB a b = true) (h2 : placeB c d = true) (h3 : placeB e f = true) (hr : 0 ≤ r ∧ r ≤ 3000000) :
    nearR [.i a, .i b, .i c, .i d, .i e, .i f, .i r] = nearB a b c d e f r ∧ nearE [.i a, .i b, .i c, .i d, .i e, .i f, .i r] = 0 := by
  have e1 : nearO [.i a, .i b, .i c, .i d, .i e, .i f, .i r] = (placeB a b && placeB c d && placeB e f && distB r) := rfl
  have e2 : nearL [.i a, .i b, .i c, .i d, .i e, .i f, .i r] = nearB a b c d e f r := rfl
  unfold nearR nearE
  rw [e1, e2, h1, h2, h3, show distB r = true by unfold distB; exact decide_eq_true hr]
  exact ⟨rfl, rfl⟩
end Go.Proofs.Ytcjaembdcfppfaa
/- Plane geometry, no program: the winding number of a simple polygon is -1, 0 or 1. -/
namespace Go.Proofs.Ytcjaembdcfppfaa
open Go.RowKit

/-! ### Sums -/
/-! ### Crossings with their signs -/
/-! ### Corners -/
end Go.Proofs.Ytcjaembdcfppfaa
/- Plane geometry, no program: along the border of a simple polygon the winding number beside it is one number. -/
namespace Go.Proofs.Ytcjaembdcfppfaa
open Go.RowKit

/-! ### Polygons -/
section
variable (X Y : Nat → Int) (n : Nat)
structure Simple : Prop where
  three : 3 ≤ n
  apart : ∀ i k, i < n → k < n → k ≠ i → k ≠ nxt n i → i ≠ nxt n k → meetB (X i) (Y i) (X (nxt n i)) (Y (nxt n i)) (X k) (Y k) (X (nxt n k)) (Y (nxt n k)) = false
  bend : ∀ i, i < n → crossI (X i) (Y i) (X (nxt n i)) (Y (nxt n i)) (X (nxt n (nxt n i))) (Y (nxt n (nxt n i))) ≠ 0
end
section
variable {X Y : Nat → Int} {n : Nat}
end
end Go.Proofs.Ytcjaembdcfppfaa
/- Plane geometry, no program: the winding number of a simple polygon is -1, 0 or 1. -/
namespace Go.Proofs.Ytcjaembdcfppfaa
open Go.RowKit

section
variable {X Y : Nat → Int} {n : Nat}
def Cr (Y : Nat → Int) (n : Nat) (h : Int) (k : Nat) : Prop := (Y k < h ∧ h < Y (nxt n k)) ∨ (Y (nxt n k) < h ∧ h < Y k)
/-! ### Any simple polygon -/
end
end Go.Proofs.Ytcjaembdcfppfaa
/- Plane geometry, no program: two polygons whose edges do not meet, and a place inside of both. -/
namespace Go.Proofs.Ytcjaembdcfppfaa
open Go.RowKit
section
variable {X Y : Nat → Int} {n : Nat}
end
end Go.Proofs.Ytcjaembdcfppfaa
/- Plane geometry: valid polygons are simple; the place in one is its winding number (no program). -/
namespace Go.Proofs.Ytcjaembdcfppfaa
open Go.RowKit
/-! ### The winding number -/
end Go.Proofs.Ytcjaembdcfppfaa
