/- Chapter 38: when a ship is where; contract of passage.Valid. -/
import Derived.Test.YtinfmmofcadjgaaCe
set_option linter.unusedSimpArgs false
set_option linter.unusedVariables false
namespace Go.Proofs.Ytinfmmofcadjgaa
open Go.RowKit

def dl (r : Rows) (i : Int) : List D := [.i (lg r i 0), .i (lg r i 1), .i (lg r i 2), .i (lg r i 3)]
/-- How long a leg lasts, at least and at most. -/
def legLo (r : Rows) (i : Int) : Int := (distIL (dl r i)).tdiv (lg r i 5)
def legHi (r : Rows) (i : Int) : Int := (distIH (dl r i) + lg r i 4 - 1).tdiv (lg r i 4)
/-- When the ship is at the beginning of a leg. -/
def tLo (r : Rows) (lo : Int) : Nat → Int | 0 => lo | k + 1 => tLo r lo k + legLo r k
def tHi (r : Rows) (hi : Int) : Nat → Int | 0 => hi | k + 1 => tHi r hi k + legHi r k
theorem distI_le {ds : List D} (h : four4 ds = true) : 0 ≤ distIL ds ∧ distIL ds ≤ 2828427 ∧ distIL ds ≤ distIH ds ∧ distIH ds ≤ distIL ds + 1 ∧ distIL ds * distIL ds ≤ dist2 (iAt ds 0) (iAt ds 1) (iAt ds 2) (iAt ds 3) ∧ dist2 (iAt ds 0) (iAt ds 1) (iAt ds 2) (iAt ds 3) ≤ distIH ds * distIH ds := by
  have h' := h
  simp only [four4, Bool.and_eq_true] at h'
  have hd := dist2_le h'.1 h'.2
  obtain ⟨r1, r2, r3⟩ := rootN_spec 23 0 (dist2 (iAt ds 0) (iAt ds 1) (iAt ds 2) (iAt ds 3)) (by omega) (by omega) (by simp; omega)
  have e : distIL ds = rootN 23 0 (dist2 (iAt ds 0) (iAt ds 1) (iAt ds 2) (iAt ds 3)) := by simp only [distIL, h, if_true, distLo, rootI]
  have hle : distIL ds ≤ 2828427 := by
    rw [e]
    rcases Int.lt_or_le 2828427 (rootN 23 0 (dist2 (iAt ds 0) (iAt ds 1) (iAt ds 2) (iAt ds 3))) with q | q
    · have := Int.mul_le_mul (show (2828428 : Int) ≤ rootN 23 0 (dist2 (iAt ds 0) (iAt ds 1) (iAt ds 2) (iAt ds 3)) by omega) (show (2828428 : Int) ≤ rootN 23 0 (dist2 (iAt ds 0) (iAt ds 1) (iAt ds 2) (iAt ds 3)) by omega) (by omega) (by omega)
      omega
    · exact q
  have eh : distIH ds = if distIL ds * distIL ds = dist2 (iAt ds 0) (iAt ds 1) (iAt ds 2) (iAt ds 3) then distIL ds else distIL ds + 1 := by
    simp only [distIH, distIL, h, if_true, distHi]
  rw [← e] at r1 r2 r3
  refine ⟨r1, hle, ?_, ?_, r2, ?_⟩ <;> rw [eh] <;> split <;> omega
theorem legB_iff {r : Rows} {i : Int} : legB r i = true ↔ (placeB (lg r i 0) (lg r i 1) = true ∧ placeB (lg r i 2) (lg r i 3) = true) ∧ ¬ (lg r i 0 = lg r i 2 ∧ lg r i 1 = lg r i 3) ∧ 1 ≤ lg r i 4 ∧ lg r i 4 ≤ lg r i 5 ∧ lg r i 5 ≤ 2000 := by
  simp only [legB, Bool.and_eq_true, decide_eq_true_eq]
theorem legsFrom_spec {r : Rows} : ∀ (f : Nat) (i : Nat) (x y : Int), legsFrom r f i x y = true → ∀ k, k < f → legB r ((i + k : Nat) : Int) = true
  | 0, _, _, _, _, k, hk => by omega
  | f + 1, i, x, y, h, k, hk => by
    simp only [legsFrom, Bool.and_eq_true] at h
    cases k with
    | zero => exact h.1.1
    | succ k =>
      have := legsFrom_spec f (i + 1) _ _ h.2 k (by omega)
      rw [show i + (k + 1) = i + 1 + k by omega]
      exact this
theorem psgB_iff {lo hi off : Int} {r : Rows} (h : psgB lo hi off r = true) : (0 ≤ lo ∧ lo ≤ 10000000) ∧ (0 ≤ hi ∧ hi ≤ 10000000) ∧ (lo ≤ hi ∧ 0 ≤ off ∧ off ≤ 100000 ∧ 1 ≤ r.length ∧ r.length ≤ 40) ∧ ∀ i : Nat, i < r.length → legB r i = true := by
  simp only [psgB, timeB, Bool.and_eq_true, decide_eq_true_eq] at h
  obtain ⟨⟨⟨h1, h2⟩, h3⟩, h4⟩ := h
  refine ⟨h1, h2, h3, fun i hi => ?_⟩
  have := legsFrom_spec _ 0 _ _ h4 i hi
  simpa using this
theorem tdiv_le {a b : Int} (ha : 0 ≤ a) (hb : 1 ≤ b) : 0 ≤ a.tdiv b ∧ a.tdiv b ≤ a := by
  obtain ⟨n, rfl⟩ := Int.eq_ofNat_of_zero_le ha
  obtain ⟨m, rfl⟩ := Int.eq_ofNat_of_zero_le (show 0 ≤ b by omega)
  have e : ((n : Int)).tdiv (m : Int) = ((n / m : Nat) : Int) := rfl
  rw [e]
  exact ⟨Int.natCast_nonneg _, Int.ofNat_le.2 (Nat.div_le_self n m)⟩
theorem leg_le {r : Rows} {i : Int} (h : legB r i = true) : 0 ≤ legLo r i ∧ legLo r i ≤ 2828427 ∧ 0 ≤ legHi r i ∧ legHi r i ≤ 2830428 ∧ 0 ≤ distIH (dl r i) ∧ distIH (dl r i) ≤ 2828428 ∧ 0 ≤ distIL (dl r i) ∧ distIL (dl r i) ≤ 2828427 := by
  rw [legB_iff] at h
  obtain ⟨⟨h1, h2⟩, _, h4, h5, h6⟩ := h
  have h4' : four4 (dl r i) = true := by simp only [four4, Bool.and_eq_true]; exact ⟨h1, h2⟩
  obtain ⟨d1, d2, d3, d4, _⟩ := distI_le h4'
  have q1 := tdiv_le (a := distIL (dl r i)) (b := lg r i 5) d1 (by omega)
  have q2 := tdiv_le (a := distIH (dl r i) + lg r i 4 - 1) (b := lg r i 4) (by omega) h4
  unfold legLo legHi
  omega
theorem t_le {r : Rows} {lo hi : Int} (h : ∀ i : Nat, i < r.length → legB r i = true) (hn : r.length ≤ 40) (hl : 0 ≤ lo ∧ lo ≤ 10000000) (hh : 0 ≤ hi ∧ hi ≤ 10000000) : ∀ k : Nat, k ≤ r.length → 0 ≤ tLo r lo k ∧ tLo r lo k ≤ 10000000 + 2828427 * k ∧ 0 ≤ tHi r hi k ∧ tHi r hi k ≤ 10000000 + 2830428 * k
  | 0, _ => by simp only [tLo, tHi]; omega
  | k + 1, hk => by
    have := t_le h hn hl hh k (by omega)
    have := leg_le (h k (by omega))
    simp only [tLo, tHi]
    omega
/-- Symbols: fb 20 passage.Valid; fi 10 to 12 Dist; fb 3 a valid place. -/
def I3 : Interp := { fi := fun n l => match n with | 10 => distIL l | 11 => distIH l | 12 => distIE l | _ => 0, fb := fun n l => match n with | 3 => placeL l | 20 => psgL l | _ => false, fd := fun _ _ => [] }
def cPV := ctD [psg] fun al => .ret (bV (.fn 20 al))
theorem cPV_ok {ρ : Env} (h : ∀ l, ρ.fb 20 l = psgL l) : CtOne Try.prog ρ 11 cPV :=
  ctD_ok gPValid (fun _ => rfl) (fun al => by simp only [bV, V.s0, V.val, V2.val, S.val, S0.val, B.ev, h])
def ct3 : Ct := [(38, cPlace), (51, cDist), (11, cPV)]
theorem ct3_ok {ρ : Env} (h : ρ.has I3) : CtOk Try.prog ρ ct3 :=
  .cons (cPlace_ok (fun l => by rw [h.2.1]; rfl)) <| .cons (cDist_ok (fun l => by rw [h.1]; rfl) (fun l => by rw [h.1]; rfl) (fun l => by rw [h.1]; rfl)) <| .cons (cPV_ok (fun l => by rw [h.2.1]; rfl)) .nil
end Go.Proofs.Ytinfmmofcadjgaa
