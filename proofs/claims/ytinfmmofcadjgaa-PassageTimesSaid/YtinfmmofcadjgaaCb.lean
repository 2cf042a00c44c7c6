/- Chapter 38: what package plane computes, from the ground. -/
import Derived.Test.YtinfmmofcadjgaaTCb
set_option linter.unusedSimpArgs false
set_option linter.unusedVariables false
namespace Go.Proofs.Ytinfmmofcadjgaa
open Go.RowKit

def iAt (ds : List D) (k : Nat) : Int := (ds.getD k (.i 0)).int
def bAt (ds : List D) (k : Nat) : Bool := (ds.getD k (.i 0)).bool
def rAt (ds : List D) (k : Nat) : Rows := (ds.getD k (.i 0)).rows
theorem envOf_i (I : Interp) (W : World) (ds : List D) (k : Nat) : (envOf I W ds).i k = iAt ds k := rfl
theorem envOf_b (I : Interp) (W : World) (ds : List D) (k : Nat) : (envOf I W ds).b k = bAt ds k := rfl
theorem envOf_d (I : Interp) (W : World) (ds : List D) (k : Nat) : (envOf I W ds).d k = rAt ds k := rfl

theorem and_f (a b : Bool) : ((a && b) = false) = ¬ (a = true ∧ b = true) := by cases a <;> cases b <;> simp
/-- Cells of rows. -/
def lg (r : Rows) (i : Int) (j : Nat) : Int := (cellAt r i j).int
def lb (r : Rows) (i : Int) (j : Nat) : Bool := (cellAt r i j).bool
def lr (r : Rows) (i : Int) (j : Nat) : Rows := (cellAt r i j).rows
theorem cell_lg (r : Rows) (i : Int) (j : Nat) : (cellAt r i j).int = lg r i j := rfl
theorem cell_lb (r : Rows) (i : Int) (j : Nat) : (cellAt r i j).bool = lb r i j := rfl
theorem cell_lr (r : Rows) (i : Int) (j : Nat) : (cellAt r i j).rows = lr r i j := rfl
/-- A comparison as a proposition. -/
def cmpP (o : BinOp) (a b : Int) : Prop :=
  match o with
  | .eql => a = b | .neq => a ≠ b | .lss => a < b | .leq => a ≤ b | .gtr => b < a | .geq => b ≤ a | _ => False
theorem cmp_t (o : BinOp) (a b : Int) : (cmpEv o a b = true) = cmpP o a b := by cases o <;> simp [cmpEv, cmpP]
theorem cmp_f (o : BinOp) (a b : Int) : (cmpEv o a b = false) = ¬ cmpP o a b := by cases o <;> simp [cmpEv, cmpP]

def mostB : List D → Bool
  | [.i a, .i b, .i c, .i d] => decide (a * b ≤ c * d)
  | _ => false
/-- What the symbols stand for, on the ground. -/
def I0 : Interp := { fi := fun _ _ => 0, fb := fun n l => match n with | 0 => mostB l | _ => false, fd := fun _ _ => [] }

/-! ### plane.most -/
theorem gMost : GivesIf Try.prog 79 i4 (fun ds => (0 ≤ iAt ds 0 ∧ iAt ds 0 < 9223372036854775808) ∧ (0 ≤ iAt ds 1 ∧ iAt ds 1 < 9223372036854775808) ∧ (0 ≤ iAt ds 2 ∧ iAt ds 2 < 9223372036854775808) ∧ (0 ≤ iAt ds 3 ∧ iAt ds 3 < 9223372036854775808))
    (fun ds => .bool (decide (iAt ds 0 * iAt ds 1 ≤ iAt ds 2 * iAt ds 3))) := by
  intro W vals ds hr hok
  obtain ⟨v0, vs0, d0, ds0, rfl, rfl, ⟨e0, rfl, h0⟩, hr⟩ := hr
  obtain ⟨v1, vs1, d1, ds1, rfl, rfl, ⟨e1, rfl, h1⟩, hr⟩ := hr
  obtain ⟨v2, vs2, d2, ds2, rfl, rfl, ⟨e2, rfl, h2⟩, hr⟩ := hr
  obtain ⟨v3, vs3, d3, ds3, rfl, rfl, ⟨e3, rfl, h3⟩, rfl, rfl⟩ := hr
  unfold CK.rep at h0 h1 h2 h3
  obtain ⟨a, rfl, rfl⟩ := h0
  obtain ⟨b, rfl, rfl⟩ := h1
  obtain ⟨c, rfl, rfl⟩ := h2
  obtain ⟨d, rfl, rfl⟩ := h3
  obtain ⟨⟨q1, q2⟩, ⟨q3, q4⟩, ⟨q5, q6⟩, q7, q8⟩ := hok
  exact most_any a b c d W q1 q3 q5 q7 q2 q4 q6 q8
theorem nn_ok {ρ : Env} {e : E} (h : ∀ o ∈ nn e, o.ok ρ) : 0 ≤ e.ev ρ ∧ e.ev ρ < 9223372036854775808 := by
  have h1 := h _ (List.mem_cons_self ..)
  have h2 := h _ (List.mem_cons_of_mem _ (List.mem_cons_self ..))
  simp only [Ob.ok, B.cmpS_ev, cmp_t, cmpP, E.ev] at h1 h2
  exact ⟨h1, h2⟩
/-- The contract of plane.most holds wherever the symbol 0 stands for it. -/
theorem cMost_ok {ρ : Env} (h : ∀ l, ρ.fb 0 l = mostB l) : CtOne Try.prog ρ 79 cMost := by
  refine ctD_if gMost (fun al v hv => ?_)
  unfold oMost at hv
  split at hv
  · rename_i a b c d
    obtain ⟨ho, hv⟩ := T.res_obs hv
    obtain rfl := res_ret hv
    have n1 := nn_ok (fun o q => ho o (by simp only [List.mem_append]; exact .inl (.inl (.inl q))))
    have n2 := nn_ok (fun o q => ho o (by simp only [List.mem_append]; exact .inl (.inl (.inr q))))
    have n3 := nn_ok (fun o q => ho o (by simp only [List.mem_append]; exact .inl (.inr q)))
    have n4 := nn_ok (fun o q => ho o (by simp only [List.mem_append]; exact .inr q))
    refine ⟨rfl, ⟨n1, n2, n3, n4⟩, ?_⟩
    split
    · rfl
    · show Value.bool (ρ.fb 0 _) = _
      rw [h]
      simp only [AL.ev]
      rfl
  · exact hv.elim

/-! ### plane.Valid, plane.turn, plane.near -/
def placeB (x y : Int) : Bool := decide (-1000000 ≤ x ∧ x ≤ 1000000 ∧ -1000000 ≤ y ∧ y ≤ 1000000)
theorem ct0_ok {ρ : Env} (h : ρ.has I0) : CtOk Try.prog ρ ct0 := .cons (cMost_ok (fun l => by rw [h.2.1]; rfl)) .nil
theorem gValid : Gives Try.prog 38 [pt] (fun ds => .bool (placeB (iAt ds 0) (iAt ds 1))) := by
  refine GivesIf.all (fn_gives I0 (by kernel_rfl) (fun ρ h => ct0_ok h) (by kernel_rfl) trValid_is trValid_low (by decide) (fun W vals ds _ _ => ?_))
  simp only [trValid, TT.sat_ret, TT.sat_ite, B.ev, E.ev, cmp_t, cmp_f, V.plain, V2.plain, S.plain, S0.plain, V.val, V2.val, S.val, S0.val, envOf_i, true_and, cmpP]
  refine ⟨fun h => congrArg Value.bool ?_, fun h => congrArg Value.bool ?_⟩
  · rw [Bool.eq_iff_iff, cmp_t]
    simp only [cmpP, placeB, decide_eq_true_eq]
    omega
  · rw [Bool.eq_iff_iff]
    simp only [placeB, decide_eq_true_eq, Bool.false_eq_true, false_iff]
    omega
/-- Twice the area of a triangle, and its sign. -/
def crossI (ax ay bx by' cx cy : Int) : Int := (bx - ax) * (cy - ay) - (by' - ay) * (cx - ax)
def sgn (n : Int) : Int := if n < 0 then -1 else if n > 0 then 1 else 0
def turnI (ax ay bx by' cx cy : Int) : Int := sgn (crossI ax ay bx by' cx cy)
theorem wrap_in (n : Int) (h1 : -9223372036854775808 ≤ n) (h2 : n < 9223372036854775808) : IntKind.i64.wrap n = n := IntWalk.i64_in _ (by omega)
theorem mul_abs {a b A B : Int} (ha : -A ≤ a) (ha' : a ≤ A) (hb : -B ≤ b) (hb' : b ≤ B) : -(A * B) ≤ a * b ∧ a * b ≤ A * B := by
  have hA : 0 ≤ A := by omega
  have hB : 0 ≤ B := by omega
  have h1 : 0 ≤ (A - a) * (B + b) := Int.mul_nonneg (by omega) (by omega)
  have h2 : 0 ≤ (A + a) * (B - b) := Int.mul_nonneg (by omega) (by omega)
  have h3 : 0 ≤ (A - a) * (B - b) := Int.mul_nonneg (by omega) (by omega)
  have h4 : 0 ≤ (A + a) * (B + b) := Int.mul_nonneg (by omega) (by omega)
  simp only [Int.sub_mul, Int.add_mul, Int.mul_sub, Int.mul_add] at h1 h2 h3 h4
  omega
/-- Coordinates' differences, products, sums of two. -/
theorem w_sub {a b : Int} (ha : -1000000 ≤ a ∧ a ≤ 1000000) (hb : -1000000 ≤ b ∧ b ≤ 1000000) : IntKind.i64.wrap (a - b) = a - b := wrap_in _ (by omega) (by omega)
theorem w_mul {a b c d : Int} (ha : -1000000 ≤ a ∧ a ≤ 1000000) (hb : -1000000 ≤ b ∧ b ≤ 1000000) (hc : -1000000 ≤ c ∧ c ≤ 1000000) (hd : -1000000 ≤ d ∧ d ≤ 1000000) :
    IntKind.i64.wrap ((a - b) * (c - d)) = (a - b) * (c - d) ∧ -4000000000000 ≤ (a - b) * (c - d) ∧ (a - b) * (c - d) ≤ 4000000000000 := by
  have := mul_abs (a := a - b) (b := c - d) (A := 2000000) (B := 2000000) (by omega) (by omega) (by omega) (by omega)
  exact ⟨wrap_in _ (by omega) (by omega), by omega, by omega⟩
theorem w_mul1 {a b c d : Int} (ha : -1000000 ≤ a ∧ a ≤ 1000000) (hb : -1000000 ≤ b ∧ b ≤ 1000000) (hc : -1000000 ≤ c ∧ c ≤ 1000000) (hd : -1000000 ≤ d ∧ d ≤ 1000000) :
    IntKind.i64.wrap ((a - b) * (c - d)) = (a - b) * (c - d) := (w_mul ha hb hc hd).1
theorem w_add {a b c d e f g h : Int} (ha : -1000000 ≤ a ∧ a ≤ 1000000) (hb : -1000000 ≤ b ∧ b ≤ 1000000) (hc : -1000000 ≤ c ∧ c ≤ 1000000) (hd : -1000000 ≤ d ∧ d ≤ 1000000)
    (he : -1000000 ≤ e ∧ e ≤ 1000000) (hf : -1000000 ≤ f ∧ f ≤ 1000000) (hg : -1000000 ≤ g ∧ g ≤ 1000000) (hh : -1000000 ≤ h ∧ h ≤ 1000000) :
    IntKind.i64.wrap ((a - b) * (c - d) + (e - f) * (g - h)) = (a - b) * (c - d) + (e - f) * (g - h) := by
  have := w_mul ha hb hc hd
  have := w_mul he hf hg hh
  exact wrap_in _ (by omega) (by omega)
theorem w_crs {a b c d e f g h : Int} (ha : -1000000 ≤ a ∧ a ≤ 1000000) (hb : -1000000 ≤ b ∧ b ≤ 1000000) (hc : -1000000 ≤ c ∧ c ≤ 1000000) (hd : -1000000 ≤ d ∧ d ≤ 1000000)
    (he : -1000000 ≤ e ∧ e ≤ 1000000) (hf : -1000000 ≤ f ∧ f ≤ 1000000) (hg : -1000000 ≤ g ∧ g ≤ 1000000) (hh : -1000000 ≤ h ∧ h ≤ 1000000) :
    IntKind.i64.wrap ((a - b) * (c - d) - (e - f) * (g - h)) = (a - b) * (c - d) - (e - f) * (g - h) ∧ IntKind.i64.wrap (0 - ((a - b) * (c - d) - (e - f) * (g - h))) = 0 - ((a - b) * (c - d) - (e - f) * (g - h)) := by
  have := w_mul ha hb hc hd
  have := w_mul he hf hg hh
  exact ⟨wrap_in _ (by omega) (by omega), wrap_in _ (by omega) (by omega)⟩
theorem w_sq {d : Int} (hd : 0 ≤ d ∧ d ≤ 3000000) : IntKind.i64.wrap (d * d) = d * d ∧ 0 ≤ d * d ∧ d * d ≤ 9000000000000 := by
  have := mul_abs (a := d) (b := d) (A := 3000000) (B := 3000000) (by omega) (by omega) (by omega) (by omega)
  exact ⟨wrap_in _ (by omega) (by omega), Int.mul_nonneg hd.1 hd.1, by omega⟩
theorem sq_nn (a : Int) : 0 ≤ a * a := by
  rcases Int.le_total 0 a with h | h
  · exact Int.mul_nonneg h h
  · have e : a * a = (-a) * (-a) := by rw [Int.neg_mul_neg]
    rw [e]
    exact Int.mul_nonneg (by omega) (by omega)
def dotI (ax ay bx by' cx cy : Int) : Int := (bx - ax) * (cx - ax) + (by' - ay) * (cy - ay)
def dist2 (ax ay bx by' : Int) : Int := (bx - ax) * (bx - ax) + (by' - ay) * (by' - ay)
/-- Is a place at most d from a segment? -/
def nearB (px py ax ay bx by' d : Int) : Bool :=
  if dotI ax ay bx by' px py ≤ 0 then decide (dist2 ax ay px py ≤ d * d)
  else if dist2 ax ay bx by' ≤ dotI ax ay bx by' px py then decide (dist2 bx by' px py ≤ d * d)
  else decide (crossI ax ay bx by' px py * crossI ax ay bx by' px py ≤ d * d * dist2 ax ay bx by')
def six (ds : List D) : Prop := (-1000000 ≤ iAt ds 0 ∧ iAt ds 0 ≤ 1000000) ∧ (-1000000 ≤ iAt ds 1 ∧ iAt ds 1 ≤ 1000000) ∧ (-1000000 ≤ iAt ds 2 ∧ iAt ds 2 ≤ 1000000) ∧ (-1000000 ≤ iAt ds 3 ∧ iAt ds 3 ≤ 1000000) ∧ (-1000000 ≤ iAt ds 4 ∧ iAt ds 4 ≤ 1000000) ∧ (-1000000 ≤ iAt ds 5 ∧ iAt ds 5 ≤ 1000000)
theorem gTurn0 : GivesIf Try.prog 88 [pt, pt, pt] six (fun ds => .int .i64 (turnI (iAt ds 0) (iAt ds 1) (iAt ds 2) (iAt ds 3) (iAt ds 4) (iAt ds 5))) := by
  refine fn_gives I0 (by kernel_rfl) (fun ρ h => ct0_ok h) (by kernel_rfl) trTurn0_is trTurn0_low (by decide) (fun W vals ds _ hok => ?_)
  obtain ⟨h0, h1, h2, h3, h4, h5⟩ := hok
  simp only [trTurn0, TT.sat_ret, TT.sat_ite, B.ev, E.ev, cmp_t, cmp_f, arEv, V.plain, V2.plain, S.plain, S0.plain, V.val, V2.val, S.val, S0.val, envOf_i, true_and, cmpP]
  rw [w_sub h2 h0, w_sub h5 h1, w_sub h3 h1, w_sub h4 h0, (w_mul h2 h0 h5 h1).1, (w_mul h3 h1 h4 h0).1, wrap_in _ (by have := w_mul h2 h0 h5 h1; have := w_mul h3 h1 h4 h0; omega) (by have := w_mul h2 h0 h5 h1; have := w_mul h3 h1 h4 h0; omega)]
  refine ⟨fun h => ?_, fun h => ⟨fun h' => ?_, fun h' => ?_⟩⟩
  all_goals
    simp only [turnI, sgn, crossI]
    congr 1
    (repeat' split) <;> omega
theorem mx_sq (c : Int) : max c (0 - c) * max c (0 - c) = c * c := by
  rcases Int.le_total 0 c with h | h
  · rw [show max c (0 - c) = c by omega]
  · rw [show max c (0 - c) = -c by omega, Int.neg_mul_neg]
theorem mostB4 (a b c d : Int) : I0.fb 0 [.i a, .i b, .i c, .i d] = decide (a * b ≤ c * d) := rfl
theorem gNear0 : GivesIf Try.prog 56 [pt, pt, pt, it] (fun ds => six ds ∧ 0 ≤ iAt ds 6 ∧ iAt ds 6 ≤ 3000000) (fun ds => .bool (nearB (iAt ds 0) (iAt ds 1) (iAt ds 2) (iAt ds 3) (iAt ds 4) (iAt ds 5) (iAt ds 6))) := by
  refine fn_gives I0 (by kernel_rfl) (fun ρ h => ct0_ok h) (by kernel_rfl) trNear0_is trNear0_low (by decide) (fun W vals ds _ hok => ?_)
  obtain ⟨⟨h0, h1, h2, h3, h4, h5⟩, h6⟩ := hok
  simp only [trNear0, TT.sat_ret, TT.sat_ite, TT.sat_ob, Ob.ok, B.ev, E.ev, AL.ev, cmp_t, cmp_f, arEv, V.plain, V2.plain, S.plain, S0.plain, V.val, V2.val, S.val, S0.val, envOf_i, true_and, cmpP]
  have c0 := w_sq h6
  have d1 := w_mul h0 h2 h0 h2
  have d2 := w_mul h1 h3 h1 h3
  have d3 := w_mul h0 h4 h0 h4
  have d4 := w_mul h1 h5 h1 h5
  have d5 := w_mul h4 h2 h4 h2
  have d6 := w_mul h5 h3 h5 h3
  have d7 := w_mul h4 h2 h1 h3
  have d8 := w_mul h5 h3 h0 h2
  have n1 := sq_nn (iAt ds 0 - iAt ds 2)
  have n2 := sq_nn (iAt ds 1 - iAt ds 3)
  have n3 := sq_nn (iAt ds 0 - iAt ds 4)
  have n4 := sq_nn (iAt ds 1 - iAt ds 5)
  have n5 := sq_nn (iAt ds 4 - iAt ds 2)
  have n6 := sq_nn (iAt ds 5 - iAt ds 3)
  simp only [w_sub h4 h2, w_sub h0 h2, w_sub h5 h3, w_sub h1 h3, w_sub h0 h4, w_sub h1 h5, w_mul1 h4 h2 h0 h2, w_mul1 h5 h3 h1 h3, d1.1, d2.1, d3.1, d4.1, d5.1, d6.1, d7.1, d8.1, w_add h4 h2 h0 h2 h5 h3 h1 h3,
    w_add h0 h2 h0 h2 h1 h3 h1 h3, w_add h0 h4 h0 h4 h1 h5 h1 h5, w_add h4 h2 h4 h2 h5 h3 h5 h3, (w_crs h4 h2 h1 h3 h5 h3 h0 h2).1, (w_crs h4 h2 h1 h3 h5 h3 h0 h2).2, c0.1, mx_sq,
    show (envOf I0 W ds).fb = I0.fb from rfl, mostB4, Int.mul_one]
  refine ⟨fun h => ⟨?_, ?_, ?_, ?_, ?_⟩, fun h => ⟨fun h' => ⟨?_, ?_, ?_, ?_, ?_⟩, fun h' => ⟨?_, ?_, ?_, ?_, ?_, ?_, ?_, ?_, ?_⟩⟩⟩
  case refine_5 => unfold nearB dotI dist2; rw [if_pos h]
  case refine_10 => unfold nearB dotI dist2; rw [if_neg h, if_pos h']
  case refine_19 => unfold nearB dotI dist2 crossI; rw [if_neg h, if_neg h']
  all_goals omega
end Go.Proofs.Ytinfmmofcadjgaa
