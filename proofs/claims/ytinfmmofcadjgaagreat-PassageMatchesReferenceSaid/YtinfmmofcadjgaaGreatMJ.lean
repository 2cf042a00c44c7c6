/- MJ, merged: TRa, Ra, Rb, TRc, Rc, Rd, TRe, Re, Rf. -/
import Derived.Test.YtinfmmofcadjgaaGreatMH
import Derived.Test.YtinfmmofcadjgaaGreatMI
set_option linter.unusedSimpArgs false
set_option linter.unusedVariables false
/- Chapter 38: trees of the reference of layer 1. -/
namespace Go.Proofs.YtinfmmofcadjgaaGreat
open Go.RowKit
-- term trR1V: call Tryz.prog [] [] 100 28 (symArgs 0 [pt]) [] 0
def trR1V : TT OpR :=
(.ite (.cmp .geq (.var 0) (.lit (-1000000)))
  (.ite (.cmp .leq (.var 0) (.lit 1000000))
    (.ite (.cmp .geq (.var 1) (.lit (-1000000)))
      (.ret ((.v (.one (.z (.bool (.cmp .leq (.var 1) (.lit 1000000)))))), [], 1))
      (.ret ((.v (.one (.z (.bool (.lit false))))), [], 1)))
    (.ret ((.v (.one (.z (.bool (.lit false))))), [], 1)))
  (.ret ((.v (.one (.z (.bool (.lit false))))), [], 1)))
-- end trR1V
set_option maxRecDepth 100000 in
theorem trR1V_is : T.norm 0 (call Tryz.prog [] [] 100 28 (symArgs 0 [pt]) [] 0) TT.ret = trR1V := by kernel_rfl
theorem trR1V_low : trR1V.low 1000 = true := by kernel_rfl
-- term trR1Lie: call Tryz.prog [] [] 100 128 (symArgs 0 [pt, pt, pt]) [] 0
def trR1Lie : TT OpR :=
(.ite (.cmp .neq (.ar .sub .i64 (.ar .mul .i64 (.ar .sub .i64 (.var 4) (.var 2)) (.ar .sub .i64 (.var 1) (.var 3))) (.ar .mul .i64 (.ar .sub .i64 (.var 5) (.var 3)) (.ar .sub .i64 (.var 0) (.var 2)))) (.lit 0))
  (.ret ((.v (.one (.z (.bool (.lit false))))), [], 11))
  (.ite (.cmp .geq (.var 0) (.mn (.var 2) (.var 4)))
    (.ite (.cmp .leq (.var 0) (.mx (.var 2) (.var 4)))
      (.ite (.cmp .geq (.var 1) (.mn (.var 3) (.var 5)))
        (.ret ((.v (.one (.z (.bool (.cmp .leq (.var 1) (.mx (.var 3) (.var 5))))))), [], 11))
        (.ret ((.v (.one (.z (.bool (.lit false))))), [], 11)))
      (.ret ((.v (.one (.z (.bool (.lit false))))), [], 11)))
    (.ret ((.v (.one (.z (.bool (.lit false))))), [], 11))))
-- end trR1Lie
set_option maxRecDepth 100000 in
theorem trR1Lie_is : T.norm 0 (call Tryz.prog [] [] 100 128 (symArgs 0 [pt, pt, pt]) [] 0) TT.ret = trR1Lie := by kernel_rfl
theorem trR1Lie_low : trR1Lie.low 1000 = true := by kernel_rfl
-- term trR1Sign: call Tryz.prog [] [] 100 124 (symArgs 0 [it]) [] 0
def trR1Sign : TT OpR :=
(.ite (.cmp .gtr (.var 0) (.lit 0))
  (.ret ((.v (.one (.z (.int .i64 (.lit 1))))), [], 0))
  (.ite (.cmp .lss (.var 0) (.lit 0))
    (.ret ((.v (.one (.z (.int .i64 (.lit (-1)))))), [], 0))
    (.ret ((.v (.one (.z (.int .i64 (.lit 0))))), [], 0))))
-- end trR1Sign
set_option maxRecDepth 100000 in
theorem trR1Sign_is : T.norm 0 (call Tryz.prog [] [] 100 124 (symArgs 0 [it]) [] 0) TT.ret = trR1Sign := by kernel_rfl
theorem trR1Sign_low : trR1Sign.low 1000 = true := by kernel_rfl
-- term trR1Times: call Tryz.prog [] [] 100 81 (symArgs 0 [it, it]) [] 0
def trR1Times : TT OpR :=
(.ret ((.v (.agg [(.z (.int .i64 (.ar .add .i64 (.ar .add .i64 (.ar .mul .i64 (.ar .quo .i64 (.var 0) (.lit 4194304)) (.ar .quo .i64 (.var 1) (.lit 4194304))) (.ar .quo .i64 (.ar .add .i64 (.ar .mul .i64 (.ar .quo .i64 (.var 0) (.lit 4194304)) (.ar .rem .i64 (.var 1) (.lit 4194304))) (.ar .mul .i64 (.ar .rem .i64 (.var 0) (.lit 4194304)) (.ar .quo .i64 (.var 1) (.lit 4194304)))) (.lit 4194304))) (.ar .quo .i64 (.ar .add .i64 (.ar .mul .i64 (.ar .rem .i64 (.var 0) (.lit 4194304)) (.ar .rem .i64 (.var 1) (.lit 4194304))) (.ar .mul .i64 (.ar .rem .i64 (.ar .add .i64 (.ar .mul .i64 (.ar .quo .i64 (.var 0) (.lit 4194304)) (.ar .rem .i64 (.var 1) (.lit 4194304))) (.ar .mul .i64 (.ar .rem .i64 (.var 0) (.lit 4194304)) (.ar .quo .i64 (.var 1) (.lit 4194304)))) (.lit 4194304)) (.lit 4194304))) (.lit 17592186044416))))), (.z (.int .i64 (.ar .rem .i64 (.ar .add .i64 (.ar .mul .i64 (.ar .rem .i64 (.var 0) (.lit 4194304)) (.ar .rem .i64 (.var 1) (.lit 4194304))) (.ar .mul .i64 (.ar .rem .i64 (.ar .add .i64 (.ar .mul .i64 (.ar .quo .i64 (.var 0) (.lit 4194304)) (.ar .rem .i64 (.var 1) (.lit 4194304))) (.ar .mul .i64 (.ar .rem .i64 (.var 0) (.lit 4194304)) (.ar .quo .i64 (.var 1) (.lit 4194304)))) (.lit 4194304)) (.lit 4194304))) (.lit 17592186044416))))])), [], 1))
-- end trR1Times
set_option maxRecDepth 100000 in
theorem trR1Times_is : T.norm 0 (call Tryz.prog [] [] 100 81 (symArgs 0 [it, it]) [] 0) TT.ret = trR1Times := by kernel_rfl
theorem trR1Times_low : trR1Times.low 1000 = true := by kernel_rfl
-- term trR1Root: call Tryz.prog [] [] 100 54 (symArgs 0 [it]) [] 0
def trR1Root : TT OpR :=
(.loop 0 1000 ⟨[(0, (.lit 0)), (1, (.lit 4000000))], [], []⟩
  (.ite (.cmp .gtr (.ar .sub .i64 (.var 1001) (.var 1000)) (.lit 1))
    (.ite (.cmp .leq (.ar .mul .i64 (.ar .quo .i64 (.ar .add .i64 (.var 1000) (.var 1001)) (.lit 2)) (.ar .quo .i64 (.ar .add .i64 (.var 1000) (.var 1001)) (.lit 2))) (.var 0))
      (.next 0 ⟨[(0, (.ar .quo .i64 (.ar .add .i64 (.var 1000) (.var 1001)) (.lit 2))), (1, (.var 1001))], [], []⟩)
      (.next 0 ⟨[(0, (.var 1000)), (1, (.ar .quo .i64 (.ar .add .i64 (.var 1000) (.var 1001)) (.lit 2)))], [], []⟩))
    (.ret ((.v (.one (.z (.int .i64 (.var 1000))))), [], 1))))
-- end trR1Root
set_option maxRecDepth 100000 in
theorem trR1Root_is : T.norm 0 (call Tryz.prog [] [] 100 54 (symArgs 0 [it]) [] 0) TT.ret = trR1Root := by kernel_rfl
theorem trR1Root_low : trR1Root.low 1000 = true := by kernel_rfl
end Go.Proofs.YtinfmmofcadjgaaGreat
/- Chapter 38: what the reference of layer 1 answers, part one. -/
namespace Go.Proofs.YtinfmmofcadjgaaGreat
open Go.RowKit
theorem gR1V : Gives Tryz.prog 28 [pt] (fun ds => .bool (placeL ds)) := by
  refine GivesIf.all (fn_gives KG (by kernel_rfl) (fun ρ h => .nil) (by kernel_rfl) trR1V_is trR1V_low (by decide) (fun W vals ds _ _ => ?_))
  simp only [trR1V, TT.sat_ret, TT.sat_ite, TT.sat_ob, TT.sat_next, TT.sat_stuck, put_i, put_b, put_d, put_fi, put_fb, put_fd, Ob.ok, B.ev, E.ev, X.ev, AL.ev, cmp_t, cmp_f, arEv, V.plain, V2.plain, S.plain, S0.plain, V.val, V2.val, S.val, S0.val, bV, iV, List.all_cons, List.all_nil, Bool.and_true, Bool.and_self, envOf_i, envOf_b, envOf_d, List.map_cons, List.map_nil, true_and, Bool.not_eq_true', Bool.not_eq_false', Bool.not_not, Bool.and_eq_true, and_f, cell_lg, cell_lb, cell_lr, cmpP, val_i, val_b, val_d, aget, Nat.reduceBEq, beq_self_eq_true, Bool.false_eq_true, if_true, if_false, Nat.reduceLT, Nat.reduceSub, Nat.sub_self, Nat.lt_irrefl]
  simp only [placeL, placeB]
  refine ⟨fun h => ⟨fun h' => ⟨fun h'' => ?_, fun h'' => ?_⟩, fun h' => ?_⟩, fun h => ?_⟩
  all_goals (congr 1; rw [Bool.eq_iff_iff]; try rw [cmp_t])
  all_goals (simp only [cmpP, decide_eq_true_eq, Bool.false_eq_true, false_iff]; omega)
theorem gR1Lie : GivesIf Tryz.prog 128 [pt, pt, pt] (fun ds => six6 ds = true) (fun ds => .bool (onL ds)) := by
  refine fn_gives KG (by kernel_rfl) (fun ρ h => .nil) (by kernel_rfl) trR1Lie_is trR1Lie_low (by decide) (fun W vals ds _ hok => ?_)
  obtain ⟨h0, h1, h2, h3, h4, h5⟩ := six_of hok
  simp only [trR1Lie, TT.sat_ret, TT.sat_ite, TT.sat_ob, TT.sat_next, TT.sat_stuck, put_i, put_b, put_d, put_fi, put_fb, put_fd, Ob.ok, B.ev, E.ev, X.ev, AL.ev, cmp_t, cmp_f, arEv, V.plain, V2.plain, S.plain, S0.plain, V.val, V2.val, S.val, S0.val, bV, iV, List.all_cons, List.all_nil, Bool.and_true, Bool.and_self, envOf_i, envOf_b, envOf_d, List.map_cons, List.map_nil, true_and, Bool.not_eq_true', Bool.not_eq_false', Bool.not_not, Bool.and_eq_true, and_f, cell_lg, cell_lb, cell_lr, cmpP, val_i, val_b, val_d, aget, Nat.reduceBEq, beq_self_eq_true, Bool.false_eq_true, if_true, if_false, Nat.reduceLT, Nat.reduceSub, Nat.sub_self, Nat.lt_irrefl]
  rw [w_sub h4 h2, w_sub h1 h3, w_sub h5 h3, w_sub h0 h2, (w_mul h4 h2 h1 h3).1, (w_mul h5 h3 h0 h2).1, (w_crs h4 h2 h1 h3 h5 h3 h0 h2).1]
  simp only [onL, onB, turnI, sgn0, crossI]
  refine ⟨fun h => ?_, fun h => ⟨fun h1 => ⟨fun h2 => ⟨fun h3 => ?_, fun h3 => ?_⟩, fun h2 => ?_⟩, fun h1 => ?_⟩⟩
  all_goals (congr 1; rw [Bool.eq_iff_iff]; try rw [cmp_t])
  all_goals (simp only [cmpP, decide_eq_true_eq, Bool.false_eq_true, false_iff]; omega)
def sgnL (ds : List D) : Int := sgn (iAt ds 0)
theorem gR1Sign : Gives Tryz.prog 124 [it] (fun ds => .int .i64 (sgnL ds)) := by
  refine GivesIf.all (fn_gives KG (by kernel_rfl) (fun ρ h => .nil) (by kernel_rfl) trR1Sign_is trR1Sign_low (by decide) (fun W vals ds _ _ => ?_))
  simp only [trR1Sign, TT.sat_ret, TT.sat_ite, TT.sat_ob, TT.sat_next, TT.sat_stuck, put_i, put_b, put_d, put_fi, put_fb, put_fd, Ob.ok, B.ev, E.ev, X.ev, AL.ev, cmp_t, cmp_f, arEv, V.plain, V2.plain, S.plain, S0.plain, V.val, V2.val, S.val, S0.val, bV, iV, List.all_cons, List.all_nil, Bool.and_true, Bool.and_self, envOf_i, envOf_b, envOf_d, List.map_cons, List.map_nil, true_and, Bool.not_eq_true', Bool.not_eq_false', Bool.not_not, Bool.and_eq_true, and_f, cell_lg, cell_lb, cell_lr, cmpP, val_i, val_b, val_d, aget, Nat.reduceBEq, beq_self_eq_true, Bool.false_eq_true, if_true, if_false, Nat.reduceLT, Nat.reduceSub, Nat.sub_self, Nat.lt_irrefl]
  simp only [sgnL, sgn]
  refine ⟨fun h => ?_, fun h => ⟨fun h' => ?_, fun h' => ?_⟩⟩
  all_goals (congr 1; (repeat' split) <;> omega)
/-- A product's upper and lower part. -/
def timH (ds : List D) : Int := iAt ds 0 * iAt ds 1 / 17592186044416
def timL (ds : List D) : Int := iAt ds 0 * iAt ds 1 % 17592186044416
theorem tdiv_half {a : Int} (h : 0 ≤ a) : a.tdiv 4194304 = a / 4194304 ∧ a.tmod 4194304 = a % 4194304 := ⟨Int.tdiv_eq_ediv_of_nonneg h, Int.tmod_eq_emod_of_nonneg h⟩
theorem times_eq {p q r s : Int} (hp : 0 ≤ p ∧ p < 4194304) (hq : 0 ≤ q ∧ q < 4194304) (hr : 0 ≤ r ∧ r < 4194304) (hs : 0 ≤ s ∧ s < 4194304) :
    let x := p * 4194304 + q; let y := r * 4194304 + s; let mid := p * s + q * r; let lo := q * s + mid % 4194304 * 4194304
    p * r + mid / 4194304 + lo / 17592186044416 = x * y / 17592186044416 ∧ lo % 17592186044416 = x * y % 17592186044416 := by
  intro x y mid lo
  have e : x * y = (p * r + mid / 4194304) * 17592186044416 + lo := by
    have h1 : x * y = p * r * 17592186044416 + mid * 4194304 + q * s := by simp only [x, y, mid]; grind
    have h2 := Int.mul_ediv_add_emod mid 4194304
    have h3 : lo = q * s + mid % 4194304 * 4194304 := rfl
    omega
  rw [e]
  omega
theorem gR1Times : GivesIf Tryz.prog 81 [it, it] (fun ds => (0 ≤ iAt ds 0 ∧ iAt ds 0 < 17592186044416) ∧ (0 ≤ iAt ds 1 ∧ iAt ds 1 < 17592186044416)) (fun ds => .agg #[.int .i64 (timH ds), .int .i64 (timL ds)]) := by
  refine fn_gives KG (by kernel_rfl) (fun ρ h => .nil) (by kernel_rfl) trR1Times_is trR1Times_low (by decide) (fun W vals ds _ hok => ?_)
  obtain ⟨⟨a0, a1⟩, b0, b1⟩ := hok
  simp only [trR1Times, TT.sat_ret, TT.sat_ite, TT.sat_ob, TT.sat_next, TT.sat_stuck, put_i, put_b, put_d, put_fi, put_fb, put_fd, Ob.ok, B.ev, E.ev, X.ev, AL.ev, cmp_t, cmp_f, arEv, V.plain, V2.plain, S.plain, S0.plain, V.val, V2.val, S.val, S0.val, bV, iV, List.all_cons, List.all_nil, Bool.and_true, Bool.and_self, envOf_i, envOf_b, envOf_d, List.map_cons, List.map_nil, true_and, Bool.not_eq_true', Bool.not_eq_false', Bool.not_not, Bool.and_eq_true, and_f, cell_lg, cell_lb, cell_lr, cmpP, val_i, val_b, val_d, aget, Nat.reduceBEq, beq_self_eq_true, Bool.false_eq_true, if_true, if_false, Nat.reduceLT, Nat.reduceSub, Nat.sub_self, Nat.lt_irrefl]
  obtain ⟨x, hx⟩ : ∃ x, iAt ds 0 = x := ⟨_, rfl⟩
  obtain ⟨y, hy⟩ : ∃ y, iAt ds 1 = y := ⟨_, rfl⟩
  rw [hx] at a0 a1
  rw [hy] at b0 b1
  simp only [timH, timL, hx, hy, (tdiv_half a0).1, (tdiv_half a0).2, (tdiv_half b0).1, (tdiv_half b0).2]
  have p1 : 0 ≤ x / 4194304 ∧ x / 4194304 < 4194304 := by omega
  have p2 : 0 ≤ x % 4194304 ∧ x % 4194304 < 4194304 := by omega
  have p3 : 0 ≤ y / 4194304 ∧ y / 4194304 < 4194304 := by omega
  have p4 : 0 ≤ y % 4194304 ∧ y % 4194304 < 4194304 := by omega
  have key := times_eq p1 p2 p3 p4
  have ex : x / 4194304 * 4194304 + x % 4194304 = x := by omega
  have ey : y / 4194304 * 4194304 + y % 4194304 = y := by omega
  simp only [ex, ey] at key
  have w1 : ∀ {u v : Int}, 0 ≤ u ∧ u < 4194304 → 0 ≤ v ∧ v < 4194304 → 0 ≤ u * v ∧ u * v ≤ 17592177655809 := fun {u v} h1 h2 => by
    have := Int.mul_nonneg h1.1 h2.1
    have := mul_abs (a := u) (b := v) (A := 4194303) (B := 4194303) (by omega) (by omega) (by omega) (by omega)
    omega
  have q1 := w1 p1 p3
  have q2 := w1 p1 p4
  have q3 := w1 p2 p3
  have q4 := w1 p2 p4
  generalize x / 4194304 = p at *
  generalize x % 4194304 = q at *
  generalize y / 4194304 = r at *
  generalize y % 4194304 = s at *
  rw [wrap_in p (by omega) (by omega), wrap_in r (by omega) (by omega), wrap_in (p * r) (by omega) (by omega), wrap_in (p * s) (by omega) (by omega), wrap_in (q * r) (by omega) (by omega), wrap_in (q * s) (by omega) (by omega), wrap_in (p * s + q * r) (by omega) (by omega)]
  rw [(tdiv_half (show 0 ≤ p * s + q * r by omega)).1, (tdiv_half (show 0 ≤ p * s + q * r by omega)).2]
  have m1 : 0 ≤ (p * s + q * r) / 4194304 ∧ (p * s + q * r) / 4194304 ≤ 8388608 := by omega
  have m2 : 0 ≤ (p * s + q * r) % 4194304 ∧ (p * s + q * r) % 4194304 < 4194304 := by omega
  generalize (p * s + q * r) / 4194304 = md at *
  generalize (p * s + q * r) % 4194304 = mm at *
  rw [wrap_in (mm * 4194304) (by omega) (by omega), wrap_in (q * s + mm * 4194304) (by omega) (by omega), wrap_in md (by omega) (by omega)]
  rw [Int.tdiv_eq_ediv_of_nonneg (show 0 ≤ q * s + mm * 4194304 by omega), Int.tmod_eq_emod_of_nonneg (show 0 ≤ q * s + mm * 4194304 by omega)]
  have m3 : 0 ≤ (q * s + mm * 4194304) / 17592186044416 ∧ (q * s + mm * 4194304) / 17592186044416 ≤ 2 := by omega
  rw [wrap_in ((q * s + mm * 4194304) / 17592186044416) (by omega) (by omega), wrap_in (p * r + md) (by omega) (by omega), wrap_in (p * r + md + (q * s + mm * 4194304) / 17592186044416) (by omega) (by omega), key.1, key.2]
/-- The square root, between two numbers. -/
theorem root_uniq {a b n : Int} (ha : 0 ≤ a) (hb : 0 ≤ b) (h1 : a * a ≤ n) (h2 : n < (a + 1) * (a + 1)) (h3 : b * b ≤ n) (h4 : n < (b + 1) * (b + 1)) : a = b := by
  rcases Int.lt_trichotomy a b with h | h | h
  · have := Int.mul_le_mul (show a + 1 ≤ b by omega) (show a + 1 ≤ b by omega) (by omega) hb
    omega
  · exact h
  · have := Int.mul_le_mul (show b + 1 ≤ a by omega) (show b + 1 ≤ a by omega) (by omega) ha
    omega
theorem gR1Root : GivesIf Tryz.prog 54 [it] (fun ds => 0 ≤ iAt ds 0 ∧ iAt ds 0 ≤ 8000000000000) (fun ds => .int .i64 (rootI (iAt ds 0))) := by
  refine fn_gives KG (by kernel_rfl) (fun ρ h => .nil) (by kernel_rfl) trR1Root_is trR1Root_low (by decide) (fun W vals ds _ hok => ?_)
  obtain ⟨n0, n1⟩ := hok
  obtain ⟨r1, r2, r3⟩ := rootN_spec 23 0 (iAt ds 0) (by omega) (by omega) (by simp; omega)
  have r3' : iAt ds 0 < (rootI (iAt ds 0) + 1) * (rootI (iAt ds 0) + 1) := r3
  simp only [trR1Root]
  refine TT.sat_loop (fun v => 0 ≤ v.i 0 ∧ v.i 0 < v.i 1 ∧ v.i 1 ≤ 4000000 ∧ v.i 0 * v.i 0 ≤ iAt ds 0 ∧ iAt ds 0 < v.i 1 * v.i 1) (fun v => (v.i 1 - v.i 0).toNat)
    ⟨by simp [val_i, aget, E.ev], by simp [val_i, aget, E.ev], by simp [val_i, aget, E.ev], by simpa [val_i, aget, E.ev] using n0, by simp [val_i, aget, E.ev]; omega⟩ (fun v hv => ?_)
  obtain ⟨v0, v1, v2, v3, v4⟩ := hv
  simp only [TT.sat_ret, TT.sat_ite, TT.sat_ob, TT.sat_next, TT.sat_stuck, put_i, put_b, put_d, put_fi, put_fb, put_fd, Ob.ok, B.ev, E.ev, X.ev, AL.ev, cmp_t, cmp_f, arEv, V.plain, V2.plain, S.plain, S0.plain, V.val, V2.val, S.val, S0.val, bV, iV, List.all_cons, List.all_nil, Bool.and_true, Bool.and_self, envOf_i, envOf_b, envOf_d, List.map_cons, List.map_nil, true_and, Bool.not_eq_true', Bool.not_eq_false', Bool.not_not, Bool.and_eq_true, and_f, cell_lg, cell_lb, cell_lr, cmpP, val_i, val_b, val_d, aget, Nat.reduceBEq, beq_self_eq_true, Bool.false_eq_true, if_true, if_false, Nat.reduceLT, Nat.reduceSub, Nat.sub_self, Nat.lt_irrefl]
  generalize v.i 0 = a at *
  generalize v.i 1 = b at *
  rw [wrap_in (b - a) (by omega) (by omega), wrap_in (a + b) (by omega) (by omega), Int.tdiv_eq_ediv_of_nonneg (show 0 ≤ a + b by omega), wrap_in ((a + b) / 2) (by omega) (by omega)]
  have hm : 0 ≤ (a + b) / 2 ∧ (a + b) / 2 ≤ 4000000 := by omega
  have hmm := mul_abs (a := (a + b) / 2) (b := (a + b) / 2) (A := 4000000) (B := 4000000) (by omega) (by omega) (by omega) (by omega)
  rw [wrap_in ((a + b) / 2 * ((a + b) / 2)) (by omega) (by omega)]
  refine ⟨fun hc => ⟨fun h => ⟨⟨by omega, by omega, by omega, h, v4⟩, by omega⟩, fun h => ⟨⟨by omega, by omega, by omega, v3, by omega⟩, by omega⟩⟩, fun hc => ?_⟩
  have : b = a + 1 := by omega
  subst this
  exact congrArg (Value.int .i64) (root_uniq v0 r1 v3 v4 r2 r3')
end Go.Proofs.YtinfmmofcadjgaaGreat
/- Chapter 38: contracts of the reference of layer 1. -/
namespace Go.Proofs.YtinfmmofcadjgaaGreat
open Go.RowKit
/-- All symbols so far. -/
def KR : Interp where
  fi n l := match n with | 90 => sgnL l | 91 => timH l | 92 => timL l | n => KG.fi n l
  fb n l := KG.fb n l
  fd _ _ := []
theorem KR_KG {ρ : Env} (h : Sees ρ KR 93) : Sees ρ KG 80 := h.trans (by decide) fun n l hn => by
  refine ⟨?_, ?_⟩
  ·
    simp only [KR]
    split <;> first | omega | rfl
  ·
    rfl
def cR1V := ctD [pt] fun al => .ret (bV (bF 3 placeL al))
theorem cR1V_ok {ρ : Env} (h : Sees ρ KG 80) : CtOne Tryz.prog ρ 28 cR1V :=
  ctD_ok gR1V (fun _ => rfl) (fun al => by simp only [iV, bV, V.s0, V.val, V2.val, S.val, S0.val, bF_ev (s := 3) (f := placeL) (fun l => by rw [(h 3 l (by decide)).2]; simp only [KG, KF, KE, KD, KC, KB, KA, K9, K8, K7, K6, K5, K])]; try rfl)
def cR1Sign := ctD [it] fun al => .ret (iV .i64 (iF 90 sgnL al))
theorem cR1Sign_ok {ρ : Env} (h : Sees ρ KR 93) : CtOne Tryz.prog ρ 124 cR1Sign :=
  ctD_ok gR1Sign (fun _ => rfl) (fun al => by simp only [iV, bV, V.s0, V.val, V2.val, S.val, S0.val, iF_ev (s := 90) (f := sgnL) (fun l => by rw [(h 90 l (by decide)).1]; simp only [KR, KG, KF, KE, KD, KC, KB, KA, K9, K8, K7, K6, K5, K])]; try rfl)
theorem on1_of {ρ : Env} {f : Nat} (g : GivesIf Tryz.prog f [pt, pt, pt] (fun ds => six6 ds = true) (fun ds => .bool (onL ds))) (h1 : ∀ l, ρ.fb 1 l = six6 l) (h4 : ∀ l, ρ.fb 4 l = onL l) : CtOne Tryz.prog ρ f cOn1 := by
  refine ctD_if g (fun al v hv => ?_)
  obtain ⟨ho, hv⟩ := hv
  obtain rfl := res_ret hv
  have ho : (bF 1 six6 al).ev ρ = true := ho
  rw [bF_ev h1] at ho
  refine ⟨rfl, ho, ?_⟩
  simp only [bV, V.s0, V.val, V2.val, S.val, S0.val, bF_ev h4]
theorem cR1Lie_ok {ρ : Env} (h : Sees ρ KG 80) : CtOne Tryz.prog ρ 128 cOn1 :=
  on1_of gR1Lie (fun l => by rw [(h 1 l (by decide)).2]; simp only [KG, KF, KE, KD, KC, KB, KA, K9, K8, K7, K6, K5, K]) (fun l => by rw [(h 4 l (by decide)).2]; simp only [KG, KF, KE, KD, KC, KB, KA, K9, K8, K7, K6, K5, K])
def oTimes (al : AL) : T V := match al with
  | .i a (.i b .nil) => T.obs [.tru (.cmpS .leq (.lit 0) a), .tru (.cmpS .lss a (.lit 17592186044416)), .tru (.cmpS .leq (.lit 0) b), .tru (.cmpS .lss b (.lit 17592186044416))] (.ret (.v (.agg [sIF 91 timH al, sIF 92 timL al])))
  | _ => .stuck "times"
def cTimesR := ctD [it, it] oTimes
theorem cTimesR_ok {ρ : Env} (h : Sees ρ KR 93) : CtOne Tryz.prog ρ 81 cTimesR := by
  refine ctD_if gR1Times (fun al v hv => ?_)
  unfold oTimes at hv
  split at hv
  · rename_i a b
    obtain ⟨ho, hv⟩ := T.res_obs hv
    obtain rfl := res_ret hv
    have o1 := ho _ (List.mem_cons_self ..)
    have o2 := ho _ (List.mem_cons_of_mem _ (List.mem_cons_self ..))
    have o3 := ho _ (List.mem_cons_of_mem _ (List.mem_cons_of_mem _ (List.mem_cons_self ..)))
    have o4 := ho _ (List.mem_cons_of_mem _ (List.mem_cons_of_mem _ (List.mem_cons_of_mem _ (List.mem_cons_self ..))))
    simp only [Ob.ok, B.cmpS_ev, cmp_t, cmpP, E.ev] at o1 o2 o3 o4
    refine ⟨rfl, ⟨⟨o1, o2⟩, o3, o4⟩, ?_⟩
    simp only [V.val, V2.val, S.val, S0.val, sIF, List.map_cons, List.map_nil, iF_ev (s := 91) (f := timH) (fun l => by rw [(h 91 l (by decide)).1]; simp only [KR]), iF_ev (s := 92) (f := timL) (fun l => by rw [(h 92 l (by decide)).1]; simp only [KR])]
    try rfl
  · exact hv.elim
def ctR1 : Ct := (28, cR1V) :: (128, cOn1) :: (124, cR1Sign) :: (81, cTimesR) :: []
theorem ctR1_ok {ρ : Env} (h : Sees ρ KR 93) : CtOk Tryz.prog ρ ctR1 := .cons (cR1V_ok (KR_KG h)) <| .cons (cR1Lie_ok (KR_KG h)) <| .cons (cR1Sign_ok h) <| .cons (cTimesR_ok h) .nil
end Go.Proofs.YtinfmmofcadjgaaGreat
/- Chapter 38: trees of the reference of layer 1, part two; layer 2. -/
namespace Go.Proofs.YtinfmmofcadjgaaGreat
open Go.RowKit
-- term trR1Cr: call Tryz.prog ctR1 [] 100 110 (symArgs 0 [pt, pt, pt, pt]) [] 0
def trR1Cr : TT OpR :=
(.ob (.tru (.fn 1 (.i (.var 0) (.i (.var 1) (.i (.var 4) (.i (.var 5) (.i (.var 6) (.i (.var 7) .nil))))))))
(.ite (.fn 4 (.i (.var 0) (.i (.var 1) (.i (.var 4) (.i (.var 5) (.i (.var 6) (.i (.var 7) .nil)))))))
  (.ret ((.v (.one (.z (.bool (.lit true))))), [], 4))
  (.ob (.tru (.fn 1 (.i (.var 2) (.i (.var 3) (.i (.var 4) (.i (.var 5) (.i (.var 6) (.i (.var 7) .nil))))))))
  (.ite (.fn 4 (.i (.var 2) (.i (.var 3) (.i (.var 4) (.i (.var 5) (.i (.var 6) (.i (.var 7) .nil)))))))
    (.ret ((.v (.one (.z (.bool (.lit true))))), [], 4))
    (.ob (.tru (.fn 1 (.i (.var 4) (.i (.var 5) (.i (.var 0) (.i (.var 1) (.i (.var 2) (.i (.var 3) .nil))))))))
    (.ite (.fn 4 (.i (.var 4) (.i (.var 5) (.i (.var 0) (.i (.var 1) (.i (.var 2) (.i (.var 3) .nil)))))))
      (.ret ((.v (.one (.z (.bool (.lit true))))), [], 4))
      (.ob (.tru (.fn 1 (.i (.var 6) (.i (.var 7) (.i (.var 0) (.i (.var 1) (.i (.var 2) (.i (.var 3) .nil))))))))
      (.ite (.fn 4 (.i (.var 6) (.i (.var 7) (.i (.var 0) (.i (.var 1) (.i (.var 2) (.i (.var 3) .nil)))))))
        (.ret ((.v (.one (.z (.bool (.lit true))))), [], 4))
        (.ite (.cmp .lss (.ar .mul .i64 (.fn 90 (.i (.ar .sub .i64 (.ar .mul .i64 (.ar .sub .i64 (.var 2) (.var 0)) (.ar .sub .i64 (.var 5) (.var 1))) (.ar .mul .i64 (.ar .sub .i64 (.var 3) (.var 1)) (.ar .sub .i64 (.var 4) (.var 0)))) .nil)) (.fn 90 (.i (.ar .sub .i64 (.ar .mul .i64 (.ar .sub .i64 (.var 2) (.var 0)) (.ar .sub .i64 (.var 7) (.var 1))) (.ar .mul .i64 (.ar .sub .i64 (.var 3) (.var 1)) (.ar .sub .i64 (.var 6) (.var 0)))) .nil))) (.lit 0))
          (.ret ((.v (.one (.z (.bool (.cmp .lss (.ar .mul .i64 (.fn 90 (.i (.ar .sub .i64 (.ar .mul .i64 (.ar .sub .i64 (.var 6) (.var 4)) (.ar .sub .i64 (.var 1) (.var 5))) (.ar .mul .i64 (.ar .sub .i64 (.var 7) (.var 5)) (.ar .sub .i64 (.var 0) (.var 4)))) .nil)) (.fn 90 (.i (.ar .sub .i64 (.ar .mul .i64 (.ar .sub .i64 (.var 6) (.var 4)) (.ar .sub .i64 (.var 3) (.var 5))) (.ar .mul .i64 (.ar .sub .i64 (.var 7) (.var 5)) (.ar .sub .i64 (.var 2) (.var 4)))) .nil))) (.lit 0)))))), [], 36))
          (.ret ((.v (.one (.z (.bool (.lit false))))), [], 36)))))))))))
-- end trR1Cr
set_option maxRecDepth 100000 in
theorem trR1Cr_is : T.norm 0 (call Tryz.prog ctR1 [] 100 110 (symArgs 0 [pt, pt, pt, pt]) [] 0) TT.ret = trR1Cr := by kernel_rfl
theorem trR1Cr_low : trR1Cr.low 1000 = true := by kernel_rfl
-- term trR1W: call Tryz.prog ctR1 [] 100 50 (symArgs 0 [pt, pt, pt, it]) [] 0
def trR1W : TT OpR :=
(.ite (.cmp .leq (.ar .add .i64 (.ar .mul .i64 (.ar .sub .i64 (.var 4) (.var 2)) (.ar .sub .i64 (.var 0) (.var 2))) (.ar .mul .i64 (.ar .sub .i64 (.var 5) (.var 3)) (.ar .sub .i64 (.var 1) (.var 3)))) (.lit 0))
  (.ret ((.v (.one (.z (.bool (.cmp .leq (.ar .add .i64 (.ar .mul .i64 (.ar .sub .i64 (.var 0) (.var 2)) (.ar .sub .i64 (.var 0) (.var 2))) (.ar .mul .i64 (.ar .sub .i64 (.var 1) (.var 3)) (.ar .sub .i64 (.var 1) (.var 3)))) (.ar .mul .i64 (.var 6) (.var 6))))))), [], 17))
  (.ite (.cmp .geq (.ar .add .i64 (.ar .mul .i64 (.ar .sub .i64 (.var 4) (.var 2)) (.ar .sub .i64 (.var 0) (.var 2))) (.ar .mul .i64 (.ar .sub .i64 (.var 5) (.var 3)) (.ar .sub .i64 (.var 1) (.var 3)))) (.ar .add .i64 (.ar .mul .i64 (.ar .sub .i64 (.var 4) (.var 2)) (.ar .sub .i64 (.var 4) (.var 2))) (.ar .mul .i64 (.ar .sub .i64 (.var 5) (.var 3)) (.ar .sub .i64 (.var 5) (.var 3)))))
    (.ret ((.v (.one (.z (.bool (.cmp .leq (.ar .add .i64 (.ar .mul .i64 (.ar .sub .i64 (.var 4) (.var 0)) (.ar .sub .i64 (.var 4) (.var 0))) (.ar .mul .i64 (.ar .sub .i64 (.var 5) (.var 1)) (.ar .sub .i64 (.var 5) (.var 1)))) (.ar .mul .i64 (.var 6) (.var 6))))))), [], 25))
    (.ob (.tru (.cmp .leq (.lit 0) (.mx (.ar .sub .i64 (.ar .mul .i64 (.ar .sub .i64 (.var 4) (.var 2)) (.ar .sub .i64 (.var 1) (.var 3))) (.ar .mul .i64 (.ar .sub .i64 (.var 5) (.var 3)) (.ar .sub .i64 (.var 0) (.var 2)))) (.ar .sub .i64 (.lit 0) (.ar .sub .i64 (.ar .mul .i64 (.ar .sub .i64 (.var 4) (.var 2)) (.ar .sub .i64 (.var 1) (.var 3))) (.ar .mul .i64 (.ar .sub .i64 (.var 5) (.var 3)) (.ar .sub .i64 (.var 0) (.var 2))))))))
    (.ob (.tru (.cmp .lss (.mx (.ar .sub .i64 (.ar .mul .i64 (.ar .sub .i64 (.var 4) (.var 2)) (.ar .sub .i64 (.var 1) (.var 3))) (.ar .mul .i64 (.ar .sub .i64 (.var 5) (.var 3)) (.ar .sub .i64 (.var 0) (.var 2)))) (.ar .sub .i64 (.lit 0) (.ar .sub .i64 (.ar .mul .i64 (.ar .sub .i64 (.var 4) (.var 2)) (.ar .sub .i64 (.var 1) (.var 3))) (.ar .mul .i64 (.ar .sub .i64 (.var 5) (.var 3)) (.ar .sub .i64 (.var 0) (.var 2)))))) (.lit 17592186044416)))
    (.ob (.tru (.cmp .leq (.lit 0) (.mx (.ar .sub .i64 (.ar .mul .i64 (.ar .sub .i64 (.var 4) (.var 2)) (.ar .sub .i64 (.var 1) (.var 3))) (.ar .mul .i64 (.ar .sub .i64 (.var 5) (.var 3)) (.ar .sub .i64 (.var 0) (.var 2)))) (.ar .sub .i64 (.lit 0) (.ar .sub .i64 (.ar .mul .i64 (.ar .sub .i64 (.var 4) (.var 2)) (.ar .sub .i64 (.var 1) (.var 3))) (.ar .mul .i64 (.ar .sub .i64 (.var 5) (.var 3)) (.ar .sub .i64 (.var 0) (.var 2))))))))
    (.ob (.tru (.cmp .lss (.mx (.ar .sub .i64 (.ar .mul .i64 (.ar .sub .i64 (.var 4) (.var 2)) (.ar .sub .i64 (.var 1) (.var 3))) (.ar .mul .i64 (.ar .sub .i64 (.var 5) (.var 3)) (.ar .sub .i64 (.var 0) (.var 2)))) (.ar .sub .i64 (.lit 0) (.ar .sub .i64 (.ar .mul .i64 (.ar .sub .i64 (.var 4) (.var 2)) (.ar .sub .i64 (.var 1) (.var 3))) (.ar .mul .i64 (.ar .sub .i64 (.var 5) (.var 3)) (.ar .sub .i64 (.var 0) (.var 2)))))) (.lit 17592186044416)))
    (.ob (.tru (.cmp .leq (.lit 0) (.ar .mul .i64 (.var 6) (.var 6))))
    (.ob (.tru (.cmp .lss (.ar .mul .i64 (.var 6) (.var 6)) (.lit 17592186044416)))
    (.ob (.tru (.cmp .leq (.lit 0) (.ar .add .i64 (.ar .mul .i64 (.ar .sub .i64 (.var 4) (.var 2)) (.ar .sub .i64 (.var 4) (.var 2))) (.ar .mul .i64 (.ar .sub .i64 (.var 5) (.var 3)) (.ar .sub .i64 (.var 5) (.var 3))))))
    (.ob (.tru (.cmp .lss (.ar .add .i64 (.ar .mul .i64 (.ar .sub .i64 (.var 4) (.var 2)) (.ar .sub .i64 (.var 4) (.var 2))) (.ar .mul .i64 (.ar .sub .i64 (.var 5) (.var 3)) (.ar .sub .i64 (.var 5) (.var 3)))) (.lit 17592186044416)))
    (.ite (.cmp .lss (.fn 91 (.i (.mx (.ar .sub .i64 (.ar .mul .i64 (.ar .sub .i64 (.var 4) (.var 2)) (.ar .sub .i64 (.var 1) (.var 3))) (.ar .mul .i64 (.ar .sub .i64 (.var 5) (.var 3)) (.ar .sub .i64 (.var 0) (.var 2)))) (.ar .sub .i64 (.lit 0) (.ar .sub .i64 (.ar .mul .i64 (.ar .sub .i64 (.var 4) (.var 2)) (.ar .sub .i64 (.var 1) (.var 3))) (.ar .mul .i64 (.ar .sub .i64 (.var 5) (.var 3)) (.ar .sub .i64 (.var 0) (.var 2)))))) (.i (.mx (.ar .sub .i64 (.ar .mul .i64 (.ar .sub .i64 (.var 4) (.var 2)) (.ar .sub .i64 (.var 1) (.var 3))) (.ar .mul .i64 (.ar .sub .i64 (.var 5) (.var 3)) (.ar .sub .i64 (.var 0) (.var 2)))) (.ar .sub .i64 (.lit 0) (.ar .sub .i64 (.ar .mul .i64 (.ar .sub .i64 (.var 4) (.var 2)) (.ar .sub .i64 (.var 1) (.var 3))) (.ar .mul .i64 (.ar .sub .i64 (.var 5) (.var 3)) (.ar .sub .i64 (.var 0) (.var 2)))))) .nil))) (.fn 91 (.i (.ar .mul .i64 (.var 6) (.var 6)) (.i (.ar .add .i64 (.ar .mul .i64 (.ar .sub .i64 (.var 4) (.var 2)) (.ar .sub .i64 (.var 4) (.var 2))) (.ar .mul .i64 (.ar .sub .i64 (.var 5) (.var 3)) (.ar .sub .i64 (.var 5) (.var 3)))) .nil))))
      (.ret ((.v (.one (.z (.bool (.lit true))))), [], 19))
      (.ite (.cmp .eql (.fn 91 (.i (.mx (.ar .sub .i64 (.ar .mul .i64 (.ar .sub .i64 (.var 4) (.var 2)) (.ar .sub .i64 (.var 1) (.var 3))) (.ar .mul .i64 (.ar .sub .i64 (.var 5) (.var 3)) (.ar .sub .i64 (.var 0) (.var 2)))) (.ar .sub .i64 (.lit 0) (.ar .sub .i64 (.ar .mul .i64 (.ar .sub .i64 (.var 4) (.var 2)) (.ar .sub .i64 (.var 1) (.var 3))) (.ar .mul .i64 (.ar .sub .i64 (.var 5) (.var 3)) (.ar .sub .i64 (.var 0) (.var 2)))))) (.i (.mx (.ar .sub .i64 (.ar .mul .i64 (.ar .sub .i64 (.var 4) (.var 2)) (.ar .sub .i64 (.var 1) (.var 3))) (.ar .mul .i64 (.ar .sub .i64 (.var 5) (.var 3)) (.ar .sub .i64 (.var 0) (.var 2)))) (.ar .sub .i64 (.lit 0) (.ar .sub .i64 (.ar .mul .i64 (.ar .sub .i64 (.var 4) (.var 2)) (.ar .sub .i64 (.var 1) (.var 3))) (.ar .mul .i64 (.ar .sub .i64 (.var 5) (.var 3)) (.ar .sub .i64 (.var 0) (.var 2)))))) .nil))) (.fn 91 (.i (.ar .mul .i64 (.var 6) (.var 6)) (.i (.ar .add .i64 (.ar .mul .i64 (.ar .sub .i64 (.var 4) (.var 2)) (.ar .sub .i64 (.var 4) (.var 2))) (.ar .mul .i64 (.ar .sub .i64 (.var 5) (.var 3)) (.ar .sub .i64 (.var 5) (.var 3)))) .nil))))
        (.ret ((.v (.one (.z (.bool (.cmp .leq (.fn 92 (.i (.mx (.ar .sub .i64 (.ar .mul .i64 (.ar .sub .i64 (.var 4) (.var 2)) (.ar .sub .i64 (.var 1) (.var 3))) (.ar .mul .i64 (.ar .sub .i64 (.var 5) (.var 3)) (.ar .sub .i64 (.var 0) (.var 2)))) (.ar .sub .i64 (.lit 0) (.ar .sub .i64 (.ar .mul .i64 (.ar .sub .i64 (.var 4) (.var 2)) (.ar .sub .i64 (.var 1) (.var 3))) (.ar .mul .i64 (.ar .sub .i64 (.var 5) (.var 3)) (.ar .sub .i64 (.var 0) (.var 2)))))) (.i (.mx (.ar .sub .i64 (.ar .mul .i64 (.ar .sub .i64 (.var 4) (.var 2)) (.ar .sub .i64 (.var 1) (.var 3))) (.ar .mul .i64 (.ar .sub .i64 (.var 5) (.var 3)) (.ar .sub .i64 (.var 0) (.var 2)))) (.ar .sub .i64 (.lit 0) (.ar .sub .i64 (.ar .mul .i64 (.ar .sub .i64 (.var 4) (.var 2)) (.ar .sub .i64 (.var 1) (.var 3))) (.ar .mul .i64 (.ar .sub .i64 (.var 5) (.var 3)) (.ar .sub .i64 (.var 0) (.var 2)))))) .nil))) (.fn 92 (.i (.ar .mul .i64 (.var 6) (.var 6)) (.i (.ar .add .i64 (.ar .mul .i64 (.ar .sub .i64 (.var 4) (.var 2)) (.ar .sub .i64 (.var 4) (.var 2))) (.ar .mul .i64 (.ar .sub .i64 (.var 5) (.var 3)) (.ar .sub .i64 (.var 5) (.var 3)))) .nil)))))))), [], 19))
        (.ret ((.v (.one (.z (.bool (.lit false))))), [], 19))))))))))))))
-- end trR1W
set_option maxRecDepth 100000 in
theorem trR1W_is : T.norm 0 (call Tryz.prog ctR1 [] 100 50 (symArgs 0 [pt, pt, pt, it]) [] 0) TT.ret = trR1W := by kernel_rfl
theorem trR1W_low : trR1W.low 1000 = true := by kernel_rfl
-- term trR2VB: call Tryz.prog [] [] 100 46 (symArgs 0 [bx]) [] 0
def trR2VB : TT OpR :=
(.ite (.cmp .geq (.var 0) (.lit (-1000000)))
  (.ite (.cmp .leq (.var 0) (.var 1))
    (.ite (.cmp .geq (.var 2) (.lit (-1000000)))
      (.ite (.cmp .leq (.var 2) (.var 3))
        (.ite (.cmp .leq (.var 1) (.lit 1000000))
          (.ret ((.v (.one (.z (.bool (.cmp .leq (.var 3) (.lit 1000000)))))), [], 3))
          (.ret ((.v (.one (.z (.bool (.lit false))))), [], 3)))
        (.ite (.cmp .leq (.var 1) (.lit 1000000))
          (.ret ((.v (.one (.z (.bool (.lit false))))), [], 3))
          (.ret ((.v (.one (.z (.bool (.lit false))))), [], 3))))
      (.ite (.cmp .leq (.var 1) (.lit 1000000))
        (.ret ((.v (.one (.z (.bool (.lit false))))), [], 3))
        (.ret ((.v (.one (.z (.bool (.lit false))))), [], 3))))
    (.ite (.cmp .geq (.var 2) (.lit (-1000000)))
      (.ite (.cmp .leq (.var 2) (.var 3))
        (.ret ((.v (.one (.z (.bool (.lit false))))), [], 3))
        (.ret ((.v (.one (.z (.bool (.lit false))))), [], 3)))
      (.ret ((.v (.one (.z (.bool (.lit false))))), [], 3))))
  (.ite (.cmp .geq (.var 2) (.lit (-1000000)))
    (.ite (.cmp .leq (.var 2) (.var 3))
      (.ret ((.v (.one (.z (.bool (.lit false))))), [], 3))
      (.ret ((.v (.one (.z (.bool (.lit false))))), [], 3)))
    (.ret ((.v (.one (.z (.bool (.lit false))))), [], 3))))
-- end trR2VB
set_option maxRecDepth 100000 in
theorem trR2VB_is : T.norm 0 (call Tryz.prog [] [] 100 46 (symArgs 0 [bx]) [] 0) TT.ret = trR2VB := by kernel_rfl
theorem trR2VB_low : trR2VB.low 1000 = true := by kernel_rfl
-- term trR2H: call Tryz.prog [] [] 100 47 (symArgs 0 [bx, pt]) [] 0
def trR2H : TT OpR :=
(.ite (.cmp .leq (.var 0) (.var 4))
  (.ite (.cmp .leq (.var 2) (.var 5))
    (.ite (.cmp .leq (.var 4) (.var 1))
      (.ret ((.v (.one (.z (.bool (.cmp .leq (.var 5) (.var 3)))))), [], 4))
      (.ret ((.v (.one (.z (.bool (.lit false))))), [], 4)))
    (.ite (.cmp .leq (.var 4) (.var 1))
      (.ret ((.v (.one (.z (.bool (.lit false))))), [], 4))
      (.ret ((.v (.one (.z (.bool (.lit false))))), [], 4))))
  (.ite (.cmp .leq (.var 2) (.var 5))
    (.ret ((.v (.one (.z (.bool (.lit false))))), [], 4))
    (.ret ((.v (.one (.z (.bool (.lit false))))), [], 4))))
-- end trR2H
set_option maxRecDepth 100000 in
theorem trR2H_is : T.norm 0 (call Tryz.prog [] [] 100 47 (symArgs 0 [bx, pt]) [] 0) TT.ret = trR2H := by kernel_rfl
theorem trR2H_low : trR2H.low 1000 = true := by kernel_rfl
-- term trR2Up: call Tryz.prog [] [] 100 32 (symArgs 0 [it, it]) [] 0
def trR2Up : TT OpR :=
(.ob (.tru (.cmp .neq (.var 1) (.lit 0)))
(.ob (.tru (.cmp .neq (.var 1) (.lit 0)))
(.ite (.cmp .gtr (.ar .rem .i64 (.var 0) (.var 1)) (.lit 0))
  (.ret ((.v (.one (.z (.int .i64 (.ar .add .i64 (.ar .quo .i64 (.var 0) (.var 1)) (.lit 1)))))), [], 0))
  (.ret ((.v (.one (.z (.int .i64 (.ar .quo .i64 (.var 0) (.var 1)))))), [], 0)))))
-- end trR2Up
set_option maxRecDepth 100000 in
theorem trR2Up_is : T.norm 0 (call Tryz.prog [] [] 100 32 (symArgs 0 [it, it]) [] 0) TT.ret = trR2Up := by kernel_rfl
theorem trR2Up_low : trR2Up.low 1000 = true := by kernel_rfl
end Go.Proofs.YtinfmmofcadjgaaGreat
/- Chapter 38: what the reference of layer 1 answers, part two; layer 2. -/
namespace Go.Proofs.YtinfmmofcadjgaaGreat
open Go.RowKit
theorem KRb1 (W : World) (ds l : List D) : (envOf KR W ds).fb 1 l = six6 l := by simp only [envOf, KR, KG, KF, KE, KD, KC, KB, KA, K9, K8, K7, K6, K5, K]
theorem KRb4 (W : World) (ds l : List D) : (envOf KR W ds).fb 4 l = onL l := by simp only [envOf, KR, KG, KF, KE, KD, KC, KB, KA, K9, K8, K7, K6, K5, K]
theorem KRi90 (W : World) (ds l : List D) : (envOf KR W ds).fi 90 l = sgnL l := by simp only [envOf, KR, KG, KF, KE, KD, KC, KB, KA, K9, K8, K7, K6, K5, K]
theorem KRi91 (W : World) (ds l : List D) : (envOf KR W ds).fi 91 l = timH l := by simp only [envOf, KR, KG, KF, KE, KD, KC, KB, KA, K9, K8, K7, K6, K5, K]
theorem KRi92 (W : World) (ds l : List D) : (envOf KR W ds).fi 92 l = timL l := by simp only [envOf, KR, KG, KF, KE, KD, KC, KB, KA, K9, K8, K7, K6, K5, K]
theorem sgn_one (n : Int) : sgnL [.i n] = sgn n := rfl
theorem timH_two (a b : Int) : timH [.i a, .i b] = a * b / 17592186044416 := rfl
theorem timL_two (a b : Int) : timL [.i a, .i b] = a * b % 17592186044416 := rfl
theorem gR1Cr : GivesIf Tryz.prog 110 [pt, pt, pt, pt] (fun ds => eight ds = true) (fun ds => .bool (meetL ds)) := by
  refine fn_gives KR (by kernel_rfl) (fun ρ h => ctR1_ok (Sees.of h 93)) (by kernel_rfl) trR1Cr_is trR1Cr_low (by decide) (fun W vals ds _ hok => ?_)
  simp only [eight, Bool.and_eq_true] at hok
  obtain ⟨a, b, c, d⟩ := hok
  have a' := placeB_iff.mp a
  have b' := placeB_iff.mp b
  have c' := placeB_iff.mp c
  have d' := placeB_iff.mp d
  simp only [trR1Cr, TT.sat_ret, TT.sat_ite, TT.sat_ob, TT.sat_next, TT.sat_stuck, put_i, put_b, put_d, put_fi, put_fb, put_fd, Ob.ok, B.ev, E.ev, X.ev, AL.ev, cmp_t, cmp_f, arEv, V.plain, V2.plain, S.plain, S0.plain, V.val, V2.val, S.val, S0.val, bV, iV, List.all_cons, List.all_nil, Bool.and_true, Bool.and_self, envOf_i, envOf_b, envOf_d, List.map_cons, List.map_nil, true_and, Bool.not_eq_true', Bool.not_eq_false', Bool.not_not, Bool.and_eq_true, and_f, cell_lg, cell_lb, cell_lr, cmpP, val_i, val_b, val_d, aget, Nat.reduceBEq, beq_self_eq_true, Bool.false_eq_true, if_true, if_false, Nat.reduceLT, Nat.reduceSub, Nat.sub_self, Nat.lt_irrefl, KRb1, KRb4, KRi90, six_six, on_six, sgn_one]
  simp only [w_sub b'.1 a'.1, w_sub c'.2 a'.2, w_sub b'.2 a'.2, w_sub c'.1 a'.1, w_sub d'.2 a'.2, w_sub d'.1 a'.1, w_sub d'.1 c'.1, w_sub a'.2 c'.2, w_sub d'.2 c'.2, w_sub a'.1 c'.1, w_sub b'.2 c'.2, w_sub b'.1 c'.1,
    w_mul1 b'.1 a'.1 c'.2 a'.2, w_mul1 b'.2 a'.2 c'.1 a'.1, w_mul1 b'.1 a'.1 d'.2 a'.2, w_mul1 b'.2 a'.2 d'.1 a'.1, w_mul1 d'.1 c'.1 a'.2 c'.2, w_mul1 d'.2 c'.2 a'.1 c'.1, w_mul1 d'.1 c'.1 b'.2 c'.2, w_mul1 d'.2 c'.2 b'.1 c'.1,
    (w_crs b'.1 a'.1 c'.2 a'.2 b'.2 a'.2 c'.1 a'.1).1, (w_crs b'.1 a'.1 d'.2 a'.2 b'.2 a'.2 d'.1 a'.1).1, (w_crs d'.1 c'.1 a'.2 c'.2 d'.2 c'.2 a'.1 c'.1).1, (w_crs d'.1 c'.1 b'.2 c'.2 d'.2 c'.2 b'.1 c'.1).1]
  have w : ∀ m n : Int, IntKind.i64.wrap (sgn m * sgn n) = sgn m * sgn n := fun m n => by
    have := sgn_le m
    have := sgn_le n
    have := mul_abs (a := sgn m) (b := sgn n) (A := 1) (B := 1) (by omega) (by omega) (by omega) (by omega)
    exact wrap_in _ (by omega) (by omega)
  simp only [w, meetL, meetB, turnI, crossI, a, b, c, d, Bool.and_self, true_and]
  refine ⟨fun h1 => ?_, fun h1 => ⟨fun h2 => ?_, fun h2 => ⟨fun h3 => ?_, fun h3 => ⟨fun h4 => ?_, fun h4 => ⟨fun h5 => ?_, fun h5 => ?_⟩⟩⟩⟩⟩
  · rw [h1]; simp
  · rw [h2]; simp
  · rw [h3]; simp
  · rw [h4]; simp
  · rw [h1, h2, h3, h4]; simp [h5, cmpEv]
  · rw [h1, h2, h3, h4]; simp [h5]
theorem most_cmp {a b c d : Int} : (a * b / 17592186044416 < c * d / 17592186044416 ∨ (a * b / 17592186044416 = c * d / 17592186044416 ∧ a * b % 17592186044416 ≤ c * d % 17592186044416)) ↔ a * b ≤ c * d := by
  generalize a * b = x
  generalize c * d = y
  omega
theorem gR1W : GivesIf Tryz.prog 50 [pt, pt, pt, it] (fun ds => nearO ds = true) (fun ds => .bool (nearL ds)) := by
  refine fn_gives KR (by kernel_rfl) (fun ρ h => ctR1_ok (Sees.of h 93)) (by kernel_rfl) trR1W_is trR1W_low (by decide) (fun W vals ds _ hok => ?_)
  simp only [nearO, Bool.and_eq_true, distB, decide_eq_true_eq] at hok
  obtain ⟨hok, h6⟩ := hok
  obtain ⟨h0, h1, h2, h3, h4, h5⟩ := six_of hok
  simp only [trR1W, TT.sat_ret, TT.sat_ite, TT.sat_ob, TT.sat_next, TT.sat_stuck, put_i, put_b, put_d, put_fi, put_fb, put_fd, Ob.ok, B.ev, E.ev, X.ev, AL.ev, cmp_t, cmp_f, arEv, V.plain, V2.plain, S.plain, S0.plain, V.val, V2.val, S.val, S0.val, bV, iV, List.all_cons, List.all_nil, Bool.and_true, Bool.and_self, envOf_i, envOf_b, envOf_d, List.map_cons, List.map_nil, true_and, Bool.not_eq_true', Bool.not_eq_false', Bool.not_not, Bool.and_eq_true, and_f, cell_lg, cell_lb, cell_lr, cmpP, val_i, val_b, val_d, aget, Nat.reduceBEq, beq_self_eq_true, Bool.false_eq_true, if_true, if_false, Nat.reduceLT, Nat.reduceSub, Nat.sub_self, Nat.lt_irrefl, KRi91, KRi92, timH_two, timL_two]
  have c0 := w_sq h6
  have d1 := w_mul h0 h2 h0 h2
  have d2 := w_mul h1 h3 h1 h3
  have d3 := w_mul h4 h0 h4 h0
  have d4 := w_mul h5 h1 h5 h1
  have d5 := w_mul h4 h2 h4 h2
  have d6 := w_mul h5 h3 h5 h3
  have d7 := w_mul h4 h2 h1 h3
  have d8 := w_mul h5 h3 h0 h2
  have n1 := sq_nn (iAt ds 0 - iAt ds 2)
  have n2 := sq_nn (iAt ds 1 - iAt ds 3)
  have n5 := sq_nn (iAt ds 4 - iAt ds 2)
  have n6 := sq_nn (iAt ds 5 - iAt ds 3)
  simp only [w_sub h4 h2, w_sub h0 h2, w_sub h5 h3, w_sub h1 h3, w_sub h4 h0, w_sub h5 h1, w_mul1 h4 h2 h0 h2, w_mul1 h5 h3 h1 h3, d1.1, d2.1, d3.1, d4.1, d5.1, d6.1, d7.1, d8.1, w_add h4 h2 h0 h2 h5 h3 h1 h3,
    w_add h0 h2 h0 h2 h1 h3 h1 h3, w_add h4 h0 h4 h0 h5 h1 h5 h1, w_add h4 h2 h4 h2 h5 h3 h5 h3, (w_crs h4 h2 h1 h3 h5 h3 h0 h2).1, (w_crs h4 h2 h1 h3 h5 h3 h0 h2).2, c0.1, mx_sq]
  have D2 : dist2 (iAt ds 4) (iAt ds 5) (iAt ds 0) (iAt ds 1) = (iAt ds 4 - iAt ds 0) * (iAt ds 4 - iAt ds 0) + (iAt ds 5 - iAt ds 1) * (iAt ds 5 - iAt ds 1) := by unfold dist2; grind
  refine ⟨fun h => ?_, fun h => ⟨fun h' => ?_, fun h' => ⟨?_, ?_, ?_, ?_, ?_, ?_, ?_, ?_, fun m => ?_, fun m => ⟨fun m' => ?_, fun m' => ?_⟩⟩⟩⟩
  · unfold nearL nearB dotI
    rw [if_pos h]
    congr 1
  · unfold nearL nearB dotI
    rw [if_neg h, if_pos (show dist2 _ _ _ _ ≤ _ by unfold dist2; exact h'), D2]
    congr 1
  case refine_11 =>
    unfold nearL nearB dotI
    rw [if_neg h, if_neg (show ¬ dist2 _ _ _ _ ≤ _ by unfold dist2; exact h'), decide_eq_true (by unfold crossI dist2; exact most_cmp.mp (.inl m))]
  case refine_12 =>
    unfold nearL nearB dotI
    rw [if_neg h, if_neg (show ¬ dist2 _ _ _ _ ≤ _ by unfold dist2; exact h')]
    congr 1
    rw [Bool.eq_iff_iff, cmp_t, decide_eq_true_eq]
    unfold crossI dist2
    rw [← most_cmp]
    simp only [cmpP]
    omega
  case refine_13 =>
    unfold nearL nearB dotI
    rw [if_neg h, if_neg (show ¬ dist2 _ _ _ _ ≤ _ by unfold dist2; exact h'), decide_eq_false (by unfold crossI dist2; rw [← most_cmp]; omega)]
  all_goals omega
theorem gR2VB : Gives Tryz.prog 46 [bx] (fun ds => .bool (boxL ds)) := by
  refine GivesIf.all (fn_gives KR (by kernel_rfl) (fun ρ h => .nil) (by kernel_rfl) trR2VB_is trR2VB_low (by decide) (fun W vals ds _ _ => ?_))
  simp only [trR2VB, TT.sat_ret, TT.sat_ite, TT.sat_ob, TT.sat_next, TT.sat_stuck, put_i, put_b, put_d, put_fi, put_fb, put_fd, Ob.ok, B.ev, E.ev, X.ev, AL.ev, cmp_t, cmp_f, arEv, V.plain, V2.plain, S.plain, S0.plain, V.val, V2.val, S.val, S0.val, bV, iV, List.all_cons, List.all_nil, Bool.and_true, Bool.and_self, envOf_i, envOf_b, envOf_d, List.map_cons, List.map_nil, true_and, Bool.not_eq_true', Bool.not_eq_false', Bool.not_not, Bool.and_eq_true, and_f, cell_lg, cell_lb, cell_lr, cmpP, val_i, val_b, val_d, aget, Nat.reduceBEq, beq_self_eq_true, Bool.false_eq_true, if_true, if_false, Nat.reduceLT, Nat.reduceSub, Nat.sub_self, Nat.lt_irrefl]
  simp only [boxL, boxB]
  (repeat' (first | (intro h; skip) | (refine And.intro ?_ ?_)))
  all_goals (congr 1; rw [Bool.eq_iff_iff]; try rw [cmp_t])
  all_goals (simp only [cmpP, decide_eq_true_eq, Bool.false_eq_true, false_iff]; omega)
def inL (ds : List D) : Bool := decide (iAt ds 0 ≤ iAt ds 4 ∧ iAt ds 4 ≤ iAt ds 1 ∧ iAt ds 2 ≤ iAt ds 5 ∧ iAt ds 5 ≤ iAt ds 3)
theorem gR2H : Gives Tryz.prog 47 [bx, pt] (fun ds => .bool (inL ds)) := by
  refine GivesIf.all (fn_gives KR (by kernel_rfl) (fun ρ h => .nil) (by kernel_rfl) trR2H_is trR2H_low (by decide) (fun W vals ds _ _ => ?_))
  simp only [trR2H, TT.sat_ret, TT.sat_ite, TT.sat_ob, TT.sat_next, TT.sat_stuck, put_i, put_b, put_d, put_fi, put_fb, put_fd, Ob.ok, B.ev, E.ev, X.ev, AL.ev, cmp_t, cmp_f, arEv, V.plain, V2.plain, S.plain, S0.plain, V.val, V2.val, S.val, S0.val, bV, iV, List.all_cons, List.all_nil, Bool.and_true, Bool.and_self, envOf_i, envOf_b, envOf_d, List.map_cons, List.map_nil, true_and, Bool.not_eq_true', Bool.not_eq_false', Bool.not_not, Bool.and_eq_true, and_f, cell_lg, cell_lb, cell_lr, cmpP, val_i, val_b, val_d, aget, Nat.reduceBEq, beq_self_eq_true, Bool.false_eq_true, if_true, if_false, Nat.reduceLT, Nat.reduceSub, Nat.sub_self, Nat.lt_irrefl]
  simp only [inL]
  (repeat' (first | (intro h; skip) | (refine And.intro ?_ ?_)))
  all_goals (congr 1; rw [Bool.eq_iff_iff]; try rw [cmp_t])
  all_goals (simp only [cmpP, decide_eq_true_eq, Bool.false_eq_true, false_iff]; omega)
theorem div_is {a d q : Int} (hd : 0 < d) (h1 : q * d ≤ a) (h2 : a < (q + 1) * d) : a / d = q := by
  have := (Int.le_ediv_iff_mul_le hd).mpr h1
  have := (Int.ediv_lt_iff_lt_mul hd).mpr h2
  omega
theorem gR2Up : GivesIf Tryz.prog 32 [it, it] (fun ds => (0 ≤ iAt ds 0 ∧ iAt ds 0 ≤ 1000000000000) ∧ 1 ≤ iAt ds 1 ∧ iAt ds 1 ≤ 1000000000000) (fun ds => .int .i64 ((iAt ds 0 + iAt ds 1 - 1).tdiv (iAt ds 1))) := by
  refine fn_gives KR (by kernel_rfl) (fun ρ h => .nil) (by kernel_rfl) trR2Up_is trR2Up_low (by decide) (fun W vals ds _ hok => ?_)
  obtain ⟨⟨a0, a1⟩, b0, b1⟩ := hok
  simp only [trR2Up, TT.sat_ret, TT.sat_ite, TT.sat_ob, TT.sat_next, TT.sat_stuck, put_i, put_b, put_d, put_fi, put_fb, put_fd, Ob.ok, B.ev, E.ev, X.ev, AL.ev, cmp_t, cmp_f, arEv, V.plain, V2.plain, S.plain, S0.plain, V.val, V2.val, S.val, S0.val, bV, iV, List.all_cons, List.all_nil, Bool.and_true, Bool.and_self, envOf_i, envOf_b, envOf_d, List.map_cons, List.map_nil, true_and, Bool.not_eq_true', Bool.not_eq_false', Bool.not_not, Bool.and_eq_true, and_f, cell_lg, cell_lb, cell_lr, cmpP, val_i, val_b, val_d, aget, Nat.reduceBEq, beq_self_eq_true, Bool.false_eq_true, if_true, if_false, Nat.reduceLT, Nat.reduceSub, Nat.sub_self, Nat.lt_irrefl]
  generalize iAt ds 0 = n at *
  generalize iAt ds 1 = d at *
  rw [Int.tdiv_eq_ediv_of_nonneg a0, Int.tmod_eq_emod_of_nonneg a0, Int.tdiv_eq_ediv_of_nonneg (show 0 ≤ n + d - 1 by omega)]
  have e := Int.mul_ediv_add_emod n d
  have m0 := Int.emod_nonneg n (show d ≠ 0 by omega)
  have m1 := Int.emod_lt_of_pos n (show 0 < d by omega)
  have q0 : 0 ≤ n / d := Int.ediv_nonneg a0 (by omega)
  have q1 : n / d ≤ n := Int.ediv_le_self _ a0
  have q2 := Int.mul_nonneg (show 0 ≤ d by omega) q0
  rw [wrap_in (n / d) (by omega) (by omega), wrap_in (n / d + 1) (by omega) (by omega)]
  refine ⟨by omega, by omega, fun h => ?_, fun h => ?_⟩
  · refine congrArg (Value.int .i64) (div_is (by omega) ?_ ?_).symm
    · rw [Int.mul_comm, Int.mul_add]; omega
    · rw [Int.mul_comm, Int.mul_add, Int.mul_add]; omega
  · refine congrArg (Value.int .i64) (div_is (by omega) ?_ ?_).symm
    · rw [Int.mul_comm]; omega
    · rw [Int.mul_comm, Int.mul_add]; omega
end Go.Proofs.YtinfmmofcadjgaaGreat
/- Chapter 38: contracts of the reference of layers 1, 2. -/
namespace Go.Proofs.YtinfmmofcadjgaaGreat
open Go.RowKit
def upL (ds : List D) : Int := (iAt ds 0 + iAt ds 1 - 1).tdiv (iAt ds 1)
def rootL (ds : List D) : Int := rootI (iAt ds 0)
/-- All symbols so far. -/
def KT : Interp where
  fi n l := match n with | 94 => upL l | 95 => rootL l | n => KR.fi n l
  fb n l := match n with | 93 => inL l | n => KR.fb n l
  fd _ _ := []
theorem KT_KR {ρ : Env} (h : Sees ρ KT 96) : Sees ρ KR 93 := h.trans (by decide) fun n l hn => by
  refine ⟨?_, ?_⟩
  ·
    simp only [KT]
    split <;> first | omega | rfl
  ·
    simp only [KT]
    split <;> first | omega | rfl
def cR2VB := ctD [bx] fun al => .ret (bV (bF 31 boxL al))
theorem cR2VB_ok {ρ : Env} (h : Sees ρ KG 80) : CtOne Tryz.prog ρ 46 cR2VB :=
  ctD_ok gR2VB (fun _ => rfl) (fun al => by simp only [iV, bV, V.s0, V.val, V2.val, S.val, S0.val, bF_ev (s := 31) (f := boxL) (fun l => by rw [(h 31 l (by decide)).2]; simp only [KG, KF, KE, KD, KC, KB, KA, K9, K8, K7, K6, K5, K])]; try rfl)
def cR2H := ctD [bx, pt] fun al => .ret (bV (bF 93 inL al))
theorem cR2H_ok {ρ : Env} (h : Sees ρ KT 96) : CtOne Tryz.prog ρ 47 cR2H :=
  ctD_ok gR2H (fun _ => rfl) (fun al => by simp only [iV, bV, V.s0, V.val, V2.val, S.val, S0.val, bF_ev (s := 93) (f := inL) (fun l => by rw [(h 93 l (by decide)).2]; simp only [KT, KR, KG, KF, KE, KD, KC, KB, KA, K9, K8, K7, K6, K5, K])]; try rfl)
def cCrossR := ctD [pt, pt, pt, pt] fun al => .ob (.tru (bF 5 eight al)) (.ret (bV (bF 6 meetL al)))
theorem cR1Cr_ok {ρ : Env} (h : Sees ρ KG 80) : CtOne Tryz.prog ρ 110 cCrossR := by
  refine ctD_if gR1Cr (fun al v hv => ?_)
  obtain ⟨ho, hv⟩ := hv
  obtain rfl := res_ret hv
  have ho : (bF 5 eight al).ev ρ = true := ho
  rw [bF_ev (fun l => by rw [(h 5 l (by decide)).2]; simp only [KG, KF, KE, KD, KC, KB, KA, K9, K8, K7, K6, K5, K])] at ho
  refine ⟨rfl, ho, ?_⟩
  simp only [bV, V.s0, V.val, V2.val, S.val, S0.val, bF_ev (s := 6) (f := meetL) (fun l => by rw [(h 6 l (by decide)).2]; simp only [KG, KF, KE, KD, KC, KB, KA, K9, K8, K7, K6, K5, K])]
theorem cR1W_ok {ρ : Env} (h : Sees ρ KG 80) : CtOne Tryz.prog ρ 50 cNear0 := by
  refine ctD_if gR1W (fun al v hv => ?_)
  have h1 : ∀ l, ρ.fb 1 l = six6 l := fun l => by rw [(h 1 l (by decide)).2]; simp only [KG, KF, KE, KD, KC, KB, KA, K9, K8, K7, K6, K5, K]
  have h2 : ∀ l, ρ.fb 2 l = nearL l := fun l => by rw [(h 2 l (by decide)).2]; simp only [KG, KF, KE, KD, KC, KB, KA, K9, K8, K7, K6, K5, K]
  unfold oNear0 at hv
  split at hv
  · rename_i a b c d e f r
    obtain ⟨ho, hv⟩ := T.res_obs hv
    obtain rfl := res_ret hv
    have o1 := ho _ (List.mem_cons_self ..)
    have o2 := ho _ (List.mem_cons_of_mem _ (List.mem_cons_self ..))
    have o3 := ho _ (List.mem_cons_of_mem _ (List.mem_cons_of_mem _ (List.mem_cons_self ..)))
    simp only [Ob.ok, B.cmpS_ev, cmp_t, cmpP, E.ev, B.ev, AL.ev, h1] at o1 o2 o3
    refine ⟨rfl, ?_, ?_⟩
    · show (six6 _ && distB (r.ev ρ)) = true
      rw [Bool.and_eq_true, distB, decide_eq_true_eq]
      exact ⟨o1, o2, o3⟩
    · simp only [bV, V.s0, V.val, V2.val, S.val, S0.val, B.ev, h2]
      try rfl
  · exact hv.elim
def oUp (al : AL) : T V := match al with
  | .i a (.i b .nil) => T.obs [.tru (.cmpS .leq (.lit 0) a), .tru (.cmpS .leq a (.lit 1000000000000)), .tru (.cmpS .leq (.lit 1) b), .tru (.cmpS .leq b (.lit 1000000000000))] (.ret (iV .i64 (iF 94 upL al)))
  | _ => .stuck "up"
def cUpR := ctD [it, it] oUp
theorem cUpR_ok {ρ : Env} (h : Sees ρ KT 96) : CtOne Tryz.prog ρ 32 cUpR := by
  refine ctD_if gR2Up (fun al v hv => ?_)
  unfold oUp at hv
  split at hv
  · rename_i a b
    obtain ⟨ho, hv⟩ := T.res_obs hv
    obtain rfl := res_ret hv
    have o1 := ho _ (List.mem_cons_self ..)
    have o2 := ho _ (List.mem_cons_of_mem _ (List.mem_cons_self ..))
    have o3 := ho _ (List.mem_cons_of_mem _ (List.mem_cons_of_mem _ (List.mem_cons_self ..)))
    have o4 := ho _ (List.mem_cons_of_mem _ (List.mem_cons_of_mem _ (List.mem_cons_of_mem _ (List.mem_cons_self ..))))
    simp only [Ob.ok, B.cmpS_ev, cmp_t, cmpP, E.ev] at o1 o2 o3 o4
    refine ⟨rfl, ⟨⟨o1, o2⟩, o3, o4⟩, ?_⟩
    simp only [iV, V.s0, V.val, V2.val, S.val, S0.val, iF_ev (s := 94) (f := upL) (fun l => by rw [(h 94 l (by decide)).1]; simp only [KT])]
    try rfl
  · exact hv.elim
def oRoot (al : AL) : T V := match al with
  | .i a .nil => T.obs [.tru (.cmpS .leq (.lit 0) a), .tru (.cmpS .leq a (.lit 8000000000000))] (.ret (iV .i64 (iF 95 rootL al)))
  | _ => .stuck "root"
def cRootR := ctD [it] oRoot
theorem cRootR_ok {ρ : Env} (h : Sees ρ KT 96) : CtOne Tryz.prog ρ 54 cRootR := by
  refine ctD_if gR1Root (fun al v hv => ?_)
  unfold oRoot at hv
  split at hv
  · rename_i a
    obtain ⟨ho, hv⟩ := T.res_obs hv
    obtain rfl := res_ret hv
    have o1 := ho _ (List.mem_cons_self ..)
    have o2 := ho _ (List.mem_cons_of_mem _ (List.mem_cons_self ..))
    simp only [Ob.ok, B.cmpS_ev, cmp_t, cmpP, E.ev] at o1 o2
    refine ⟨rfl, ⟨o1, o2⟩, ?_⟩
    simp only [iV, V.s0, V.val, V2.val, S.val, S0.val, iF_ev (s := 95) (f := rootL) (fun l => by rw [(h 95 l (by decide)).1]; simp only [KT])]
    try rfl
  · exact hv.elim
def ctR2 : Ct := (46, cR2VB) :: (47, cR2H) :: (110, cCrossR) :: (50, cNear0) :: (32, cUpR) :: (54, cRootR) :: ctR1
theorem ctR2_ok {ρ : Env} (h : Sees ρ KT 96) : CtOk Tryz.prog ρ ctR2 := .cons (cR2VB_ok (KR_KG (KT_KR h))) <| .cons (cR2H_ok h) <| .cons (cR1Cr_ok (KR_KG (KT_KR h))) <| .cons (cR1W_ok (KR_KG (KT_KR h))) <| .cons (cUpR_ok h) <| .cons (cRootR_ok h) (ctR1_ok (KT_KR h))
end Go.Proofs.YtinfmmofcadjgaaGreat
/- Chapter 38: trees of the reference: Beside, Dist, GrowBox, of layer 3. -/
namespace Go.Proofs.YtinfmmofcadjgaaGreat
open Go.RowKit
-- term trR1B: call Tryz.prog ctR2 [] 100 76 (symArgs 0 [pt, pt, pt, pt, it]) [] 0
def trR1B : TT OpR :=
(.ob (.tru (.fn 5 (.i (.var 0) (.i (.var 1) (.i (.var 2) (.i (.var 3) (.i (.var 4) (.i (.var 5) (.i (.var 6) (.i (.var 7) .nil))))))))))
(.ite (.fn 6 (.i (.var 0) (.i (.var 1) (.i (.var 2) (.i (.var 3) (.i (.var 4) (.i (.var 5) (.i (.var 6) (.i (.var 7) .nil)))))))))
  (.ret ((.v (.one (.z (.bool (.lit true))))), [], 4))
  (.ob (.tru (.fn 1 (.i (.var 0) (.i (.var 1) (.i (.var 4) (.i (.var 5) (.i (.var 6) (.i (.var 7) .nil))))))))
  (.ob (.tru (.cmp .leq (.lit 0) (.var 8)))
  (.ob (.tru (.cmp .leq (.var 8) (.lit 3000000)))
  (.ite (.fn 2 (.i (.var 0) (.i (.var 1) (.i (.var 4) (.i (.var 5) (.i (.var 6) (.i (.var 7) (.i (.var 8) .nil))))))))
    (.ret ((.v (.one (.z (.bool (.lit true))))), [], 4))
    (.ob (.tru (.fn 1 (.i (.var 2) (.i (.var 3) (.i (.var 4) (.i (.var 5) (.i (.var 6) (.i (.var 7) .nil))))))))
    (.ob (.tru (.cmp .leq (.lit 0) (.var 8)))
    (.ob (.tru (.cmp .leq (.var 8) (.lit 3000000)))
    (.ite (.fn 2 (.i (.var 2) (.i (.var 3) (.i (.var 4) (.i (.var 5) (.i (.var 6) (.i (.var 7) (.i (.var 8) .nil))))))))
      (.ret ((.v (.one (.z (.bool (.lit true))))), [], 4))
      (.ob (.tru (.fn 1 (.i (.var 4) (.i (.var 5) (.i (.var 0) (.i (.var 1) (.i (.var 2) (.i (.var 3) .nil))))))))
      (.ob (.tru (.cmp .leq (.lit 0) (.var 8)))
      (.ob (.tru (.cmp .leq (.var 8) (.lit 3000000)))
      (.ite (.fn 2 (.i (.var 4) (.i (.var 5) (.i (.var 0) (.i (.var 1) (.i (.var 2) (.i (.var 3) (.i (.var 8) .nil))))))))
        (.ret ((.v (.one (.z (.bool (.lit true))))), [], 4))
        (.ob (.tru (.fn 1 (.i (.var 6) (.i (.var 7) (.i (.var 0) (.i (.var 1) (.i (.var 2) (.i (.var 3) .nil))))))))
        (.ob (.tru (.cmp .leq (.lit 0) (.var 8)))
        (.ob (.tru (.cmp .leq (.var 8) (.lit 3000000)))
        (.ret ((.v (.one (.z (.bool (.fn 2 (.i (.var 6) (.i (.var 7) (.i (.var 0) (.i (.var 1) (.i (.var 2) (.i (.var 3) (.i (.var 8) .nil)))))))))))), [], 4)))))))))))))))))))
-- end trR1B
set_option maxRecDepth 100000 in
theorem trR1B_is : T.norm 0 (call Tryz.prog ctR2 [] 100 76 (symArgs 0 [pt, pt, pt, pt, it]) [] 0) TT.ret = trR1B := by kernel_rfl
theorem trR1B_low : trR1B.low 1000 = true := by kernel_rfl
-- term trR1D: call Tryz.prog ctR2 [] 100 31 (symArgs 0 [pt, pt]) [] 0
def trR1D : TT OpR :=
(.ite (.not (.fn 3 (.i (.var 0) (.i (.var 1) .nil))))
  (.ret ((.tup [(.agg [(.z (.int .i64 (.lit 0))), (.z (.int .i64 (.lit 0)))]), (.one (.z (.int .i64 (.lit 1))))]), [], 3))
  (.ite (.not (.fn 3 (.i (.var 2) (.i (.var 3) .nil))))
    (.ret ((.tup [(.agg [(.z (.int .i64 (.lit 0))), (.z (.int .i64 (.lit 0)))]), (.one (.z (.int .i64 (.lit 1))))]), [], 3))
    (.ob (.tru (.cmp .leq (.lit 0) (.ar .add .i64 (.ar .mul .i64 (.ar .sub .i64 (.var 2) (.var 0)) (.ar .sub .i64 (.var 2) (.var 0))) (.ar .mul .i64 (.ar .sub .i64 (.var 3) (.var 1)) (.ar .sub .i64 (.var 3) (.var 1))))))
    (.ob (.tru (.cmp .leq (.ar .add .i64 (.ar .mul .i64 (.ar .sub .i64 (.var 2) (.var 0)) (.ar .sub .i64 (.var 2) (.var 0))) (.ar .mul .i64 (.ar .sub .i64 (.var 3) (.var 1)) (.ar .sub .i64 (.var 3) (.var 1)))) (.lit 8000000000000)))
    (.ob (.tru (.cmp .leq (.lit 0) (.ar .add .i64 (.ar .mul .i64 (.ar .sub .i64 (.var 2) (.var 0)) (.ar .sub .i64 (.var 2) (.var 0))) (.ar .mul .i64 (.ar .sub .i64 (.var 3) (.var 1)) (.ar .sub .i64 (.var 3) (.var 1))))))
    (.ob (.tru (.cmp .leq (.ar .add .i64 (.ar .mul .i64 (.ar .sub .i64 (.var 2) (.var 0)) (.ar .sub .i64 (.var 2) (.var 0))) (.ar .mul .i64 (.ar .sub .i64 (.var 3) (.var 1)) (.ar .sub .i64 (.var 3) (.var 1)))) (.lit 8000000000000)))
    (.ite (.cmp .lss (.ar .mul .i64 (.fn 95 (.i (.ar .add .i64 (.ar .mul .i64 (.ar .sub .i64 (.var 2) (.var 0)) (.ar .sub .i64 (.var 2) (.var 0))) (.ar .mul .i64 (.ar .sub .i64 (.var 3) (.var 1)) (.ar .sub .i64 (.var 3) (.var 1)))) .nil)) (.fn 95 (.i (.ar .add .i64 (.ar .mul .i64 (.ar .sub .i64 (.var 2) (.var 0)) (.ar .sub .i64 (.var 2) (.var 0))) (.ar .mul .i64 (.ar .sub .i64 (.var 3) (.var 1)) (.ar .sub .i64 (.var 3) (.var 1)))) .nil))) (.ar .add .i64 (.ar .mul .i64 (.ar .sub .i64 (.var 2) (.var 0)) (.ar .sub .i64 (.var 2) (.var 0))) (.ar .mul .i64 (.ar .sub .i64 (.var 3) (.var 1)) (.ar .sub .i64 (.var 3) (.var 1)))))
      (.ret ((.tup [(.agg [(.z (.int .i64 (.fn 95 (.i (.ar .add .i64 (.ar .mul .i64 (.ar .sub .i64 (.var 2) (.var 0)) (.ar .sub .i64 (.var 2) (.var 0))) (.ar .mul .i64 (.ar .sub .i64 (.var 3) (.var 1)) (.ar .sub .i64 (.var 3) (.var 1)))) .nil)))), (.z (.int .i64 (.ar .add .i64 (.fn 95 (.i (.ar .add .i64 (.ar .mul .i64 (.ar .sub .i64 (.var 2) (.var 0)) (.ar .sub .i64 (.var 2) (.var 0))) (.ar .mul .i64 (.ar .sub .i64 (.var 3) (.var 1)) (.ar .sub .i64 (.var 3) (.var 1)))) .nil)) (.lit 1))))]), (.one (.z (.int .i64 (.lit 0))))]), [], 14))
      (.ret ((.tup [(.agg [(.z (.int .i64 (.fn 95 (.i (.ar .add .i64 (.ar .mul .i64 (.ar .sub .i64 (.var 2) (.var 0)) (.ar .sub .i64 (.var 2) (.var 0))) (.ar .mul .i64 (.ar .sub .i64 (.var 3) (.var 1)) (.ar .sub .i64 (.var 3) (.var 1)))) .nil)))), (.z (.int .i64 (.fn 95 (.i (.ar .add .i64 (.ar .mul .i64 (.ar .sub .i64 (.var 2) (.var 0)) (.ar .sub .i64 (.var 2) (.var 0))) (.ar .mul .i64 (.ar .sub .i64 (.var 3) (.var 1)) (.ar .sub .i64 (.var 3) (.var 1)))) .nil))))]), (.one (.z (.int .i64 (.lit 0))))]), [], 14)))))))))
-- end trR1D
set_option maxRecDepth 100000 in
theorem trR1D_is : T.norm 0 (call Tryz.prog ctR2 [] 100 31 (symArgs 0 [pt, pt]) [] 0) TT.ret = trR1D := by kernel_rfl
theorem trR1D_low : trR1D.low 1000 = true := by kernel_rfl
-- term trR2GB: call Tryz.prog ctR2 [] 100 43 (symArgs 0 [bx, it]) [] 0
def trR2GB : TT OpR :=
(.ite (.not (.fn 31 (.i (.var 0) (.i (.var 1) (.i (.var 2) (.i (.var 3) .nil))))))
  (.ret ((.tup [(.agg [(.z (.int .i64 (.lit 0))), (.z (.int .i64 (.lit 0))), (.z (.int .i64 (.lit 0))), (.z (.int .i64 (.lit 0)))]), (.one (.z (.int .i64 (.lit 1))))]), [], 2))
  (.ite (.cmp .lss (.var 4) (.lit 0))
    (.ret ((.tup [(.agg [(.z (.int .i64 (.lit 0))), (.z (.int .i64 (.lit 0))), (.z (.int .i64 (.lit 0))), (.z (.int .i64 (.lit 0)))]), (.one (.z (.int .i64 (.lit 1))))]), [], 2))
    (.ite (.cmp .gtr (.var 4) (.lit 3000000))
      (.ret ((.tup [(.agg [(.z (.int .i64 (.lit 0))), (.z (.int .i64 (.lit 0))), (.z (.int .i64 (.lit 0))), (.z (.int .i64 (.lit 0)))]), (.one (.z (.int .i64 (.lit 1))))]), [], 2))
      (.ite (.not (.fn 31 (.i (.ar .sub .i64 (.var 0) (.var 4)) (.i (.ar .add .i64 (.var 1) (.var 4)) (.i (.ar .sub .i64 (.var 2) (.var 4)) (.i (.ar .add .i64 (.var 3) (.var 4)) .nil))))))
        (.ret ((.tup [(.agg [(.z (.int .i64 (.lit 0))), (.z (.int .i64 (.lit 0))), (.z (.int .i64 (.lit 0))), (.z (.int .i64 (.lit 0)))]), (.one (.z (.int .i64 (.lit 3))))]), [], 3))
        (.ret ((.tup [(.agg [(.z (.int .i64 (.ar .sub .i64 (.var 0) (.var 4)))), (.z (.int .i64 (.ar .add .i64 (.var 1) (.var 4)))), (.z (.int .i64 (.ar .sub .i64 (.var 2) (.var 4)))), (.z (.int .i64 (.ar .add .i64 (.var 3) (.var 4))))]), (.one (.z (.int .i64 (.lit 0))))]), [], 3))))))
-- end trR2GB
set_option maxRecDepth 100000 in
theorem trR2GB_is : T.norm 0 (call Tryz.prog ctR2 [] 100 43 (symArgs 0 [bx, it]) [] 0) TT.ret = trR2GB := by kernel_rfl
theorem trR2GB_low : trR2GB.low 1000 = true := by kernel_rfl
-- term trR3T: call Tryz.prog ctR2 [] 100 101 (symArgs 0 [pt, pt, pt]) [] 0
def trR3T : TT OpR :=
(.ret ((.v (.one (.z (.int .i64 (.fn 90 (.i (.ar .sub .i64 (.ar .mul .i64 (.ar .sub .i64 (.var 2) (.var 0)) (.ar .sub .i64 (.var 5) (.var 1))) (.ar .mul .i64 (.ar .sub .i64 (.var 3) (.var 1)) (.ar .sub .i64 (.var 4) (.var 0)))) .nil)))))), [], 11))
-- end trR3T
set_option maxRecDepth 100000 in
theorem trR3T_is : T.norm 0 (call Tryz.prog ctR2 [] 100 101 (symArgs 0 [pt, pt, pt]) [] 0) TT.ret = trR3T := by kernel_rfl
theorem trR3T_low : trR3T.low 1000 = true := by kernel_rfl
-- term trR3L: call Tryz.prog ctR2 [] 100 100 (symArgs 0 [pt, pt]) [] 0
def trR3L : TT OpR :=
(.ite (.cmp .lss (.var 0) (.var 2))
  (.ret ((.v (.one (.z (.bool (.lit true))))), [], 2))
  (.ite (.cmp .eql (.var 0) (.var 2))
    (.ret ((.v (.one (.z (.bool (.cmp .lss (.var 1) (.var 3)))))), [], 2))
    (.ret ((.v (.one (.z (.bool (.lit false))))), [], 2))))
-- end trR3L
set_option maxRecDepth 100000 in
theorem trR3L_is : T.norm 0 (call Tryz.prog ctR2 [] 100 100 (symArgs 0 [pt, pt]) [] 0) TT.ret = trR3L := by kernel_rfl
theorem trR3L_low : trR3L.low 1000 = true := by kernel_rfl
-- term trR3S: call Tryz.prog ctR2 [] 100 103 (symArgs 0 [pts]) [] 0
def trR3S : TT OpR :=
(.loop 0 1000 ⟨[(0, (.lit 0))], [], []⟩
  (.ite (.cmp .lss (.var 1000) (.len (.var 0)))
    (.loop 1 2000 ⟨[(0, (.ar .add .i64 (.var 1000) (.lit 2)))], [], []⟩
      (.ite (.cmp .lss (.var 2000) (.len (.var 0)))
        (.ite (.cmp .gtr (.var 1000) (.lit 0))
          (.ob (.tru (.cmp .leq (.lit 0) (.var 1000)))
          (.ob (.tru (.cmp .lss (.var 1000) (.len (.var 0))))
          (.ob (.tru (.cmp .neq (.len (.var 0)) (.lit 0)))
          (.ob (.tru (.cmp .leq (.lit 0) (.ar .rem .i64 (.ar .add .i64 (.var 1000) (.lit 1)) (.len (.var 0)))))
          (.ob (.tru (.cmp .lss (.ar .rem .i64 (.ar .add .i64 (.var 1000) (.lit 1)) (.len (.var 0))) (.len (.var 0))))
          (.ob (.tru (.cmp .leq (.lit 0) (.var 2000)))
          (.ob (.tru (.cmp .lss (.var 2000) (.len (.var 0))))
          (.ob (.tru (.cmp .neq (.len (.var 0)) (.lit 0)))
          (.ob (.tru (.cmp .leq (.lit 0) (.ar .rem .i64 (.ar .add .i64 (.var 2000) (.lit 1)) (.len (.var 0)))))
          (.ob (.tru (.cmp .lss (.ar .rem .i64 (.ar .add .i64 (.var 2000) (.lit 1)) (.len (.var 0))) (.len (.var 0))))
          (.ob (.tru (.fn 5 (.i (.rd (.var 0) (.var 1000) 0) (.i (.rd (.var 0) (.var 1000) 1) (.i (.rd (.var 0) (.ar .rem .i64 (.ar .add .i64 (.var 1000) (.lit 1)) (.len (.var 0))) 0) (.i (.rd (.var 0) (.ar .rem .i64 (.ar .add .i64 (.var 1000) (.lit 1)) (.len (.var 0))) 1) (.i (.rd (.var 0) (.var 2000) 0) (.i (.rd (.var 0) (.var 2000) 1) (.i (.rd (.var 0) (.ar .rem .i64 (.ar .add .i64 (.var 2000) (.lit 1)) (.len (.var 0))) 0) (.i (.rd (.var 0) (.ar .rem .i64 (.ar .add .i64 (.var 2000) (.lit 1)) (.len (.var 0))) 1) .nil))))))))))
          (.ite (.fn 6 (.i (.rd (.var 0) (.var 1000) 0) (.i (.rd (.var 0) (.var 1000) 1) (.i (.rd (.var 0) (.ar .rem .i64 (.ar .add .i64 (.var 1000) (.lit 1)) (.len (.var 0))) 0) (.i (.rd (.var 0) (.ar .rem .i64 (.ar .add .i64 (.var 1000) (.lit 1)) (.len (.var 0))) 1) (.i (.rd (.var 0) (.var 2000) 0) (.i (.rd (.var 0) (.var 2000) 1) (.i (.rd (.var 0) (.ar .rem .i64 (.ar .add .i64 (.var 2000) (.lit 1)) (.len (.var 0))) 0) (.i (.rd (.var 0) (.ar .rem .i64 (.ar .add .i64 (.var 2000) (.lit 1)) (.len (.var 0))) 1) .nil)))))))))
            (.ret ((.v (.one (.z (.bool (.lit false))))), [], 4))
            (.next 1 ⟨[(0, (.ar .add .i64 (.var 2000) (.lit 1)))], [], []⟩)))))))))))))
          (.ite (.cmp .lss (.var 2000) (.ar .sub .i64 (.len (.var 0)) (.lit 1)))
            (.ob (.tru (.cmp .leq (.lit 0) (.var 1000)))
            (.ob (.tru (.cmp .lss (.var 1000) (.len (.var 0))))
            (.ob (.tru (.cmp .neq (.len (.var 0)) (.lit 0)))
            (.ob (.tru (.cmp .leq (.lit 0) (.ar .rem .i64 (.ar .add .i64 (.var 1000) (.lit 1)) (.len (.var 0)))))
            (.ob (.tru (.cmp .lss (.ar .rem .i64 (.ar .add .i64 (.var 1000) (.lit 1)) (.len (.var 0))) (.len (.var 0))))
            (.ob (.tru (.cmp .leq (.lit 0) (.var 2000)))
            (.ob (.tru (.cmp .lss (.var 2000) (.len (.var 0))))
            (.ob (.tru (.cmp .neq (.len (.var 0)) (.lit 0)))
            (.ob (.tru (.cmp .leq (.lit 0) (.ar .rem .i64 (.ar .add .i64 (.var 2000) (.lit 1)) (.len (.var 0)))))
            (.ob (.tru (.cmp .lss (.ar .rem .i64 (.ar .add .i64 (.var 2000) (.lit 1)) (.len (.var 0))) (.len (.var 0))))
            (.ob (.tru (.fn 5 (.i (.rd (.var 0) (.var 1000) 0) (.i (.rd (.var 0) (.var 1000) 1) (.i (.rd (.var 0) (.ar .rem .i64 (.ar .add .i64 (.var 1000) (.lit 1)) (.len (.var 0))) 0) (.i (.rd (.var 0) (.ar .rem .i64 (.ar .add .i64 (.var 1000) (.lit 1)) (.len (.var 0))) 1) (.i (.rd (.var 0) (.var 2000) 0) (.i (.rd (.var 0) (.var 2000) 1) (.i (.rd (.var 0) (.ar .rem .i64 (.ar .add .i64 (.var 2000) (.lit 1)) (.len (.var 0))) 0) (.i (.rd (.var 0) (.ar .rem .i64 (.ar .add .i64 (.var 2000) (.lit 1)) (.len (.var 0))) 1) .nil))))))))))
            (.ite (.fn 6 (.i (.rd (.var 0) (.var 1000) 0) (.i (.rd (.var 0) (.var 1000) 1) (.i (.rd (.var 0) (.ar .rem .i64 (.ar .add .i64 (.var 1000) (.lit 1)) (.len (.var 0))) 0) (.i (.rd (.var 0) (.ar .rem .i64 (.ar .add .i64 (.var 1000) (.lit 1)) (.len (.var 0))) 1) (.i (.rd (.var 0) (.var 2000) 0) (.i (.rd (.var 0) (.var 2000) 1) (.i (.rd (.var 0) (.ar .rem .i64 (.ar .add .i64 (.var 2000) (.lit 1)) (.len (.var 0))) 0) (.i (.rd (.var 0) (.ar .rem .i64 (.ar .add .i64 (.var 2000) (.lit 1)) (.len (.var 0))) 1) .nil)))))))))
              (.ret ((.v (.one (.z (.bool (.lit false))))), [], 4))
              (.next 1 ⟨[(0, (.ar .add .i64 (.var 2000) (.lit 1)))], [], []⟩)))))))))))))
            (.next 1 ⟨[(0, (.ar .add .i64 (.var 2000) (.lit 1)))], [], []⟩)))
        (.next 0 ⟨[(0, (.ar .add .i64 (.var 1000) (.lit 1)))], [], []⟩)))
    (.ret ((.v (.one (.z (.bool (.lit true))))), [], 4))))
-- end trR3S
set_option maxRecDepth 100000 in
theorem trR3S_is : T.norm 0 (call Tryz.prog ctR2 [] 100 103 (symArgs 0 [pts]) [] 0) TT.ret = trR3S := by kernel_rfl
theorem trR3S_low : trR3S.low 1000 = true := by kernel_rfl
-- term trR3W: call Tryz.prog ctR2 [] 100 104 (symArgs 0 [pts]) [] 0
def trR3W : TT OpR :=
(.loop 0 1000 ⟨[(0, (.lit 0)), (1, (.lit 0))], [], []⟩
  (.ite (.cmp .lss (.var 1001) (.len (.var 0)))
    (.ob (.tru (.cmp .leq (.lit 0) (.var 1001)))
    (.ob (.tru (.cmp .lss (.var 1001) (.len (.var 0))))
    (.ob (.tru (.cmp .neq (.len (.var 0)) (.lit 0)))
    (.ob (.tru (.cmp .leq (.lit 0) (.ar .rem .i64 (.ar .add .i64 (.var 1001) (.lit 1)) (.len (.var 0)))))
    (.ob (.tru (.cmp .lss (.ar .rem .i64 (.ar .add .i64 (.var 1001) (.lit 1)) (.len (.var 0))) (.len (.var 0))))
    (.next 0 ⟨[(0, (.ar .add .i64 (.var 1000) (.ar .sub .i64 (.ar .mul .i64 (.rd (.var 0) (.var 1001) 0) (.rd (.var 0) (.ar .rem .i64 (.ar .add .i64 (.var 1001) (.lit 1)) (.len (.var 0))) 1)) (.ar .mul .i64 (.rd (.var 0) (.var 1001) 1) (.rd (.var 0) (.ar .rem .i64 (.ar .add .i64 (.var 1001) (.lit 1)) (.len (.var 0))) 0))))), (1, (.ar .add .i64 (.var 1001) (.lit 1)))], [], []⟩))))))
    (.ret ((.v (.one (.z (.int .i64 (.var 1000))))), [], 4))))
-- end trR3W
set_option maxRecDepth 100000 in
theorem trR3W_is : T.norm 0 (call Tryz.prog ctR2 [] 100 104 (symArgs 0 [pts]) [] 0) TT.ret = trR3W := by kernel_rfl
theorem trR3W_low : trR3W.low 1000 = true := by kernel_rfl
end Go.Proofs.YtinfmmofcadjgaaGreat
/- Chapter 38: the reference: Beside, Dist, GrowBox; layer 3's turn, less, simple, twice. -/
namespace Go.Proofs.YtinfmmofcadjgaaGreat
open Go.RowKit
theorem KTb1 (W : World) (ds l : List D) : (envOf KT W ds).fb 1 l = six6 l := by simp only [envOf, KT, KR, KG, KF, KE, KD, KC, KB, KA, K9, K8, K7, K6, K5, K]
theorem KTb2 (W : World) (ds l : List D) : (envOf KT W ds).fb 2 l = nearL l := by simp only [envOf, KT, KR, KG, KF, KE, KD, KC, KB, KA, K9, K8, K7, K6, K5, K]
theorem KTb3 (W : World) (ds l : List D) : (envOf KT W ds).fb 3 l = placeL l := by simp only [envOf, KT, KR, KG, KF, KE, KD, KC, KB, KA, K9, K8, K7, K6, K5, K]
theorem KTb5 (W : World) (ds l : List D) : (envOf KT W ds).fb 5 l = eight l := by simp only [envOf, KT, KR, KG, KF, KE, KD, KC, KB, KA, K9, K8, K7, K6, K5, K]
theorem KTb6 (W : World) (ds l : List D) : (envOf KT W ds).fb 6 l = meetL l := by simp only [envOf, KT, KR, KG, KF, KE, KD, KC, KB, KA, K9, K8, K7, K6, K5, K]
theorem KTb31 (W : World) (ds l : List D) : (envOf KT W ds).fb 31 l = boxL l := by simp only [envOf, KT, KR, KG, KF, KE, KD, KC, KB, KA, K9, K8, K7, K6, K5, K]
theorem KTi90 (W : World) (ds l : List D) : (envOf KT W ds).fi 90 l = sgnL l := by simp only [envOf, KT, KR, KG, KF, KE, KD, KC, KB, KA, K9, K8, K7, K6, K5, K]
theorem KTi95 (W : World) (ds l : List D) : (envOf KT W ds).fi 95 l = rootL l := by simp only [envOf, KT, KR, KG, KF, KE, KD, KC, KB, KA, K9, K8, K7, K6, K5, K]
theorem gR1B : GivesIf Tryz.prog 76 [pt, pt, pt, pt, it] (fun ds => closeOk ds = true) (fun ds => .bool (closeL ds)) := by
  refine fn_gives KT (by kernel_rfl) (fun ρ h => ctR2_ok (Sees.of h 96)) (by kernel_rfl) trR1B_is trR1B_low (by decide) (fun W vals ds _ hok => ?_)
  simp only [closeOk, eight, Bool.and_eq_true, distB, decide_eq_true_eq] at hok
  obtain ⟨⟨a, b, c, d⟩, r0, r1⟩ := hok
  simp only [trR1B, TT.sat_ret, TT.sat_ite, TT.sat_ob, TT.sat_next, TT.sat_stuck, put_i, put_b, put_d, put_fi, put_fb, put_fd, Ob.ok, B.ev, E.ev, X.ev, AL.ev, cmp_t, cmp_f, arEv, V.plain, V2.plain, S.plain, S0.plain, V.val, V2.val, S.val, S0.val, bV, iV, List.all_cons, List.all_nil, Bool.and_true, Bool.and_self, envOf_i, envOf_b, envOf_d, List.map_cons, List.map_nil, true_and, Bool.not_eq_true', Bool.not_eq_false', Bool.not_not, Bool.and_eq_true, and_f, cell_lg, cell_lb, cell_lr, cmpP, val_i, val_b, val_d, aget, Nat.reduceBEq, beq_self_eq_true, Bool.false_eq_true, if_true, if_false, Nat.reduceLT, Nat.reduceSub, Nat.sub_self, Nat.lt_irrefl, KTb1, KTb2, KTb5, KTb6, six_six, near_sev, eight_eight, meet_eight]
  simp only [closeL, closeB, a, b, c, d, Bool.and_self]
  refine ⟨by simp, fun m => ?_, fun m => ⟨by simp, r0, r1, fun n1 => ?_, fun n1 => ⟨by simp, r0, r1, fun n2 => ?_, fun n2 => ⟨by simp, r0, r1, fun n3 => ?_, fun n3 => ⟨by simp, r0, r1, ?_⟩⟩⟩⟩⟩
  · rw [m]; rfl
  · rw [m, n1]; rfl
  · rw [m, n1, n2]; rfl
  · rw [m, n1, n2, n3]; rfl
  · rw [m, n1, n2, n3]; rfl
theorem root_one (n : Int) : rootL [.i n] = rootI n := rfl
theorem gR1D : Gives Tryz.prog 31 [pt, pt] distV := by
  refine GivesIf.all (fn_gives KT (by kernel_rfl) (fun ρ h => ctR2_ok (Sees.of h 96)) (by kernel_rfl) trR1D_is trR1D_low (by decide) (fun W vals ds _ _ => ?_))
  simp only [trR1D, TT.sat_ret, TT.sat_ite, TT.sat_ob, TT.sat_next, TT.sat_stuck, put_i, put_b, put_d, put_fi, put_fb, put_fd, Ob.ok, B.ev, E.ev, X.ev, AL.ev, cmp_t, cmp_f, arEv, V.plain, V2.plain, S.plain, S0.plain, V.val, V2.val, S.val, S0.val, bV, iV, List.all_cons, List.all_nil, Bool.and_true, Bool.and_self, envOf_i, envOf_b, envOf_d, List.map_cons, List.map_nil, true_and, Bool.not_eq_true', Bool.not_eq_false', Bool.not_not, Bool.and_eq_true, and_f, cell_lg, cell_lb, cell_lr, cmpP, val_i, val_b, val_d, aget, Nat.reduceBEq, beq_self_eq_true, Bool.false_eq_true, if_true, if_false, Nat.reduceLT, Nat.reduceSub, Nat.sub_self, Nat.lt_irrefl, KTb3, KTi95, place_two, root_one]
  refine ⟨fun h => ?_, fun h => ⟨fun h' => ?_, fun h' => ?_⟩⟩
  · simp [distV, four4, h]
  · simp [distV, four4, h']
  have hd := dist2_le h h'
  rw [placeB_iff] at h h'
  have e : IntKind.i64.wrap (IntKind.i64.wrap (IntKind.i64.wrap (iAt ds 2 - iAt ds 0) * IntKind.i64.wrap (iAt ds 2 - iAt ds 0)) + IntKind.i64.wrap (IntKind.i64.wrap (iAt ds 3 - iAt ds 1) * IntKind.i64.wrap (iAt ds 3 - iAt ds 1))) = dist2 (iAt ds 0) (iAt ds 1) (iAt ds 2) (iAt ds 3) := by
    rw [w_sub h'.1 h.1, w_sub h'.2 h.2, w_mul1 h'.1 h.1 h'.1 h.1, w_mul1 h'.2 h.2 h'.2 h.2, w_add h'.1 h.1 h'.1 h.1 h'.2 h.2 h'.2 h.2]; rfl
  rw [e]
  obtain ⟨r1, r2, r3⟩ := rootN_spec 23 0 (dist2 (iAt ds 0) (iAt ds 1) (iAt ds 2) (iAt ds 3)) (by omega) (by omega) (by simp; omega)
  have r2' : rootI (dist2 (iAt ds 0) (iAt ds 1) (iAt ds 2) (iAt ds 3)) * rootI (dist2 (iAt ds 0) (iAt ds 1) (iAt ds 2) (iAt ds 3)) ≤ dist2 (iAt ds 0) (iAt ds 1) (iAt ds 2) (iAt ds 3) := r2
  have hr : 0 ≤ rootI (dist2 (iAt ds 0) (iAt ds 1) (iAt ds 2) (iAt ds 3)) := r1
  have hr' : rootI (dist2 (iAt ds 0) (iAt ds 1) (iAt ds 2) (iAt ds 3)) ≤ 3000000 := by
    rcases Int.lt_or_le 3000000 (rootI (dist2 (iAt ds 0) (iAt ds 1) (iAt ds 2) (iAt ds 3))) with c | c
    · have := Int.mul_le_mul (show (3000000 : Int) ≤ _ from Int.le_of_lt c) (show (3000000 : Int) ≤ _ from Int.le_of_lt c) (by omega) hr
      omega
    · exact c
  have h1 : placeB (iAt ds 0) (iAt ds 1) = true := placeB_iff.mpr h
  have h2 : placeB (iAt ds 2) (iAt ds 3) = true := placeB_iff.mpr h'
  have n0 := sq_nn (rootI (dist2 (iAt ds 0) (iAt ds 1) (iAt ds 2) (iAt ds 3)))
  rw [wrap_in (rootI (dist2 (iAt ds 0) (iAt ds 1) (iAt ds 2) (iAt ds 3)) * rootI (dist2 (iAt ds 0) (iAt ds 1) (iAt ds 2) (iAt ds 3))) (by omega) (by omega), wrap_in (rootI (dist2 (iAt ds 0) (iAt ds 1) (iAt ds 2) (iAt ds 3)) + 1) (by omega) (by omega)]
  refine ⟨by omega, by omega, by omega, by omega, fun q => ?_, fun q => ?_⟩
  · have q' : ¬ rootI (dist2 (iAt ds 0) (iAt ds 1) (iAt ds 2) (iAt ds 3)) * rootI (dist2 (iAt ds 0) (iAt ds 1) (iAt ds 2) (iAt ds 3)) = dist2 (iAt ds 0) (iAt ds 1) (iAt ds 2) (iAt ds 3) := by omega
    have eH : distHi (iAt ds 0) (iAt ds 1) (iAt ds 2) (iAt ds 3) = rootI (dist2 (iAt ds 0) (iAt ds 1) (iAt ds 2) (iAt ds 3)) + 1 := if_neg q'
    simp only [distV, four4, h1, h2, Bool.and_self, if_true, eH, distLo]
  · have q' : rootI (dist2 (iAt ds 0) (iAt ds 1) (iAt ds 2) (iAt ds 3)) * rootI (dist2 (iAt ds 0) (iAt ds 1) (iAt ds 2) (iAt ds 3)) = dist2 (iAt ds 0) (iAt ds 1) (iAt ds 2) (iAt ds 3) := by omega
    have eH : distHi (iAt ds 0) (iAt ds 1) (iAt ds 2) (iAt ds 3) = rootI (dist2 (iAt ds 0) (iAt ds 1) (iAt ds 2) (iAt ds 3)) := if_pos q'
    simp only [distV, four4, h1, h2, Bool.and_self, if_true, eH, distLo]
theorem gR2GB : Gives Tryz.prog 43 [bx, it] growV := by
  refine GivesIf.all (fn_gives KT (by kernel_rfl) (fun ρ h => ctR2_ok (Sees.of h 96)) (by kernel_rfl) trR2GB_is trR2GB_low (by decide) (fun W vals ds _ _ => ?_))
  simp only [trR2GB, TT.sat_ret, TT.sat_ite, TT.sat_ob, TT.sat_next, TT.sat_stuck, put_i, put_b, put_d, put_fi, put_fb, put_fd, Ob.ok, B.ev, E.ev, X.ev, AL.ev, cmp_t, cmp_f, arEv, V.plain, V2.plain, S.plain, S0.plain, V.val, V2.val, S.val, S0.val, bV, iV, List.all_cons, List.all_nil, Bool.and_true, Bool.and_self, envOf_i, envOf_b, envOf_d, List.map_cons, List.map_nil, true_and, Bool.not_eq_true', Bool.not_eq_false', Bool.not_not, Bool.and_eq_true, and_f, cell_lg, cell_lb, cell_lr, cmpP, val_i, val_b, val_d, aget, Nat.reduceBEq, beq_self_eq_true, Bool.false_eq_true, if_true, if_false, Nat.reduceLT, Nat.reduceSub, Nat.sub_self, Nat.lt_irrefl, KTb31, box_four]
  refine ⟨fun h => ?_, fun h => ⟨fun h1 => ?_, fun h1 => ⟨fun h2 => ?_, fun h2 => ?_⟩⟩⟩
  · rw [growV_eq]; unfold growA growB growC growD growE growX growO; simp [h, boxE]
  · rw [growV_eq]; unfold growA growB growC growD growE growX growO; simp [h, boxE]; omega
  · rw [growV_eq]; unfold growA growB growC growD growE growX growO; simp [h, boxE]; omega
  · have hb := h
    rw [boxB_t] at hb
    rw [wrap_in (iAt ds 0 - iAt ds 4) (by omega) (by omega), wrap_in (iAt ds 1 + iAt ds 4) (by omega) (by omega), wrap_in (iAt ds 2 - iAt ds 4) (by omega) (by omega), wrap_in (iAt ds 3 + iAt ds 4) (by omega) (by omega)]
    have hr : 0 ≤ iAt ds 4 ∧ iAt ds 4 ≤ 3000000 := by omega
    refine ⟨fun q => ?_, fun q => ?_⟩
    · rw [growV_eq]; unfold growA growB growC growD growE growX growO; simp [h, q, hr, boxE]
    · rw [growV_eq]; unfold growA growB growC growD growE growX growO; simp [h, q, hr, boxE]
theorem gR3T : GivesIf Tryz.prog 101 [pt, pt, pt] (fun ds => six6 ds = true) (fun ds => .int .i64 (turnL ds)) := by
  refine fn_gives KT (by kernel_rfl) (fun ρ h => ctR2_ok (Sees.of h 96)) (by kernel_rfl) trR3T_is trR3T_low (by decide) (fun W vals ds _ hok => ?_)
  obtain ⟨h0, h1, h2, h3, h4, h5⟩ := six_of hok
  simp only [trR3T, TT.sat_ret, TT.sat_ite, TT.sat_ob, TT.sat_next, TT.sat_stuck, put_i, put_b, put_d, put_fi, put_fb, put_fd, Ob.ok, B.ev, E.ev, X.ev, AL.ev, cmp_t, cmp_f, arEv, V.plain, V2.plain, S.plain, S0.plain, V.val, V2.val, S.val, S0.val, bV, iV, List.all_cons, List.all_nil, Bool.and_true, Bool.and_self, envOf_i, envOf_b, envOf_d, List.map_cons, List.map_nil, true_and, Bool.not_eq_true', Bool.not_eq_false', Bool.not_not, Bool.and_eq_true, and_f, cell_lg, cell_lb, cell_lr, cmpP, val_i, val_b, val_d, aget, Nat.reduceBEq, beq_self_eq_true, Bool.false_eq_true, if_true, if_false, Nat.reduceLT, Nat.reduceSub, Nat.sub_self, Nat.lt_irrefl, KTi90, sgn_one]
  rw [w_sub h2 h0, w_sub h5 h1, w_sub h3 h1, w_sub h4 h0, (w_mul h2 h0 h5 h1).1, (w_mul h3 h1 h4 h0).1, (w_crs h2 h0 h5 h1 h3 h1 h4 h0).1]
  rfl
def lessB (a b x y : Int) : Bool := decide (a < x ∨ (a = x ∧ b < y))
def lessL (ds : List D) : Bool := lessB (iAt ds 0) (iAt ds 1) (iAt ds 2) (iAt ds 3)
theorem gR3L : Gives Tryz.prog 100 [pt, pt] (fun ds => .bool (lessL ds)) := by
  refine GivesIf.all (fn_gives KT (by kernel_rfl) (fun ρ h => ctR2_ok (Sees.of h 96)) (by kernel_rfl) trR3L_is trR3L_low (by decide) (fun W vals ds _ _ => ?_))
  simp only [trR3L, TT.sat_ret, TT.sat_ite, TT.sat_ob, TT.sat_next, TT.sat_stuck, put_i, put_b, put_d, put_fi, put_fb, put_fd, Ob.ok, B.ev, E.ev, X.ev, AL.ev, cmp_t, cmp_f, arEv, V.plain, V2.plain, S.plain, S0.plain, V.val, V2.val, S.val, S0.val, bV, iV, List.all_cons, List.all_nil, Bool.and_true, Bool.and_self, envOf_i, envOf_b, envOf_d, List.map_cons, List.map_nil, true_and, Bool.not_eq_true', Bool.not_eq_false', Bool.not_not, Bool.and_eq_true, and_f, cell_lg, cell_lb, cell_lr, cmpP, val_i, val_b, val_d, aget, Nat.reduceBEq, beq_self_eq_true, Bool.false_eq_true, if_true, if_false, Nat.reduceLT, Nat.reduceSub, Nat.sub_self, Nat.lt_irrefl]
  simp only [lessL, lessB]
  refine ⟨fun h => ?_, fun h => ⟨fun h' => ?_, fun h' => ?_⟩⟩
  all_goals (congr 1; rw [Bool.eq_iff_iff]; try rw [cmp_t])
  all_goals (simp only [cmpP, decide_eq_true_eq, Bool.false_eq_true, false_iff, true_iff]; omega)
theorem rem_next1 {n i : Nat} (h : i < n) (hn : n ≤ 281474976710656) : (IntKind.i64.wrap ((i : Int) + 1)).tmod (n : Int) = (nxt n i : Int) := by
  rw [wrap_in ((i : Int) + 1) (by omega) (by omega), Int.tmod_eq_emod_of_nonneg (by omega)]
  unfold nxt
  split
  · rename_i h1
    rw [show ((i : Int) + 1) = n by omega, Int.emod_self]; rfl
  · rw [Int.emod_eq_of_lt (by omega) (by omega)]; rfl
theorem gR3W : Gives Tryz.prog 104 [pts] (fun ds => .int .i64 (twiceL ds)) := by
  refine GivesIf.all (fn_gives KT (by kernel_rfl) (fun ρ h => ctR2_ok (Sees.of h 96)) (by kernel_rfl) trR3W_is trR3W_low (by decide) (fun W vals ds hr _ => ?_))
  have hlen := pts_len hr
  simp only [trR3W]
  refine TT.sat_loop (fun v => ∃ i : Nat, v.i 1 = i ∧ i ≤ (rAt ds 0).length ∧ twiceN (rAt ds 0) ((rAt ds 0).length - i) i (v.i 0) = twiceN (rAt ds 0) (rAt ds 0).length 0 0) (fun v => (rAt ds 0).length - (v.i 1).toNat)
    ⟨0, by simp [val_i, aget, E.ev], by omega, by simp [val_i, aget, E.ev]⟩ (fun v hv => ?_)
  obtain ⟨i, i0, i1, i2⟩ := hv
  simp only [TT.sat_ret, TT.sat_ite, TT.sat_ob, TT.sat_next, TT.sat_stuck, put_i, put_b, put_d, put_fi, put_fb, put_fd, Ob.ok, B.ev, E.ev, X.ev, AL.ev, cmp_t, cmp_f, arEv, V.plain, V2.plain, S.plain, S0.plain, V.val, V2.val, S.val, S0.val, bV, iV, List.all_cons, List.all_nil, Bool.and_true, Bool.and_self, envOf_i, envOf_b, envOf_d, List.map_cons, List.map_nil, true_and, Bool.not_eq_true', Bool.not_eq_false', Bool.not_not, Bool.and_eq_true, and_f, cell_lg, cell_lb, cell_lr, cmpP, val_i, val_b, val_d, aget, Nat.reduceBEq, beq_self_eq_true, Bool.false_eq_true, if_true, if_false, Nat.reduceLT, Nat.reduceSub, Nat.sub_self, Nat.lt_irrefl, i0]
  refine ⟨fun hc => ?_, fun hc => ?_⟩
  · have hi : i < (rAt ds 0).length := by omega
    have hn := nxt_lt hi
    obtain ⟨f, hf⟩ : ∃ f, (rAt ds 0).length - i = f + 1 := ⟨(rAt ds 0).length - i - 1, by omega⟩
    rw [rem_next1 hi hlen, wrap_in ((i : Int) + 1) (by omega) (by omega)]
    rw [hf, twiceN] at i2
    have hf' : (rAt ds 0).length - (i + 1) = f := by omega
    exact ⟨by omega, by omega, by omega, by omega, by omega, ⟨i + 1, rfl, by omega, by rw [hf']; exact i2⟩, by omega⟩
  · have : (rAt ds 0).length - i = 0 := by omega
    rw [this, twiceN] at i2
    rw [twiceL, ← i2]
/-- Rows ahead of the one behind the next are right. -/
theorem rowN_skip {r : Rows} {i : Nat} : ∀ (m k f : Nat), k + m ≤ i + 2 → rowN r i (f + m) k = rowN r i f (k + m)
  | 0, k, f, _ => rfl
  | m + 1, k, f, h => by
    rw [← Nat.add_assoc, rowN, rowN_skip m (k + 1) f (by omega)]
    have : pairOk r i k = true := by unfold pairOk; rw [decide_eq_true (.inl (by omega))]; rfl
    rw [this, Bool.true_and, show k + 1 + m = k + (m + 1) by omega]
theorem rowN_from {r : Rows} {i : Nat} (hi : i < r.length) : rowN r i r.length 0 = rowN r i (r.length - (i + 2)) (i + 2) := by
  by_cases h : i + 2 ≤ r.length
  · have := rowN_skip (r := r) (i := i) (i + 2) 0 (r.length - (i + 2)) (by omega)
    rw [show r.length - (i + 2) + (i + 2) = r.length by omega, Nat.zero_add] at this
    exact this
  · have := rowN_skip (r := r) (i := i) r.length 0 0 (by omega)
    rw [Nat.zero_add] at this
    rw [this, show r.length - (i + 2) = 0 by omega]
    rfl
end Go.Proofs.YtinfmmofcadjgaaGreat
/- Chapter 38: the reference: layer 3's simple; contracts. -/
namespace Go.Proofs.YtinfmmofcadjgaaGreat
open Go.RowKit
def plL (ds : List D) : Bool := plN (rAt ds 0) (rAt ds 0).length 0
theorem gR3S : GivesIf Tryz.prog 103 [pts] (fun ds => plL ds = true) (fun ds => .bool (simpleL ds)) := by
  refine fn_gives KT (by kernel_rfl) (fun ρ h => ctR2_ok (Sees.of h 96)) (by kernel_rfl) trR3S_is trR3S_low (by decide) (fun W vals ds hr hok => ?_)
  have hlen := pts_len hr
  have hpl : ∀ k : Nat, k < (rAt ds 0).length → placeB (lg (rAt ds 0) k 0) (lg (rAt ds 0) k 1) = true := fun k hk => plN_spec _ 0 hok k (by omega) (by omega)
  simp only [trR3S]
  refine TT.sat_loop (fun v => ∃ i : Nat, v.i 0 = i ∧ i ≤ (rAt ds 0).length ∧ simpleN (rAt ds 0) ((rAt ds 0).length - i) i = simpleN (rAt ds 0) (rAt ds 0).length 0) (fun v => (rAt ds 0).length - (v.i 0).toNat)
    ⟨0, by simp [val_i, aget, E.ev], by omega, rfl⟩ (fun v hv => ?_)
  obtain ⟨i, i0, i1, i2⟩ := hv
  simp only [TT.sat_ret, TT.sat_ite, TT.sat_ob, TT.sat_next, TT.sat_stuck, put_i, put_b, put_d, put_fi, put_fb, put_fd, Ob.ok, B.ev, E.ev, X.ev, AL.ev, cmp_t, cmp_f, arEv, V.plain, V2.plain, S.plain, S0.plain, V.val, V2.val, S.val, S0.val, bV, iV, List.all_cons, List.all_nil, Bool.and_true, Bool.and_self, envOf_i, envOf_b, envOf_d, List.map_cons, List.map_nil, true_and, Bool.not_eq_true', Bool.not_eq_false', Bool.not_not, Bool.and_eq_true, and_f, cell_lg, cell_lb, cell_lr, cmpP, val_i, val_b, val_d, aget, Nat.reduceBEq, beq_self_eq_true, Bool.false_eq_true, if_true, if_false, Nat.reduceLT, Nat.reduceSub, Nat.sub_self, Nat.lt_irrefl, i0]
  refine ⟨fun hc => ?_, fun hc => ?_⟩
  · have hi : i < (rAt ds 0).length := by omega
    have hn := nxt_lt hi
    obtain ⟨f, hf⟩ : ∃ f, (rAt ds 0).length - i = f + 1 := ⟨(rAt ds 0).length - i - 1, by omega⟩
    rw [hf, simpleN, rowN_from hi] at i2
    have hf' : (rAt ds 0).length - (i + 1) = f := by omega
    refine TT.sat_loop (fun u => ∃ k : Nat, u.i 0 = k ∧ k ≤ max (rAt ds 0).length (i + 2) ∧ i + 2 ≤ k ∧ (rowN (rAt ds 0) i ((rAt ds 0).length - k) k && simpleN (rAt ds 0) f (i + 1)) = simpleN (rAt ds 0) (rAt ds 0).length 0) (fun u => (rAt ds 0).length - (u.i 0).toNat)
      ⟨i + 2, ?_, by omega, by omega, i2⟩ (fun u hu => ?_)
    · simp [val_i, aget, E.ev, arEv, put_i, i0]
      rw [wrap_in _ (by omega) (by omega)]
    obtain ⟨k, k0, k1, k3, k2⟩ := hu
    simp only [TT.sat_ret, TT.sat_ite, TT.sat_ob, TT.sat_next, TT.sat_stuck, put_i, put_b, put_d, put_fi, put_fb, put_fd, Ob.ok, B.ev, E.ev, X.ev, AL.ev, cmp_t, cmp_f, arEv, V.plain, V2.plain, S.plain, S0.plain, V.val, V2.val, S.val, S0.val, bV, iV, List.all_cons, List.all_nil, Bool.and_true, Bool.and_self, envOf_i, envOf_b, envOf_d, List.map_cons, List.map_nil, true_and, Bool.not_eq_true', Bool.not_eq_false', Bool.not_not, Bool.and_eq_true, and_f, cell_lg, cell_lb, cell_lr, cmpP, val_i, val_b, val_d, aget, Nat.reduceBEq, beq_self_eq_true, Bool.false_eq_true, if_true, if_false, Nat.reduceLT, Nat.reduceSub, Nat.sub_self, Nat.lt_irrefl, i0, k0, KTb5, KTb6, eight_eight, meet_eight]
    refine ⟨fun hk => ?_, fun hk => ?_⟩
    · have hkn : k < (rAt ds 0).length := by omega
      have hn' := nxt_lt hkn
      obtain ⟨g, hg⟩ : ∃ g, (rAt ds 0).length - k = g + 1 := ⟨(rAt ds 0).length - k - 1, by omega⟩
      rw [rem_next1 hkn hlen, rem_next1 hi hlen, wrap_in ((k : Int) + 1) (by omega) (by omega), wrap_in (((rAt ds 0).length : Int) - 1) (by omega) (by omega)]
      rw [hg, rowN] at k2
      have hg' : (rAt ds 0).length - (k + 1) = g := by omega
      have N : pairOk (rAt ds 0) i k = true → (∃ j : Nat, (k : Int) + 1 = j ∧ j ≤ max (rAt ds 0).length (i + 2) ∧ i + 2 ≤ j ∧ (rowN (rAt ds 0) i ((rAt ds 0).length - j) j && simpleN (rAt ds 0) f (i + 1)) = simpleN (rAt ds 0) (rAt ds 0).length 0) ∧ (rAt ds 0).length - ((k : Int) + 1).toNat < (rAt ds 0).length - (k : Int).toNat :=
        fun h => ⟨⟨k + 1, rfl, by omega, by omega, by rw [hg', ← k2, h]; rfl⟩, by omega⟩
      have F : pairOk (rAt ds 0) i k = false → Value.bool false = Value.bool (simpleL ds) := fun h => by rw [show simpleL ds = simpleN (rAt ds 0) (rAt ds 0).length 0 from rfl, ← k2, h]; rfl
      have p0 := hpl i hi
      have p1 := hpl _ hn
      have p2 := hpl k hkn
      have p3 := hpl _ hn'
      have P1 : (k ≤ i + 1 ∨ (i = 0 ∧ k + 1 = (rAt ds 0).length)) → pairOk (rAt ds 0) i k = true := fun h => by unfold pairOk; rw [decide_eq_true h]; rfl
      have P2 : ¬ (k ≤ i + 1 ∨ (i = 0 ∧ k + 1 = (rAt ds 0).length)) → pairOk (rAt ds 0) i k = !meetB (lg (rAt ds 0) i 0) (lg (rAt ds 0) i 1) (lg (rAt ds 0) (nxt (rAt ds 0).length i) 0) (lg (rAt ds 0) (nxt (rAt ds 0).length i) 1) (lg (rAt ds 0) k 0) (lg (rAt ds 0) k 1) (lg (rAt ds 0) (nxt (rAt ds 0).length k) 0) (lg (rAt ds 0) (nxt (rAt ds 0).length k) 1) := fun h => by
        unfold pairOk meetE2 meetR; rw [decide_eq_false h, eight_eight, p0, p1, p2, p3, meet_eight]; rfl
      simp only [p0, p1, p2, p3, Bool.and_self]
      refine ⟨fun a => ⟨by omega, by omega, by omega, by omega, by omega, by omega, by omega, by omega, by omega, by omega, by simp, fun m => F ?_, fun m => N ?_⟩, fun a => ⟨fun b => ⟨by omega, by omega, by omega, by omega, by omega, by omega, by omega, by omega, by omega, by omega, by simp, fun m => F ?_, fun m => N ?_⟩, fun b => N (P1 (by omega))⟩⟩
      all_goals (rw [P2 (by omega), m]; rfl)
    · have : (rAt ds 0).length - k = 0 := by omega
      rw [this, rowN, Bool.true_and] at k2
      rw [wrap_in ((i : Int) + 1) (by omega) (by omega)]
      exact ⟨⟨i + 1, rfl, by omega, by rw [hf']; exact k2⟩, by omega⟩
  · have : (rAt ds 0).length - i = 0 := by omega
    rw [this, simpleN] at i2
    rw [simpleL, ← i2]
/-- All symbols so far. -/
def KU : Interp where
  fi n l := KT.fi n l
  fb n l := match n with | 96 => lessL l | 97 => plL l | n => KT.fb n l
  fd _ _ := []
theorem KU_KT {ρ : Env} (h : Sees ρ KU 98) : Sees ρ KT 96 := h.trans (by decide) fun n l hn => by
  refine ⟨?_, ?_⟩
  ·
    rfl
  ·
    simp only [KU]
    split <;> first | omega | rfl
theorem KU_KG {ρ : Env} (h : Sees ρ KU 98) : Sees ρ KG 80 := KR_KG (KT_KR (KU_KT h))
def oBes (al : AL) : T V := match al with
  | .i a (.i b (.i c (.i d (.i e (.i f (.i g (.i k (.i r .nil)))))))) => T.obs [.tru (.fn 5 (.i a (.i b (.i c (.i d (.i e (.i f (.i g (.i k .nil))))))))), .tru (.cmpS .leq (.lit 0) r), .tru (.cmpS .leq r (.lit 3000000))] (.ret (bV (bF 8 closeR al)))
  | _ => .stuck "beside"
def cBesR := ctD [pt, pt, pt, pt, it] oBes
theorem cBesR_ok {ρ : Env} (h : Sees ρ KG 80) : CtOne Tryz.prog ρ 76 cBesR := by
  refine ctD_if gR1B (fun al v hv => ?_)
  have h5 : ∀ l, ρ.fb 5 l = eight l := fun l => by rw [(h 5 l (by decide)).2]; simp only [KG, KF, KE, KD, KC, KB, KA, K9, K8, K7, K6, K5, K]
  unfold oBes at hv
  split at hv
  · rename_i a b c d e f g k r
    obtain ⟨ho, hv⟩ := T.res_obs hv
    obtain rfl := res_ret hv
    have o1 := ho _ (List.mem_cons_self ..)
    have o2 := ho _ (List.mem_cons_of_mem _ (List.mem_cons_self ..))
    have o3 := ho _ (List.mem_cons_of_mem _ (List.mem_cons_of_mem _ (List.mem_cons_self ..)))
    simp only [Ob.ok, B.cmpS_ev, cmp_t, cmpP, E.ev, B.ev, AL.ev, h5] at o1 o2 o3
    have hk : closeOk ((AL.i a (.i b (.i c (.i d (.i e (.i f (.i g (.i k (.i r .nil))))))))).ev ρ) = true := by
      show (eight _ && distB (r.ev ρ)) = true
      rw [Bool.and_eq_true, distB, decide_eq_true_eq]
      exact ⟨o1, o2, o3⟩
    refine ⟨rfl, hk, ?_⟩
    simp only [bV, V.s0, V.val, V2.val, S.val, S0.val, bF_ev (s := 8) (f := closeR) (fun l => by rw [(h 8 l (by decide)).2]; simp only [KG, KF, KE, KD, KC, KB, KA, K9, K8, K7, K6, K5, K])]
    rw [closeR, hk, Bool.true_and]
  · exact hv.elim
theorem turn1_of {ρ : Env} {f : Nat} (g : GivesIf Tryz.prog f [pt, pt, pt] (fun ds => six6 ds = true) (fun ds => .int .i64 (turnL ds))) (h1 : ∀ l, ρ.fb 1 l = six6 l) (h0 : ∀ l, ρ.fi 0 l = turnL l) : CtOne Tryz.prog ρ f cTurn1 := by
  refine ctD_if g (fun al v hv => ?_)
  obtain ⟨ho, hv⟩ := hv
  obtain rfl := res_ret hv
  have ho : (bF 1 six6 al).ev ρ = true := ho
  rw [bF_ev h1] at ho
  refine ⟨rfl, ho, ?_⟩
  simp only [iV, V.s0, V.val, V2.val, S.val, S0.val, iF_ev h0]
theorem cR3T_ok {ρ : Env} (h : Sees ρ KG 80) : CtOne Tryz.prog ρ 101 cTurn1 :=
  turn1_of gR3T (fun l => by rw [(h 1 l (by decide)).2]; simp only [KG, KF, KE, KD, KC, KB, KA, K9, K8, K7, K6, K5, K]) (fun l => by rw [(h 0 l (by decide)).1]; simp only [KG, KF, KE, KD, KC, KB, KA, K9, K8, K7, K6, K5, K])
def cR1D := ctD [pt, pt] fun al => .ret (.tup [.agg [sIF 10 distIL al, sIF 11 distIH al], .one (sIF 12 distIE al)])
theorem cR1D_ok {ρ : Env} (h : Sees ρ KG 80) : CtOne Tryz.prog ρ 31 cR1D :=
  ctD_ok gR1D (fun _ => rfl) (fun al => by simp only [V.val, V2.val, S.val, S0.val, sIF, sBF, List.map_cons, List.map_nil, iF_ev (s := 10) (f := distIL) (fun l => by rw [(h 10 l (by decide)).1]; simp only [KG, KF, KE, KD, KC, KB, KA, K9, K8, K7, K6, K5, K]), iF_ev (s := 11) (f := distIH) (fun l => by rw [(h 11 l (by decide)).1]; simp only [KG, KF, KE, KD, KC, KB, KA, K9, K8, K7, K6, K5, K]), iF_ev (s := 12) (f := distIE) (fun l => by rw [(h 12 l (by decide)).1]; simp only [KG, KF, KE, KD, KC, KB, KA, K9, K8, K7, K6, K5, K])]; try rfl)
theorem gR2GB2 : Gives Tryz.prog 43 [bx, it] (fun ds => boxE (growA ds) (growB ds) (growC ds) (growD ds) (growE ds)) := by
  have h := gR2GB
  rw [show growV = fun ds => boxE (growA ds) (growB ds) (growC ds) (growD ds) (growE ds) from funext growV_eq] at h
  exact h
def cR2GB := ctD [bx, it] fun al => .ret (.tup [.agg [sIF 42 growA al, sIF 43 growB al, sIF 44 growC al, sIF 45 growD al], .one (sIF 46 growE al)])
theorem cR2GB_ok {ρ : Env} (h : Sees ρ KG 80) : CtOne Tryz.prog ρ 43 cR2GB :=
  ctD_ok gR2GB2 (fun _ => rfl) (fun al => by simp only [V.val, V2.val, S.val, S0.val, sIF, sBF, List.map_cons, List.map_nil, iF_ev (s := 42) (f := growA) (fun l => by rw [(h 42 l (by decide)).1]; simp only [KG, KF, KE, KD, KC, KB, KA, K9, K8, K7, K6, K5, K]), iF_ev (s := 43) (f := growB) (fun l => by rw [(h 43 l (by decide)).1]; simp only [KG, KF, KE, KD, KC, KB, KA, K9, K8, K7, K6, K5, K]), iF_ev (s := 44) (f := growC) (fun l => by rw [(h 44 l (by decide)).1]; simp only [KG, KF, KE, KD, KC, KB, KA, K9, K8, K7, K6, K5, K]), iF_ev (s := 45) (f := growD) (fun l => by rw [(h 45 l (by decide)).1]; simp only [KG, KF, KE, KD, KC, KB, KA, K9, K8, K7, K6, K5, K]), iF_ev (s := 46) (f := growE) (fun l => by rw [(h 46 l (by decide)).1]; simp only [KG, KF, KE, KD, KC, KB, KA, K9, K8, K7, K6, K5, K])]; try rfl)
def cR3L := ctD [pt, pt] fun al => .ret (bV (bF 96 lessL al))
theorem cR3L_ok {ρ : Env} (h : Sees ρ KU 98) : CtOne Tryz.prog ρ 100 cR3L :=
  ctD_ok gR3L (fun _ => rfl) (fun al => by simp only [iV, bV, V.s0, V.val, V2.val, S.val, S0.val, bF_ev (s := 96) (f := lessL) (fun l => by rw [(h 96 l (by decide)).2]; simp only [KU, KT, KR, KG, KF, KE, KD, KC, KB, KA, K9, K8, K7, K6, K5, K])]; try rfl)
def cR3W := ctD [pts] fun al => .ret (iV .i64 (iF 65 twiceL al))
theorem cR3W_ok {ρ : Env} (h : Sees ρ KG 80) : CtOne Tryz.prog ρ 104 cR3W :=
  ctD_ok gR3W (fun _ => rfl) (fun al => by simp only [iV, bV, V.s0, V.val, V2.val, S.val, S0.val, iF_ev (s := 65) (f := twiceL) (fun l => by rw [(h 65 l (by decide)).1]; simp only [KG, KF, KE, KD, KC, KB, KA, K9, K8, K7, K6, K5, K])]; try rfl)
def cSimR := ctD [pts] fun al => .ob (.tru (bF 97 plL al)) (.ret (bV (bF 66 simpleL al)))
theorem cSimR_ok {ρ : Env} (h : Sees ρ KU 98) : CtOne Tryz.prog ρ 103 cSimR := by
  refine ctD_if gR3S (fun al v hv => ?_)
  obtain ⟨ho, hv⟩ := hv
  obtain rfl := res_ret hv
  have ho : (bF 97 plL al).ev ρ = true := ho
  rw [bF_ev (fun l => by rw [(h 97 l (by decide)).2]; simp only [KU])] at ho
  refine ⟨rfl, ho, ?_⟩
  simp only [bV, V.s0, V.val, V2.val, S.val, S0.val, bF_ev (s := 66) (f := simpleL) (fun l => by rw [(KU_KG h 66 l (by decide)).2]; simp only [KG, KF, KE, KD, KC, KB, KA, K9, K8, K7, K6, K5, K])]
def ctR3 : Ct := (76, cBesR) :: (31, cR1D) :: (43, cR2GB) :: (101, cTurn1) :: (100, cR3L) :: (104, cR3W) :: (103, cSimR) :: ctR2
theorem ctR3_ok {ρ : Env} (h : Sees ρ KU 98) : CtOk Tryz.prog ρ ctR3 := .cons (cBesR_ok (KU_KG h)) <| .cons (cR1D_ok (KU_KG h)) <| .cons (cR2GB_ok (KU_KG h)) <| .cons (cR3T_ok (KU_KG h)) <| .cons (cR3L_ok h) <| .cons (cR3W_ok (KU_KG h)) <| .cons (cSimR_ok h) (ctR2_ok (KU_KT h))
end Go.Proofs.YtinfmmofcadjgaaGreat
