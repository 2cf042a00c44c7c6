/- MT, merged: TDa, Da, Db0, TDb, Db, TEa, Ea, TEb, Eb, TEc, Ec, TEd, Ed, TEe, Ee, Fa. -/
import Derived.Test.YtcjaembdcfppfaaGreatMF
import Derived.Test.YtcjaembdcfppfaaGreatMI
set_option linter.unusedSimpArgs false
set_option linter.unusedVariables false
/- Chapter 38: the tree of poly.Box. -/
namespace Go.Proofs.YtcjaembdcfppfaaGreat
open Go.RowKit
end Go.Proofs.YtcjaembdcfppfaaGreat
/- Chapter 38: poly.Box. -/
namespace Go.Proofs.YtcjaembdcfppfaaGreat
open Go.RowKit
def minO (r : Rows) : Nat → Nat → Int → Int → Int
  | 0, _, x, _ => x
  | f + 1, i, x, y => if orderI (lg r i 0) (lg r i 1) x y < 0 then minO r f (i + 1) (lg r i 0) (lg r i 1) else minO r f (i + 1) x y
def maxO (r : Rows) : Nat → Nat → Int → Int → Int
  | 0, _, x, _ => x
  | f + 1, i, x, y => if 0 < orderI (lg r i 0) (lg r i 1) x y then maxO r f (i + 1) (lg r i 0) (lg r i 1) else maxO r f (i + 1) x y
def minY (r : Rows) : Nat → Nat → Int → Int
  | 0, _, y => y
  | f + 1, i, y => if lg r i 1 < y then minY r f (i + 1) (lg r i 1) else minY r f (i + 1) y
def maxY (r : Rows) : Nat → Nat → Int → Int
  | 0, _, y => y
  | f + 1, i, y => if y < lg r i 1 then maxY r f (i + 1) (lg r i 1) else maxY r f (i + 1) y
def pbA (ds : List D) : Int := if polyB (rAt ds 0) then minO (rAt ds 0) ((rAt ds 0).length - 1) 1 (lg (rAt ds 0) 0 0) (lg (rAt ds 0) 0 1) else 0
def pbB (ds : List D) : Int := if polyB (rAt ds 0) then maxO (rAt ds 0) ((rAt ds 0).length - 1) 1 (lg (rAt ds 0) 0 0) (lg (rAt ds 0) 0 1) else 0
def pbC (ds : List D) : Int := if polyB (rAt ds 0) then minY (rAt ds 0) ((rAt ds 0).length - 1) 1 (lg (rAt ds 0) 0 1) else 0
def pbD (ds : List D) : Int := if polyB (rAt ds 0) then maxY (rAt ds 0) ((rAt ds 0).length - 1) 1 (lg (rAt ds 0) 0 1) else 0
def pbE (ds : List D) : Int := if polyB (rAt ds 0) then 0 else 1
end Go.Proofs.YtcjaembdcfppfaaGreat
/- Chapter 38: contract of poly.Box. -/
namespace Go.Proofs.YtcjaembdcfppfaaGreat
open Go.RowKit
def KH : Interp where
  fi n l := match n with | 80 => pbA l | 81 => pbB l | 82 => pbC l | 83 => pbD l | 84 => pbE l | n => KG.fi n l
  fb n l := KG.fb n l
  fd _ _ := []
theorem KH_KG {ρ : Env} (h : Sees ρ KH 85) : Sees ρ KG 80 := h.trans (by decide) fun n l hn => by
  refine ⟨?_, ?_⟩
  ·
    simp only [KH]
    split <;> first | omega | rfl
  ·
    rfl
def ctPb : Ct := ctF
theorem ctPb_ok {ρ : Env} (h : Sees ρ KH 85) : CtOk Tryz.prog ρ ctPb := (ctF_ok (KG_KF (KH_KG h)))
end Go.Proofs.YtcjaembdcfppfaaGreat
/- Chapter 38: the tree of feature.Box. -/
namespace Go.Proofs.YtcjaembdcfppfaaGreat
open Go.RowKit
end Go.Proofs.YtcjaembdcfppfaaGreat
/- Chapter 38: feature.Box. -/
namespace Go.Proofs.YtcjaembdcfppfaaGreat
open Go.RowKit
def fbox (kind x rad p : Int) (s : Int) : Int := if kind = 4 then x else if kind = 3 ∨ kind = 6 then p else x + s * rad
def fbA (ds : List D) : Int := if featL ds then fbox (iAt ds 1) (iAt ds 2) (iAt ds 4) (pbA [.l (rAt ds 5)]) (-1) else 0
def fbB (ds : List D) : Int := if featL ds then fbox (iAt ds 1) (iAt ds 2) (iAt ds 4) (pbB [.l (rAt ds 5)]) 1 else 0
def fbC (ds : List D) : Int := if featL ds then fbox (iAt ds 1) (iAt ds 3) (iAt ds 4) (pbC [.l (rAt ds 5)]) (-1) else 0
def fbD (ds : List D) : Int := if featL ds then fbox (iAt ds 1) (iAt ds 3) (iAt ds 4) (pbD [.l (rAt ds 5)]) 1 else 0
def fbE (ds : List D) : Int := if featL ds then 0 else 1
def KI : Interp where
  fi n l := match n with | 85 => fbA l | 86 => fbB l | 87 => fbC l | 88 => fbD l | 89 => fbE l | n => KH.fi n l
  fb n l := KH.fb n l
  fd _ _ := []
theorem KI_KH {ρ : Env} (h : Sees ρ KI 90) : Sees ρ KH 85 := h.trans (by decide) fun n l hn => by
  refine ⟨?_, ?_⟩
  ·
    simp only [KI]
    split <;> first | omega | rfl
  ·
    rfl
end Go.Proofs.YtcjaembdcfppfaaGreat
/- Chapter 07: trees of plane.Apart, plane.Lies. -/
namespace Go.Proofs.YtcjaembdcfppfaaGreat
open Go.RowKit
-- term trApart: call Tryz.prog ct1 lt1 100 167 (symArgs 0 [pt, pt, pt, it]) [] 0
def trApart : TT OpR :=
(.ite (.not (.fn 3 (.i (.var 0) (.i (.var 1) .nil))))
 (.ret ((.tup [(.one (.z (.bool (.lit false)))), (.one (.z (.int .i64 (.lit 1))))]), [], 5))
 (.ite (.not (.fn 3 (.i (.var 2) (.i (.var 3) .nil))))
 (.ret ((.tup [(.one (.z (.bool (.lit false)))), (.one (.z (.int .i64 (.lit 1))))]), [], 6))
 (.ite (.not (.fn 3 (.i (.var 4) (.i (.var 5) .nil))))
 (.ret ((.tup [(.one (.z (.bool (.lit false)))), (.one (.z (.int .i64 (.lit 1))))]), [], 7))
 (.ite (.cmp .geq (.var 6) (.lit 0))
 (.ite (.not (.cmp .leq (.var 6) (.lit 3000000)))
 (.ret ((.tup [(.one (.z (.bool (.lit false)))), (.one (.z (.int .i64 (.lit 1))))]), [], 7))
 (.ite (.cmp .leq (.ar .add .i64 (.ar .mul .i64 (.ar .sub .i64 (.var 4) (.var 2)) (.ar .sub .i64 (.var 0) (.var 2))) (.ar .mul .i64 (.ar .sub .i64 (.var 5) (.var 3)) (.ar .sub .i64 (.var 1) (.var 3)))) (.lit 0))
 (.ob (.tru (.cmp .leq (.lit 0) (.ar .mul .i64 (.var 6) (.var 6))))
 (.ob (.tru (.cmp .lss (.ar .mul .i64 (.var 6) (.var 6)) (.lit 9223372036854775808)))
 (.ob (.tru (.lit true))
 (.ob (.tru (.lit true))
 (.ob (.tru (.cmp .leq (.lit 0) (.ar .add .i64 (.ar .mul .i64 (.ar .sub .i64 (.var 0) (.var 2)) (.ar .sub .i64 (.var 0) (.var 2))) (.ar .mul .i64 (.ar .sub .i64 (.var 1) (.var 3)) (.ar .sub .i64 (.var 1) (.var 3))))))
 (.ob (.tru (.cmp .lss (.ar .add .i64 (.ar .mul .i64 (.ar .sub .i64 (.var 0) (.var 2)) (.ar .sub .i64 (.var 0) (.var 2))) (.ar .mul .i64 (.ar .sub .i64 (.var 1) (.var 3)) (.ar .sub .i64 (.var 1) (.var 3)))) (.lit 9223372036854775808)))
 (.ob (.tru (.lit true))
 (.ob (.tru (.lit true))
 (.ret ((.tup [(.one (.z (.bool (.fn 0 (.i (.ar .mul .i64 (.var 6) (.var 6)) (.i (.lit 1) (.i (.ar .add .i64 (.ar .mul .i64 (.ar .sub .i64 (.var 0) (.var 2)) (.ar .sub .i64 (.var 0) (.var 2))) (.ar .mul .i64 (.ar .sub .i64 (.var 1) (.var 3)) (.ar .sub .i64 (.var 1) (.var 3)))) (.i (.lit 1) .nil)))))))), (.one (.z (.int .i64 (.lit 0))))]), [], 24))))))))))
 (.ite (.cmp .geq (.ar .add .i64 (.ar .mul .i64 (.ar .sub .i64 (.var 4) (.var 2)) (.ar .sub .i64 (.var 0) (.var 2))) (.ar .mul .i64 (.ar .sub .i64 (.var 5) (.var 3)) (.ar .sub .i64 (.var 1) (.var 3)))) (.ar .add .i64 (.ar .mul .i64 (.ar .sub .i64 (.var 4) (.var 2)) (.ar .sub .i64 (.var 4) (.var 2))) (.ar .mul .i64 (.ar .sub .i64 (.var 5) (.var 3)) (.ar .sub .i64 (.var 5) (.var 3)))))
 (.ob (.tru (.cmp .leq (.lit 0) (.ar .mul .i64 (.var 6) (.var 6))))
 (.ob (.tru (.cmp .lss (.ar .mul .i64 (.var 6) (.var 6)) (.lit 9223372036854775808)))
 (.ob (.tru (.lit true))
 (.ob (.tru (.lit true))
 (.ob (.tru (.cmp .leq (.lit 0) (.ar .add .i64 (.ar .mul .i64 (.ar .sub .i64 (.var 0) (.var 4)) (.ar .sub .i64 (.var 0) (.var 4))) (.ar .mul .i64 (.ar .sub .i64 (.var 1) (.var 5)) (.ar .sub .i64 (.var 1) (.var 5))))))
 (.ob (.tru (.cmp .lss (.ar .add .i64 (.ar .mul .i64 (.ar .sub .i64 (.var 0) (.var 4)) (.ar .sub .i64 (.var 0) (.var 4))) (.ar .mul .i64 (.ar .sub .i64 (.var 1) (.var 5)) (.ar .sub .i64 (.var 1) (.var 5)))) (.lit 9223372036854775808)))
 (.ob (.tru (.lit true))
 (.ob (.tru (.lit true))
 (.ret ((.tup [(.one (.z (.bool (.fn 0 (.i (.ar .mul .i64 (.var 6) (.var 6)) (.i (.lit 1) (.i (.ar .add .i64 (.ar .mul .i64 (.ar .sub .i64 (.var 0) (.var 4)) (.ar .sub .i64 (.var 0) (.var 4))) (.ar .mul .i64 (.ar .sub .i64 (.var 1) (.var 5)) (.ar .sub .i64 (.var 1) (.var 5)))) (.i (.lit 1) .nil)))))))), (.one (.z (.int .i64 (.lit 0))))]), [], 28))))))))))
 (.ob (.tru (.cmp .leq (.lit 0) (.ar .mul .i64 (.var 6) (.var 6))))
 (.ob (.tru (.cmp .lss (.ar .mul .i64 (.var 6) (.var 6)) (.lit 9223372036854775808)))
 (.ob (.tru (.cmp .leq (.lit 0) (.ar .add .i64 (.ar .mul .i64 (.ar .sub .i64 (.var 4) (.var 2)) (.ar .sub .i64 (.var 4) (.var 2))) (.ar .mul .i64 (.ar .sub .i64 (.var 5) (.var 3)) (.ar .sub .i64 (.var 5) (.var 3))))))
 (.ob (.tru (.cmp .lss (.ar .add .i64 (.ar .mul .i64 (.ar .sub .i64 (.var 4) (.var 2)) (.ar .sub .i64 (.var 4) (.var 2))) (.ar .mul .i64 (.ar .sub .i64 (.var 5) (.var 3)) (.ar .sub .i64 (.var 5) (.var 3)))) (.lit 9223372036854775808)))
 (.ob (.tru (.cmp .leq (.lit 0) (.mx (.ar .sub .i64 (.ar .mul .i64 (.ar .sub .i64 (.var 4) (.var 2)) (.ar .sub .i64 (.var 1) (.var 3))) (.ar .mul .i64 (.ar .sub .i64 (.var 5) (.var 3)) (.ar .sub .i64 (.var 0) (.var 2)))) (.ar .sub .i64 (.lit 0) (.ar .sub .i64 (.ar .mul .i64 (.ar .sub .i64 (.var 4) (.var 2)) (.ar .sub .i64 (.var 1) (.var 3))) (.ar .mul .i64 (.ar .sub .i64 (.var 5) (.var 3)) (.ar .sub .i64 (.var 0) (.var 2))))))))
 (.ob (.tru (.cmp .lss (.mx (.ar .sub .i64 (.ar .mul .i64 (.ar .sub .i64 (.var 4) (.var 2)) (.ar .sub .i64 (.var 1) (.var 3))) (.ar .mul .i64 (.ar .sub .i64 (.var 5) (.var 3)) (.ar .sub .i64 (.var 0) (.var 2)))) (.ar .sub .i64 (.lit 0) (.ar .sub .i64 (.ar .mul .i64 (.ar .sub .i64 (.var 4) (.var 2)) (.ar .sub .i64 (.var 1) (.var 3))) (.ar .mul .i64 (.ar .sub .i64 (.var 5) (.var 3)) (.ar .sub .i64 (.var 0) (.var 2)))))) (.lit 9223372036854775808)))
 (.ob (.tru (.cmp .leq (.lit 0) (.mx (.ar .sub .i64 (.ar .mul .i64 (.ar .sub .i64 (.var 4) (.var 2)) (.ar .sub .i64 (.var 1) (.var 3))) (.ar .mul .i64 (.ar .sub .i64 (.var 5) (.var 3)) (.ar .sub .i64 (.var 0) (.var 2)))) (.ar .sub .i64 (.lit 0) (.ar .sub .i64 (.ar .mul .i64 (.ar .sub .i64 (.var 4) (.var 2)) (.ar .sub .i64 (.var 1) (.var 3))) (.ar .mul .i64 (.ar .sub .i64 (.var 5) (.var 3)) (.ar .sub .i64 (.var 0) (.var 2))))))))
 (.ob (.tru (.cmp .lss (.mx (.ar .sub .i64 (.ar .mul .i64 (.ar .sub .i64 (.var 4) (.var 2)) (.ar .sub .i64 (.var 1) (.var 3))) (.ar .mul .i64 (.ar .sub .i64 (.var 5) (.var 3)) (.ar .sub .i64 (.var 0) (.var 2)))) (.ar .sub .i64 (.lit 0) (.ar .sub .i64 (.ar .mul .i64 (.ar .sub .i64 (.var 4) (.var 2)) (.ar .sub .i64 (.var 1) (.var 3))) (.ar .mul .i64 (.ar .sub .i64 (.var 5) (.var 3)) (.ar .sub .i64 (.var 0) (.var 2)))))) (.lit 9223372036854775808)))
 (.ret ((.tup [(.one (.z (.bool (.fn 0 (.i (.ar .mul .i64 (.var 6) (.var 6)) (.i (.ar .add .i64 (.ar .mul .i64 (.ar .sub .i64 (.var 4) (.var 2)) (.ar .sub .i64 (.var 4) (.var 2))) (.ar .mul .i64 (.ar .sub .i64 (.var 5) (.var 3)) (.ar .sub .i64 (.var 5) (.var 3)))) (.i (.mx (.ar .sub .i64 (.ar .mul .i64 (.ar .sub .i64 (.var 4) (.var 2)) (.ar .sub .i64 (.var 1) (.var 3))) (.ar .mul .i64 (.ar .sub .i64 (.var 5) (.var 3)) (.ar .sub .i64 (.var 0) (.var 2)))) (.ar .sub .i64 (.lit 0) (.ar .sub .i64 (.ar .mul .i64 (.ar .sub .i64 (.var 4) (.var 2)) (.ar .sub .i64 (.var 1) (.var 3))) (.ar .mul .i64 (.ar .sub .i64 (.var 5) (.var 3)) (.ar .sub .i64 (.var 0) (.var 2)))))) (.i (.mx (.ar .sub .i64 (.ar .mul .i64 (.ar .sub .i64 (.var 4) (.var 2)) (.ar .sub .i64 (.var 1) (.var 3))) (.ar .mul .i64 (.ar .sub .i64 (.var 5) (.var 3)) (.ar .sub .i64 (.var 0) (.var 2)))) (.ar .sub .i64 (.lit 0) (.ar .sub .i64 (.ar .mul .i64 (.ar .sub .i64 (.var 4) (.var 2)) (.ar .sub .i64 (.var 1) (.var 3))) (.ar .mul .i64 (.ar .sub .i64 (.var 5) (.var 3)) (.ar .sub .i64 (.var 0) (.var 2)))))) .nil)))))))), (.one (.z (.int .i64 (.lit 0))))]), [], 24)))))))))))))
 (.ret ((.tup [(.one (.z (.bool (.lit false)))), (.one (.z (.int .i64 (.lit 1))))]), [], 7))))))
-- end trApart
set_option maxRecDepth 100000 in
theorem trApart_is : T.norm 0 (call Tryz.prog ct1 lt1 100 167 (symArgs 0 [pt, pt, pt, it]) [] 0) TT.ret = trApart := by kernel_rfl
theorem trApart_low : trApart.low 1000 = true := by kernel_rfl
end Go.Proofs.YtcjaembdcfppfaaGreat
/- Chapter 07: plane.Apart, plane.Lies. -/
namespace Go.Proofs.YtcjaembdcfppfaaGreat
open Go.RowKit
def apartB (px py ax ay bx by' d : Int) : Bool :=
  if dotI ax ay bx by' px py ≤ 0 then decide (d * d ≤ dist2 ax ay px py)
  else if dist2 ax ay bx by' ≤ dotI ax ay bx by' px py then decide (d * d ≤ dist2 bx by' px py)
  else decide (d * d * dist2 ax ay bx by' ≤ crossI ax ay bx by' px py * crossI ax ay bx by' px py)
def apaO (ds : List D) : Bool := six6 ds && distB (iAt ds 6)
def apaR (ds : List D) : Bool := apaO ds && apartB (iAt ds 0) (iAt ds 1) (iAt ds 2) (iAt ds 3) (iAt ds 4) (iAt ds 5) (iAt ds 6)
def apaE (ds : List D) : Int := if apaO ds then 0 else 1
theorem I1fb0 (W : World) (ds : List D) (a b c d : Int) : (envOf I1 W ds).fb 0 [.i a, .i b, .i c, .i d] = decide (a * b ≤ c * d) := rfl
set_option maxHeartbeats 1000000 in
theorem gApart : Gives Tryz.prog 167 [pt, pt, pt, it] (fun ds => .tuple #[.bool (apaR ds), .int .i64 (apaE ds)]) := by
  refine GivesIf.all (fn_gives I1 (by kernel_rfl) (fun ρ h => ct1_ok h) (by kernel_rfl) trApart_is trApart_low (by decide) (fun W vals ds _ _ => ?_))
  simp only [trApart, TT.sat_ret, TT.sat_ite, TT.sat_ob, TT.sat_next, TT.sat_stuck, put_i, put_b, put_d, put_fi, put_fb, put_fd, Ob.ok, B.ev, E.ev, X.ev, AL.ev, cmp_t, cmp_f, arEv, V.plain, V2.plain, S.plain, S0.plain, V.val, V2.val, S.val, S0.val, bV, iV, List.all_cons, List.all_nil, Bool.and_true, Bool.and_self, envOf_i, envOf_b, envOf_d, List.map_cons, List.map_nil, true_and, Bool.not_eq_true', Bool.not_eq_false', Bool.not_not, Bool.and_eq_true, and_f, cell_lg, cell_lb, cell_lr, cmpP, val_i, val_b, val_d, aget, Nat.reduceBEq, beq_self_eq_true, Bool.false_eq_true, if_true, if_false, Nat.reduceLT, Nat.reduceSub, Nat.sub_self, Nat.lt_irrefl, I1fb3, placeL_two]
  have F : apaO ds = false → Value.tuple #[.bool false, .int .i64 1] = Value.tuple #[.bool (apaR ds), .int .i64 (apaE ds)] := fun h => by simp [apaR, apaE, h]
  refine ⟨fun h => F ?_, fun p0 => ⟨fun h => F ?_, fun p1 => ⟨fun h => F ?_, fun p2 => ⟨fun p3 => ⟨fun h => F ?_, fun p4 => ?_⟩, fun h => F ?_⟩⟩⟩⟩
  · simp only [apaO, six6, h, Bool.false_and]
  · simp only [apaO, six6, h, Bool.false_and, Bool.and_false]
  · simp only [apaO, six6, h, Bool.false_and, Bool.and_false]
  · simp only [apaO, distB, Bool.and_eq_false_imp, decide_eq_false_iff_not]; omega
  · have hO : apaO ds = true := by simp only [apaO, six6, p0, p1, p2, distB, Bool.and_true, Bool.true_and, decide_eq_true_eq]; omega
    have T : ∀ b, apartB (iAt ds 0) (iAt ds 1) (iAt ds 2) (iAt ds 3) (iAt ds 4) (iAt ds 5) (iAt ds 6) = b → Value.tuple #[.bool b, .int .i64 0] = Value.tuple #[.bool (apaR ds), .int .i64 (apaE ds)] := fun b h => by rw [apaR, apaE, hO, h]; rfl
    have h6 : 0 ≤ iAt ds 6 ∧ iAt ds 6 ≤ 3000000 := by omega
    rw [placeB_iff] at p0 p1 p2
    obtain ⟨h0, h1⟩ := p0
    obtain ⟨h2, h3⟩ := p1
    obtain ⟨h4, h5⟩ := p2
    have c0 := w_sq h6
    have d1 := w_mul h0 h2 h0 h2
    have d2 := w_mul h1 h3 h1 h3
    have d3 := w_mul h0 h4 h0 h4
    have d4 := w_mul h1 h5 h1 h5
    have d5 := w_mul h4 h2 h4 h2
    have d6 := w_mul h5 h3 h5 h3
    have d7 := w_mul h4 h2 h1 h3
    have d8 := w_mul h5 h3 h0 h2
    have n1 := sq_nn (iAt ds 0 - iAt ds 2)
    have n2 := sq_nn (iAt ds 1 - iAt ds 3)
    have n3 := sq_nn (iAt ds 0 - iAt ds 4)
    have n4 := sq_nn (iAt ds 1 - iAt ds 5)
    have n5 := sq_nn (iAt ds 4 - iAt ds 2)
    have n6 := sq_nn (iAt ds 5 - iAt ds 3)
    simp only [w_sub h4 h2, w_sub h0 h2, w_sub h5 h3, w_sub h1 h3, w_sub h0 h4, w_sub h1 h5, w_mul1 h4 h2 h0 h2, w_mul1 h5 h3 h1 h3, d1.1, d2.1, d3.1, d4.1, d5.1, d6.1, d7.1, d8.1, w_add h4 h2 h0 h2 h5 h3 h1 h3,
      w_add h0 h2 h0 h2 h1 h3 h1 h3, w_add h0 h4 h0 h4 h1 h5 h1 h5, w_add h4 h2 h4 h2 h5 h3 h5 h3, (w_crs h4 h2 h1 h3 h5 h3 h0 h2).1, (w_crs h4 h2 h1 h3 h5 h3 h0 h2).2, c0.1, mx_sq, I1fb0, Int.mul_one]
    refine ⟨fun h => ⟨?_, ?_, ?_, ?_, T _ ?_⟩, fun h => ⟨fun h' => ⟨?_, ?_, ?_, ?_, T _ ?_⟩, fun h' => ⟨?_, ?_, ?_, ?_, ?_, ?_, ?_, ?_, T _ ?_⟩⟩⟩
    case refine_5 => unfold apartB dotI dist2; rw [if_pos h]
    case refine_10 => unfold apartB dotI dist2; rw [if_neg h, if_pos h']
    case refine_19 => unfold apartB dotI dist2 crossI; rw [if_neg h, if_neg h']
    all_goals (clear T F hO; omega)
  · simp only [apaO, distB, Bool.and_eq_false_imp, decide_eq_false_iff_not]; omega
def liesB (px py r qx qy s : Int) : Bool := decide (r ≤ s ∧ dist2 px py qx qy ≤ (s - r) * (s - r))
def lieO (ds : List D) : Bool := placeB (iAt ds 0) (iAt ds 1) && placeB (iAt ds 3) (iAt ds 4) && distB (iAt ds 2) && distB (iAt ds 5)
def lieR (ds : List D) : Bool := lieO ds && liesB (iAt ds 0) (iAt ds 1) (iAt ds 2) (iAt ds 3) (iAt ds 4) (iAt ds 5)
def lieE (ds : List D) : Int := if lieO ds then 0 else 1
def K71 : Interp where
  fi n l := match n with | 110 => apaE l | 111 => lieE l | n => KI.fi n l
  fb n l := match n with | 110 => apaR l | 111 => lieR l | n => KI.fb n l
  fd _ _ := []
theorem K71_KI {ρ : Env} (h : Sees ρ K71 112) : Sees ρ KI 90 := h.trans (by decide) fun n l hn => by
  refine ⟨?_, ?_⟩
  ·
    simp only [K71]
    split <;> first | omega | rfl
  ·
    simp only [K71]
    split <;> first | omega | rfl
def cApart := ctD [pt, pt, pt, it] fun al => .ret (.tup [.one (sBF 110 apaR al), .one (sIF 110 apaE al)])
theorem cApart_ok {ρ : Env} (h : Sees ρ K71 112) : CtOne Tryz.prog ρ 167 cApart :=
  ctD_ok gApart (fun _ => rfl) (fun al => by simp only [V.val, V2.val, S.val, S0.val, sIF, sBF, List.map_cons, List.map_nil, bF_ev (s := 110) (f := apaR) (fun l => by rw [(h 110 l (by decide)).2]; simp only [K71]), iF_ev (s := 110) (f := apaE) (fun l => by rw [(h 110 l (by decide)).1]; simp only [K71])]; try rfl)
def ctE1 : Ct := (167, cApart) :: ctPb
theorem ctE1_ok {ρ : Env} (h : Sees ρ K71 112) : CtOk Tryz.prog ρ ctE1 := .cons (cApart_ok h) <| (ctPb_ok (KI_KH (K71_KI h)))
end Go.Proofs.YtcjaembdcfppfaaGreat
/- Chapter 07: trees of package poly. -/
namespace Go.Proofs.YtcjaembdcfppfaaGreat
open Go.RowKit
-- term trPoTouch: call Tryz.prog ctE1 (Lt.of []) 100 164 (symArgs 0 [pts, pts]) [] 0
def trPoTouch : TT OpR :=
(.ite (.not (.fn 69 (.x (.var 0) .nil)))
 (.ret ((.tup [(.one (.z (.bool (.lit false)))), (.one (.z (.int .i64 (.lit 1))))]), [], 3))
 (.ite (.not (.fn 69 (.x (.var 1) .nil)))
 (.ret ((.tup [(.one (.z (.bool (.lit false)))), (.one (.z (.int .i64 (.lit 1))))]), [], 3))
 (.loop 0 7000 ⟨[(0, (.lit 0))], [], []⟩
 (.ite (.cmp .lss (.var 7000) (.len (.var 0)))
 (.ob (.tru (.cmp .leq (.lit 0) (.var 7000)))
 (.ob (.tru (.cmp .lss (.var 7000) (.len (.var 0))))
 (.ob (.tru (.cmp .neq (.len (.var 0)) (.lit 0)))
 (.ob (.tru (.cmp .leq (.lit 0) (.ar .rem .i64 (.ar .add .i64 (.ar .add .i64 (.var 7000) (.lit 1)) (.len (.var 0))) (.len (.var 0)))))
 (.ob (.tru (.cmp .lss (.ar .rem .i64 (.ar .add .i64 (.ar .add .i64 (.var 7000) (.lit 1)) (.len (.var 0))) (.len (.var 0))) (.len (.var 0))))
 (.loop 1 13000 ⟨[(0, (.lit 0))], [], []⟩
 (.ite (.cmp .lss (.var 13000) (.len (.var 1)))
 (.ob (.tru (.cmp .leq (.lit 0) (.var 13000)))
 (.ob (.tru (.cmp .lss (.var 13000) (.len (.var 1))))
 (.ob (.tru (.cmp .neq (.len (.var 1)) (.lit 0)))
 (.ob (.tru (.cmp .leq (.lit 0) (.ar .rem .i64 (.ar .add .i64 (.ar .add .i64 (.var 13000) (.lit 1)) (.len (.var 1))) (.len (.var 1)))))
 (.ob (.tru (.cmp .lss (.ar .rem .i64 (.ar .add .i64 (.ar .add .i64 (.var 13000) (.lit 1)) (.len (.var 1))) (.len (.var 1))) (.len (.var 1))))
 (.ite (.fn 62 (.i (.rd (.var 0) (.var 7000) 0) (.i (.rd (.var 0) (.var 7000) 1) (.i (.rd (.var 0) (.ar .rem .i64 (.ar .add .i64 (.ar .add .i64 (.var 7000) (.lit 1)) (.len (.var 0))) (.len (.var 0))) 0) (.i (.rd (.var 0) (.ar .rem .i64 (.ar .add .i64 (.ar .add .i64 (.var 7000) (.lit 1)) (.len (.var 0))) (.len (.var 0))) 1) (.i (.rd (.var 1) (.var 13000) 0) (.i (.rd (.var 1) (.var 13000) 1) (.i (.rd (.var 1) (.ar .rem .i64 (.ar .add .i64 (.ar .add .i64 (.var 13000) (.lit 1)) (.len (.var 1))) (.len (.var 1))) 0) (.i (.rd (.var 1) (.ar .rem .i64 (.ar .add .i64 (.ar .add .i64 (.var 13000) (.lit 1)) (.len (.var 1))) (.len (.var 1))) 1) .nil)))))))))
 (.ret ((.tup [(.one (.z (.bool (.lit true)))), (.one (.z (.int .i64 (.lit 0))))]), [], 16))
 (.next 1 ⟨[(0, (.ar .add .i64 (.var 13000) (.lit 1)))], [], []⟩)))))))
 (.next 0 ⟨[(0, (.ar .add .i64 (.var 7000) (.lit 1)))], [], []⟩))))))))
 (.ob (.tru (.lit true))
 (.ob (.tru (.cmp .lss (.lit 0) (.len (.var 1))))
 (.ite (.cmp .eql (.fn 67 (.x (.var 0) (.i (.rd (.var 1) (.lit 0) 0) (.i (.rd (.var 1) (.lit 0) 1) .nil)))) (.lit 1))
 (.ret ((.tup [(.one (.z (.bool (.lit true)))), (.one (.z (.int .i64 (.lit 0))))]), [], 16))
 (.ob (.tru (.lit true))
 (.ob (.tru (.cmp .lss (.lit 0) (.len (.var 0))))
 (.ret ((.tup [(.one (.z (.bool (.cmp .eql (.fn 67 (.x (.var 1) (.i (.rd (.var 0) (.lit 0) 0) (.i (.rd (.var 0) (.lit 0) 1) .nil)))) (.lit 1))))), (.one (.z (.int .i64 (.lit 0))))]), [], 16)))))))))))
-- end trPoTouch
set_option maxRecDepth 100000 in
theorem trPoTouch_is : T.norm 0 (call Tryz.prog ctE1 (Lt.of []) 100 164 (symArgs 0 [pts, pts]) [] 0) TT.ret = trPoTouch := by kernel_rfl
theorem trPoTouch_low : trPoTouch.low 1000 = true := by kernel_rfl
-- term trPoDisc: call Tryz.prog ctE1 (Lt.of []) 100 163 (symArgs 0 [pts, pt, it]) [] 0
def trPoDisc : TT OpR :=
(.ite (.not (.fn 69 (.x (.var 0) .nil)))
 (.ret ((.tup [(.one (.z (.int .i64 (.lit 0)))), (.one (.z (.int .i64 (.lit 1))))]), [], 2))
 (.ite (.not (.fn 3 (.i (.var 1) (.i (.var 2) .nil))))
 (.ret ((.tup [(.one (.z (.int .i64 (.lit 0)))), (.one (.z (.int .i64 (.lit 1))))]), [], 2))
 (.ite (.cmp .lss (.var 3) (.lit 0))
 (.ret ((.tup [(.one (.z (.int .i64 (.lit 0)))), (.one (.z (.int .i64 (.lit 1))))]), [], 2))
 (.ite (.cmp .gtr (.var 3) (.lit 3000000))
 (.ret ((.tup [(.one (.z (.int .i64 (.lit 0)))), (.one (.z (.int .i64 (.lit 1))))]), [], 2))
 (.loop 0 8000 ⟨[(0, (.lit 0))], [(1, (.lit true)), (2, (.lit false))], []⟩
 (.ite (.cmp .lss (.var 8000) (.len (.var 0)))
 (.ob (.tru (.cmp .leq (.lit 0) (.var 8000)))
 (.ob (.tru (.cmp .lss (.var 8000) (.len (.var 0))))
 (.ob (.tru (.cmp .neq (.len (.var 0)) (.lit 0)))
 (.ob (.tru (.cmp .leq (.lit 0) (.ar .rem .i64 (.ar .add .i64 (.ar .add .i64 (.var 8000) (.lit 1)) (.len (.var 0))) (.len (.var 0)))))
 (.ob (.tru (.cmp .lss (.ar .rem .i64 (.ar .add .i64 (.ar .add .i64 (.var 8000) (.lit 1)) (.len (.var 0))) (.len (.var 0))) (.len (.var 0))))
 (.ite (.var 8002)
 (.ite (.var 8001)
 (.next 0 ⟨[(0, (.ar .add .i64 (.var 8000) (.lit 1)))], [(1, (.fn 110 (.i (.var 1) (.i (.var 2) (.i (.rd (.var 0) (.var 8000) 0) (.i (.rd (.var 0) (.var 8000) 1) (.i (.rd (.var 0) (.ar .rem .i64 (.ar .add .i64 (.ar .add .i64 (.var 8000) (.lit 1)) (.len (.var 0))) (.len (.var 0))) 0) (.i (.rd (.var 0) (.ar .rem .i64 (.ar .add .i64 (.ar .add .i64 (.var 8000) (.lit 1)) (.len (.var 0))) (.len (.var 0))) 1) (.i (.var 3) .nil))))))))), (2, (.lit true))], []⟩)
 (.next 0 ⟨[(0, (.ar .add .i64 (.var 8000) (.lit 1)))], [(1, (.lit false)), (2, (.lit true))], []⟩))
 (.ite (.var 8001)
 (.next 0 ⟨[(0, (.ar .add .i64 (.var 8000) (.lit 1)))], [(1, (.fn 110 (.i (.var 1) (.i (.var 2) (.i (.rd (.var 0) (.var 8000) 0) (.i (.rd (.var 0) (.var 8000) 1) (.i (.rd (.var 0) (.ar .rem .i64 (.ar .add .i64 (.ar .add .i64 (.var 8000) (.lit 1)) (.len (.var 0))) (.len (.var 0))) 0) (.i (.rd (.var 0) (.ar .rem .i64 (.ar .add .i64 (.ar .add .i64 (.var 8000) (.lit 1)) (.len (.var 0))) (.len (.var 0))) 1) (.i (.var 3) .nil))))))))), (2, (.fn 7 (.i (.var 1) (.i (.var 2) (.i (.rd (.var 0) (.var 8000) 0) (.i (.rd (.var 0) (.var 8000) 1) (.i (.rd (.var 0) (.ar .rem .i64 (.ar .add .i64 (.ar .add .i64 (.var 8000) (.lit 1)) (.len (.var 0))) (.len (.var 0))) 0) (.i (.rd (.var 0) (.ar .rem .i64 (.ar .add .i64 (.ar .add .i64 (.var 8000) (.lit 1)) (.len (.var 0))) (.len (.var 0))) 1) (.i (.var 3) .nil)))))))))], []⟩)
 (.next 0 ⟨[(0, (.ar .add .i64 (.var 8000) (.lit 1)))], [(1, (.lit false)), (2, (.fn 7 (.i (.var 1) (.i (.var 2) (.i (.rd (.var 0) (.var 8000) 0) (.i (.rd (.var 0) (.var 8000) 1) (.i (.rd (.var 0) (.ar .rem .i64 (.ar .add .i64 (.ar .add .i64 (.var 8000) (.lit 1)) (.len (.var 0))) (.len (.var 0))) 0) (.i (.rd (.var 0) (.ar .rem .i64 (.ar .add .i64 (.ar .add .i64 (.var 8000) (.lit 1)) (.len (.var 0))) (.len (.var 0))) 1) (.i (.var 3) .nil)))))))))], []⟩))))))))
 (.ite (.cmp .geq (.fn 67 (.x (.var 0) (.i (.var 1) (.i (.var 2) .nil)))) (.lit 0))
 (.ite (.var 8001)
 (.ret ((.tup [(.one (.z (.int .i64 (.lit 1)))), (.one (.z (.int .i64 (.lit 0))))]), [], 11))
 (.ite (.cmp .lss (.fn 67 (.x (.var 0) (.i (.var 1) (.i (.var 2) .nil)))) (.lit 0))
 (.ite (.not (.var 8002))
 (.ret ((.tup [(.one (.z (.int .i64 (.lit (-1))))), (.one (.z (.int .i64 (.lit 0))))]), [], 11))
 (.ret ((.tup [(.one (.z (.int .i64 (.lit 0)))), (.one (.z (.int .i64 (.lit 0))))]), [], 11)))
 (.ret ((.tup [(.one (.z (.int .i64 (.lit 0)))), (.one (.z (.int .i64 (.lit 0))))]), [], 11))))
 (.ite (.cmp .lss (.fn 67 (.x (.var 0) (.i (.var 1) (.i (.var 2) .nil)))) (.lit 0))
 (.ite (.not (.var 8002))
 (.ret ((.tup [(.one (.z (.int .i64 (.lit (-1))))), (.one (.z (.int .i64 (.lit 0))))]), [], 11))
 (.ret ((.tup [(.one (.z (.int .i64 (.lit 0)))), (.one (.z (.int .i64 (.lit 0))))]), [], 11)))
 (.ret ((.tup [(.one (.z (.int .i64 (.lit 0)))), (.one (.z (.int .i64 (.lit 0))))]), [], 11))))))))))
-- end trPoDisc
set_option maxRecDepth 100000 in
theorem trPoDisc_is : T.norm 0 (call Tryz.prog ctE1 (Lt.of []) 100 163 (symArgs 0 [pts, pt, it]) [] 0) TT.ret = trPoDisc := by kernel_rfl
theorem trPoDisc_low : trPoDisc.low 1000 = true := by kernel_rfl
end Go.Proofs.YtcjaembdcfppfaaGreat
/- Chapter 07: poly.Touch, poly.Disc, poly's opens. -/
namespace Go.Proofs.YtcjaembdcfppfaaGreat
open Go.RowKit
def meetPQ (p q : Rows) (i k : Nat) : Bool := meetR [.i (lg p i 0), .i (lg p i 1), .i (lg p (nxt p.length i) 0), .i (lg p (nxt p.length i) 1), .i (lg q k 0), .i (lg q k 1), .i (lg q (nxt q.length k) 0), .i (lg q (nxt q.length k) 1)]
def tmRow (p q : Rows) (i : Nat) : Nat → Nat → Bool
  | 0, _ => false
  | f + 1, k => meetPQ p q i k || tmRow p q i f (k + 1)
def tmN (p q : Rows) : Nat → Nat → Bool
  | 0, _ => false
  | f + 1, i => tmRow p q i q.length 0 || tmN p q f (i + 1)
def touX (p q : Rows) : Bool := tmN p q p.length 0 || (decide (placeN p (lg q 0 0) (lg q 0 1) p.length 0 false = 1) || decide (placeN q (lg p 0 0) (lg p 0 1) q.length 0 false = 1))
def touO (ds : List D) : Bool := polyB (rAt ds 0) && polyB (rAt ds 1)
def touR (ds : List D) : Bool := touO ds && touX (rAt ds 0) (rAt ds 1)
def touE (ds : List D) : Int := if touO ds then 0 else 1
theorem K71b3 (W : World) (ds l : List D) : (envOf K71 W ds).fb 3 l = placeL l := by simp only [envOf, K71, KI, KH, KG, KF, KE, KD, KC, KB, KA, K9, K8, K7, K6, K5, K]
theorem K71b69 (W : World) (ds l : List D) : (envOf K71 W ds).fb 69 l = polyL l := by simp only [envOf, K71, KI, KH, KG, KF, KE, KD, KC, KB]
theorem K71i67 (W : World) (ds l : List D) : (envOf K71 W ds).fi 67 l = placeI l := by simp only [envOf, K71, KI, KH, KG, KF, KE, KD, KC, KB, KA, K9, K8, K7, K6, K5, K]
theorem K71b62 (W : World) (ds l : List D) : (envOf K71 W ds).fb 62 l = meetR l := by simp only [envOf, K71, KI, KH, KG, KF, KE, KD, KC, KB, KA, K9, K8, K7, K6, K5, K]
theorem K71b7 (W : World) (ds l : List D) : (envOf K71 W ds).fb 7 l = nearR l := by simp only [envOf, K71, KI, KH, KG, KF, KE, KD, KC, KB, KA, K9, K8, K7, K6, K5, K]
theorem K71b110 (W : World) (ds l : List D) : (envOf K71 W ds).fb 110 l = apaR l := by simp only [envOf, K71]
theorem gPoTouch : Gives Tryz.prog 164 [pts, pts] (fun ds => .tuple #[.bool (touR ds), .int .i64 (touE ds)]) := by
  refine GivesIf.all (fn_gives K71 (by kernel_rfl) (fun ρ h => ctE1_ok (Sees.of h 112)) (by kernel_rfl) trPoTouch_is trPoTouch_low (by decide) (fun W vals ds hr _ => ?_))
  simp only [trPoTouch, TT.sat_ret, TT.sat_ite, TT.sat_ob, TT.sat_next, TT.sat_stuck, put_i, put_b, put_d, put_fi, put_fb, put_fd, Ob.ok, B.ev, E.ev, X.ev, AL.ev, cmp_t, cmp_f, arEv, V.plain, V2.plain, S.plain, S0.plain, V.val, V2.val, S.val, S0.val, bV, iV, List.all_cons, List.all_nil, Bool.and_true, Bool.and_self, envOf_i, envOf_b, envOf_d, List.map_cons, List.map_nil, true_and, Bool.not_eq_true', Bool.not_eq_false', Bool.not_not, Bool.and_eq_true, and_f, cell_lg, cell_lb, cell_lr, cmpP, val_i, val_b, val_d, aget, Nat.reduceBEq, beq_self_eq_true, Bool.false_eq_true, if_true, if_false, Nat.reduceLT, Nat.reduceSub, Nat.sub_self, Nat.lt_irrefl, K71b69, poly_one]
  have F : touO ds = false → Value.tuple #[.bool false, .int .i64 1] = Value.tuple #[.bool (touR ds), .int .i64 (touE ds)] := fun h => by simp [touR, touE, h]
  refine ⟨fun h => F ?_, fun h1 => ⟨fun h => F ?_, fun h2 => ?_⟩⟩
  · simp only [touO, h, Bool.false_and]
  · simp only [touO, h, Bool.and_false]
  have T : ∀ b, touX (rAt ds 0) (rAt ds 1) = b → Value.tuple #[.bool b, .int .i64 0] = Value.tuple #[.bool (touR ds), .int .i64 (touE ds)] := fun b h => by simp [touR, touE, touO, h1, h2, h]
  clear F hr
  have l1 := polyB_len h1
  have l2 := polyB_len h2
  generalize hp : rAt ds 0 = p at *
  generalize hq : rAt ds 1 = q at *
  refine TT.sat_loop (fun v => ∃ i : Nat, v.i 0 = i ∧ i ≤ p.length ∧ (tmN p q (p.length - i) i || (decide (placeN p (lg q 0 0) (lg q 0 1) p.length 0 false = 1) || decide (placeN q (lg p 0 0) (lg p 0 1) q.length 0 false = 1))) = touX p q) (fun v => p.length - (v.i 0).toNat)
    ⟨0, by simp [val_i, aget, E.ev], by omega, rfl⟩ (fun v hv => ?_)
  obtain ⟨i, i0, i1, i2⟩ := hv
  simp only [TT.sat_ret, TT.sat_ite, TT.sat_ob, TT.sat_next, TT.sat_stuck, put_i, put_b, put_d, put_fi, put_fb, put_fd, Ob.ok, B.ev, E.ev, X.ev, AL.ev, cmp_t, cmp_f, arEv, V.plain, V2.plain, S.plain, S0.plain, V.val, V2.val, S.val, S0.val, bV, iV, List.all_cons, List.all_nil, Bool.and_true, Bool.and_self, envOf_i, envOf_b, envOf_d, List.map_cons, List.map_nil, true_and, Bool.not_eq_true', Bool.not_eq_false', Bool.not_not, Bool.and_eq_true, and_f, cell_lg, cell_lb, cell_lr, cmpP, val_i, val_b, val_d, aget, Nat.reduceBEq, beq_self_eq_true, Bool.false_eq_true, if_true, if_false, Nat.reduceLT, Nat.reduceSub, Nat.sub_self, Nat.lt_irrefl, i0, hp, hq, K71i67, placeI_three]
  refine ⟨fun hc => ?_, fun hc => ?_⟩
  · have hi : i < p.length := by omega
    have hn := nxt_lt hi
    obtain ⟨f, hf⟩ : ∃ f, p.length - i = f + 1 := ⟨p.length - i - 1, by omega⟩
    rw [hf, tmN] at i2
    have hf' : p.length - (i + 1) = f := by omega
    rw [rem_next hi (by omega)]
    refine ⟨by omega, by omega, by omega, by omega, by omega, ?_⟩
    refine TT.sat_loop (fun u => ∃ k : Nat, u.i 0 = k ∧ k ≤ q.length ∧ ((tmRow p q i (q.length - k) k || tmN p q f (i + 1)) || (decide (placeN p (lg q 0 0) (lg q 0 1) p.length 0 false = 1) || decide (placeN q (lg p 0 0) (lg p 0 1) q.length 0 false = 1))) = touX p q) (fun u => q.length - (u.i 0).toNat)
      ⟨0, by simp [val_i, aget, E.ev], by omega, i2⟩ (fun u hu => ?_)
    obtain ⟨k, k0, k1, k2⟩ := hu
    simp only [TT.sat_ret, TT.sat_ite, TT.sat_ob, TT.sat_next, TT.sat_stuck, put_i, put_b, put_d, put_fi, put_fb, put_fd, Ob.ok, B.ev, E.ev, X.ev, AL.ev, cmp_t, cmp_f, arEv, V.plain, V2.plain, S.plain, S0.plain, V.val, V2.val, S.val, S0.val, bV, iV, List.all_cons, List.all_nil, Bool.and_true, Bool.and_self, envOf_i, envOf_b, envOf_d, List.map_cons, List.map_nil, true_and, Bool.not_eq_true', Bool.not_eq_false', Bool.not_not, Bool.and_eq_true, and_f, cell_lg, cell_lb, cell_lr, cmpP, val_i, val_b, val_d, aget, Nat.reduceBEq, beq_self_eq_true, Bool.false_eq_true, if_true, if_false, Nat.reduceLT, Nat.reduceSub, Nat.sub_self, Nat.lt_irrefl, i0, k0, hp, hq, K71b62]
    refine ⟨fun hk => ?_, fun hk => ?_⟩
    · have hkn : k < q.length := by omega
      have hn' := nxt_lt hkn
      obtain ⟨g, hg⟩ : ∃ g, q.length - k = g + 1 := ⟨q.length - k - 1, by omega⟩
      rw [hg, tmRow] at k2
      have hg' : q.length - (k + 1) = g := by omega
      rw [rem_next hkn (by omega), rem_next hi (by omega), wrap_in ((k : Int) + 1) (by omega) (by omega)]
      refine ⟨by omega, by omega, by omega, by omega, by omega, fun h => T _ ?_, fun h => ⟨⟨k + 1, rfl, by omega, ?_⟩, by omega⟩⟩
      · rw [← k2, show meetPQ p q i k = true from h]; rfl
      · rw [hg', ← k2, show meetPQ p q i k = false from h]; rfl
    · have : q.length - k = 0 := by omega
      rw [this, tmRow, Bool.false_or] at k2
      rw [wrap_in ((i : Int) + 1) (by omega) (by omega)]
      exact ⟨⟨i + 1, rfl, by omega, by rw [hf']; exact k2⟩, by omega⟩
  · have : p.length - i = 0 := by omega
    rw [this, tmN, Bool.false_or] at i2
    refine ⟨by omega, fun a => T _ ?_, fun a => ⟨by omega, T _ ?_⟩⟩
    · rw [← i2, decide_eq_true a]; rfl
    · rw [← i2, decide_eq_false a, Bool.false_or]; simp only [cmpEv]
      rfl
def nearI (r : Rows) (x y d : Int) (i : Nat) : Bool := nearR [.i x, .i y, .i (lg r i 0), .i (lg r i 1), .i (lg r (nxt r.length i) 0), .i (lg r (nxt r.length i) 1), .i d]
def apartI (r : Rows) (x y d : Int) (i : Nat) : Bool := apaR [.i x, .i y, .i (lg r i 0), .i (lg r i 1), .i (lg r (nxt r.length i) 0), .i (lg r (nxt r.length i) 1), .i d]
def neaN (r : Rows) (x y d : Int) : Nat → Nat → Bool
  | 0, _ => false
  | f + 1, i => nearI r x y d i || neaN r x y d f (i + 1)
def apaN (r : Rows) (x y d : Int) : Nat → Nat → Bool
  | 0, _ => true
  | f + 1, i => apartI r x y d i && apaN r x y d f (i + 1)
def disX (r : Rows) (x y d : Int) : Int :=
  if 0 ≤ placeN r x y r.length 0 false then (if apaN r x y d r.length 0 then 1 else 0) else if neaN r x y d r.length 0 then 0 else -1
def disO (ds : List D) : Bool := polyB (rAt ds 0) && placeB (iAt ds 1) (iAt ds 2) && distB (iAt ds 3)
def disR (ds : List D) : Int := if disO ds then disX (rAt ds 0) (iAt ds 1) (iAt ds 2) (iAt ds 3) else 0
def disE (ds : List D) : Int := if disO ds then 0 else 1
set_option maxHeartbeats 1000000 in
theorem gPoDisc : Gives Tryz.prog 163 [pts, pt, it] (fun ds => .tuple #[.int .i64 (disR ds), .int .i64 (disE ds)]) := by
  refine GivesIf.all (fn_gives K71 (by kernel_rfl) (fun ρ h => ctE1_ok (Sees.of h 112)) (by kernel_rfl) trPoDisc_is trPoDisc_low (by decide) (fun W vals ds hr _ => ?_))
  simp only [trPoDisc, TT.sat_ret, TT.sat_ite, TT.sat_ob, TT.sat_next, TT.sat_stuck, put_i, put_b, put_d, put_fi, put_fb, put_fd, Ob.ok, B.ev, E.ev, X.ev, AL.ev, cmp_t, cmp_f, arEv, V.plain, V2.plain, S.plain, S0.plain, V.val, V2.val, S.val, S0.val, bV, iV, List.all_cons, List.all_nil, Bool.and_true, Bool.and_self, envOf_i, envOf_b, envOf_d, List.map_cons, List.map_nil, true_and, Bool.not_eq_true', Bool.not_eq_false', Bool.not_not, Bool.and_eq_true, and_f, cell_lg, cell_lb, cell_lr, cmpP, val_i, val_b, val_d, aget, Nat.reduceBEq, beq_self_eq_true, Bool.false_eq_true, if_true, if_false, Nat.reduceLT, Nat.reduceSub, Nat.sub_self, Nat.lt_irrefl, K71b69, poly_one, K71b3, place_two]
  have F : disO ds = false → Value.tuple #[.int .i64 0, .int .i64 1] = Value.tuple #[.int .i64 (disR ds), .int .i64 (disE ds)] := fun h => by simp [disR, disE, h]
  refine ⟨fun h => F ?_, fun h1 => ⟨fun h => F ?_, fun h2 => ⟨fun h => F ?_, fun h3 => ⟨fun h => F ?_, fun h4 => ?_⟩⟩⟩⟩
  · simp only [disO, h, Bool.false_and]
  · simp only [disO, h, Bool.false_and, Bool.and_false]
  · simp only [disO, distB, Bool.and_eq_false_imp, decide_eq_false_iff_not]; omega
  · simp only [disO, distB, Bool.and_eq_false_imp, decide_eq_false_iff_not]; omega
  have hO : disO ds = true := by simp only [disO, h1, h2, distB, Bool.true_and, decide_eq_true_eq]; omega
  have T : ∀ n, disX (rAt ds 0) (iAt ds 1) (iAt ds 2) (iAt ds 3) = n → Value.tuple #[.int .i64 n, .int .i64 0] = Value.tuple #[.int .i64 (disR ds), .int .i64 (disE ds)] := fun b h => by simp [disR, disE, hO, h]
  clear F hr hO
  have l1 := polyB_len h1
  generalize e0 : rAt ds 0 = r at *
  generalize e1 : iAt ds 1 = x at *
  generalize e2 : iAt ds 2 = y at *
  generalize e3 : iAt ds 3 = d at *
  refine TT.sat_loop (fun v => ∃ i : Nat, v.i 0 = i ∧ i ≤ r.length ∧ (v.b 2 || neaN r x y d (r.length - i) i) = neaN r x y d r.length 0 ∧ (v.b 1 && apaN r x y d (r.length - i) i) = apaN r x y d r.length 0) (fun v => r.length - (v.i 0).toNat)
    ⟨0, by simp [val_i, aget, E.ev], by omega, by simp [val_b, aget, B.ev], by simp [val_b, aget, B.ev]⟩ (fun v hv => ?_)
  obtain ⟨i, i0, i1, i2, i3⟩ := hv
  simp only [TT.sat_ret, TT.sat_ite, TT.sat_ob, TT.sat_next, TT.sat_stuck, put_i, put_b, put_d, put_fi, put_fb, put_fd, Ob.ok, B.ev, E.ev, X.ev, AL.ev, cmp_t, cmp_f, arEv, V.plain, V2.plain, S.plain, S0.plain, V.val, V2.val, S.val, S0.val, bV, iV, List.all_cons, List.all_nil, Bool.and_true, Bool.and_self, envOf_i, envOf_b, envOf_d, List.map_cons, List.map_nil, true_and, Bool.not_eq_true', Bool.not_eq_false', Bool.not_not, Bool.and_eq_true, and_f, cell_lg, cell_lb, cell_lr, cmpP, val_i, val_b, val_d, aget, Nat.reduceBEq, beq_self_eq_true, Bool.false_eq_true, if_true, if_false, Nat.reduceLT, Nat.reduceSub, Nat.sub_self, Nat.lt_irrefl, i0, e0, e1, e2, e3, K71i67, placeI_three, K71b7, K71b110]
  refine ⟨fun hc => ?_, fun hc => ?_⟩
  · have hi : i < r.length := by omega
    have hn := nxt_lt hi
    obtain ⟨f, hf⟩ : ∃ f, r.length - i = f + 1 := ⟨r.length - i - 1, by omega⟩
    rw [hf, neaN] at i2
    rw [hf, apaN] at i3
    have hf' : r.length - (i + 1) = f := by omega
    rw [rem_next hi (by omega), wrap_in ((i : Int) + 1) (by omega) (by omega)]
    have N : ∀ b c : Bool, (b || neaN r x y d f (i + 1)) = neaN r x y d r.length 0 → (c && apaN r x y d f (i + 1)) = apaN r x y d r.length 0 → (∃ j : Nat, (i : Int) + 1 = j ∧ j ≤ r.length ∧ (b || neaN r x y d (r.length - j) j) = neaN r x y d r.length 0 ∧ (c && apaN r x y d (r.length - j) j) = apaN r x y d r.length 0) ∧ r.length - ((i : Int) + 1).toNat < r.length - (i : Int).toNat :=
      fun b c hb hc => ⟨⟨i + 1, rfl, by omega, by rw [hf']; exact hb, by rw [hf']; exact hc⟩, by omega⟩
    refine ⟨by omega, by omega, by omega, by omega, by omega, fun a => ⟨fun b => N _ _ ?_ ?_, fun b => N _ _ ?_ ?_⟩, fun a => ⟨fun b => N _ _ ?_ ?_, fun b => N _ _ ?_ ?_⟩⟩
    all_goals (first | (rw [← i2, a]; clear N T i2 i3; simp [nearI]; done) | (rw [← i3, b]; clear N T i2 i3; simp [apartI]; done))
  · have : r.length - i = 0 := by omega
    rw [this, neaN, Bool.or_false] at i2
    rw [this, apaN, Bool.and_true] at i3
    rw [i2, i3]
    refine ⟨fun a => ⟨fun b => T _ ?_, fun b => ⟨fun c => absurd a (by omega), fun c => T _ ?_⟩⟩, fun a => ⟨fun c => ⟨fun e => T _ ?_, fun e => T _ ?_⟩, fun c => absurd c (by omega)⟩⟩
    · rw [disX, if_pos a, b]; rfl
    · rw [disX, if_pos a, b]; rfl
    · rw [disX, if_neg a, e]; rfl
    · rw [disX, if_neg a, e]; rfl
def opB (r : Rows) (i : Nat) (x y : Int) : Bool :=
  if 0 < turnR [.i (lg r (prv r.length i) 0), .i (lg r (prv r.length i) 1), .i (lg r i 0), .i (lg r i 1), .i (lg r (nxt r.length i) 0), .i (lg r (nxt r.length i) 1)] then
    decide (0 ≤ turnR [.i (lg r i 0), .i (lg r i 1), .i (lg r (nxt r.length i) 0), .i (lg r (nxt r.length i) 1), .i x, .i y]) && decide (0 ≤ turnR [.i (lg r i 0), .i (lg r i 1), .i x, .i y, .i (lg r (prv r.length i) 0), .i (lg r (prv r.length i) 1)])
  else decide (turnR [.i (lg r i 0), .i (lg r i 1), .i (lg r (prv r.length i) 0), .i (lg r (prv r.length i) 1), .i x, .i y] ≤ 0) || decide (turnR [.i (lg r i 0), .i (lg r i 1), .i x, .i y, .i (lg r (nxt r.length i) 0), .i (lg r (nxt r.length i) 1)] ≤ 0)
def opL (ds : List D) : Bool := opB (rAt ds 0) (iAt ds 1).toNat (iAt ds 2) (iAt ds 3)
def K72 : Interp where
  fi n l := match n with | 112 => touE l | 113 => disR l | 114 => disE l | n => K71.fi n l
  fb n l := match n with | 112 => touR l | 115 => opL l | n => K71.fb n l
  fd _ _ := []
theorem K72_K71 {ρ : Env} (h : Sees ρ K72 116) : Sees ρ K71 112 := h.trans (by decide) fun n l hn => by
  refine ⟨?_, ?_⟩
  ·
    simp only [K72]
    split <;> first | omega | rfl
  ·
    simp only [K72]
    split <;> first | omega | rfl
def cPoTouch := ctD [pts, pts] fun al => .ret (.tup [.one (sBF 112 touR al), .one (sIF 112 touE al)])
theorem cPoTouch_ok {ρ : Env} (h : Sees ρ K72 116) : CtOne Tryz.prog ρ 164 cPoTouch :=
  ctD_ok gPoTouch (fun _ => rfl) (fun al => by simp only [V.val, V2.val, S.val, S0.val, sIF, sBF, List.map_cons, List.map_nil, bF_ev (s := 112) (f := touR) (fun l => by rw [(h 112 l (by decide)).2]; simp only [K72]), iF_ev (s := 112) (f := touE) (fun l => by rw [(h 112 l (by decide)).1]; simp only [K72])]; try rfl)
def cPoDisc := ctD [pts, pt, it] fun al => .ret (.tup [.one (sIF 113 disR al), .one (sIF 114 disE al)])
theorem cPoDisc_ok {ρ : Env} (h : Sees ρ K72 116) : CtOne Tryz.prog ρ 163 cPoDisc :=
  ctD_ok gPoDisc (fun _ => rfl) (fun al => by simp only [V.val, V2.val, S.val, S0.val, sIF, sBF, List.map_cons, List.map_nil, iF_ev (s := 113) (f := disR) (fun l => by rw [(h 113 l (by decide)).1]; simp only [K72]), iF_ev (s := 114) (f := disE) (fun l => by rw [(h 114 l (by decide)).1]; simp only [K72])]; try rfl)
def ctE2 : Ct := (164, cPoTouch) :: (163, cPoDisc) :: ctE1
theorem ctE2_ok {ρ : Env} (h : Sees ρ K72 116) : CtOk Tryz.prog ρ ctE2 := .cons (cPoTouch_ok h) <| .cons (cPoDisc_ok h) <| (ctE1_ok (K72_K71 h))
end Go.Proofs.YtcjaembdcfppfaaGreat
/- Chapter 07: the tree of poly's leads. -/
namespace Go.Proofs.YtcjaembdcfppfaaGreat
open Go.RowKit
end Go.Proofs.YtcjaembdcfppfaaGreat
/- Chapter 07: poly's leads. -/
namespace Go.Proofs.YtcjaembdcfppfaaGreat
open Go.RowKit
def leE (r : Rows) (x y tx ty : Int) : Nat → Nat → Bool
  | 0, _ => true
  | f + 1, i => if onE r x y i then decide (0 ≤ turnR [.i (lg r i 0), .i (lg r i 1), .i (lg r (nxt r.length i) 0), .i (lg r (nxt r.length i) 1), .i tx, .i ty]) else leE r x y tx ty f (i + 1)
def leN (r : Rows) (x y tx ty : Int) : Nat → Nat → Bool
  | 0, _ => leE r x y tx ty r.length 0
  | f + 1, i => if x = lg r i 0 ∧ y = lg r i 1 then opB r i tx ty else leN r x y tx ty f (i + 1)
def leL (ds : List D) : Bool := leN (rAt ds 0) (iAt ds 1) (iAt ds 2) (iAt ds 3) (iAt ds 4) (rAt ds 0).length 0
def K73 : Interp where
  fi n l := K72.fi n l
  fb n l := match n with | 116 => leL l | n => K72.fb n l
  fd _ _ := []
theorem K73_K72 {ρ : Env} (h : Sees ρ K73 117) : Sees ρ K72 116 := h.trans (by decide) fun n l hn => by
  refine ⟨?_, ?_⟩
  ·
    rfl
  ·
    simp only [K73]
    split <;> first | omega | rfl
def ctE3 : Ct := ctE2
theorem ctE3_ok {ρ : Env} (h : Sees ρ K73 117) : CtOk Tryz.prog ρ ctE3 := (ctE2_ok (K73_K72 h))
end Go.Proofs.YtcjaembdcfppfaaGreat
/- Chapter 07: the tree of poly's has. -/
namespace Go.Proofs.YtcjaembdcfppfaaGreat
open Go.RowKit
end Go.Proofs.YtcjaembdcfppfaaGreat
/- Chapter 07: poly's has. -/
namespace Go.Proofs.YtcjaembdcfppfaaGreat
open Go.RowKit
def tur (a b c d e f : Int) : Int := turnR [.i a, .i b, .i c, .i d, .i e, .i f]
def phC (r : Rows) (ax ay bx by' : Int) (i : Nat) : Bool :=
  decide (tur ax ay bx by' (lg r i 0) (lg r i 1) * tur ax ay bx by' (lg r (nxt r.length i) 0) (lg r (nxt r.length i) 1) < 0 ∧
    tur (lg r i 0) (lg r i 1) (lg r (nxt r.length i) 0) (lg r (nxt r.length i) 1) ax ay * tur (lg r i 0) (lg r i 1) (lg r (nxt r.length i) 0) (lg r (nxt r.length i) 1) bx by' < 0)
def phI (r : Rows) (ax ay bx by' : Int) (i : Nat) : Bool :=
  !phC r ax ay bx by' i && (decide ((lg r i 0 = ax ∧ lg r i 1 = ay) ∨ (lg r i 0 = bx ∧ lg r i 1 = by')) || (!onR [.i (lg r i 0), .i (lg r i 1), .i ax, .i ay, .i bx, .i by'] || (opB r i ax ay && opB r i bx by')))
def phN (r : Rows) (ax ay bx by' : Int) : Nat → Nat → Bool
  | 0, _ => true
  | f + 1, i => phI r ax ay bx by' i && phN r ax ay bx by' f (i + 1)
def phB (r : Rows) (ax ay bx by' : Int) : Bool :=
  decide (0 ≤ placeN r ax ay r.length 0 false) && (decide (0 ≤ placeN r bx by' r.length 0 false) && (leN r ax ay bx by' r.length 0 && (leN r bx by' ax ay r.length 0 && phN r ax ay bx by' r.length 0)))
def phL (ds : List D) : Bool := phB (rAt ds 0) (iAt ds 1) (iAt ds 2) (iAt ds 3) (iAt ds 4)
def K74 : Interp where
  fi n l := K73.fi n l
  fb n l := match n with | 117 => phL l | n => K73.fb n l
  fd _ _ := []
theorem K74_K73 {ρ : Env} (h : Sees ρ K74 118) : Sees ρ K73 117 := h.trans (by decide) fun n l hn => by
  refine ⟨?_, ?_⟩
  ·
    rfl
  ·
    simp only [K74]
    split <;> first | omega | rfl
def ctE4 : Ct := ctE3
theorem ctE4_ok {ρ : Env} (h : Sees ρ K74 118) : CtOk Tryz.prog ρ ctE4 := (ctE3_ok (K74_K73 h))
end Go.Proofs.YtcjaembdcfppfaaGreat
/- Chapter 07: the tree of poly.Holds. -/
namespace Go.Proofs.YtcjaembdcfppfaaGreat
open Go.RowKit
end Go.Proofs.YtcjaembdcfppfaaGreat
/- Chapter 07: poly.Holds. -/
namespace Go.Proofs.YtcjaembdcfppfaaGreat
open Go.RowKit
def hoN (p q : Rows) : Nat → Nat → Bool
  | 0, _ => true
  | f + 1, i => phB p (lg q i 0) (lg q i 1) (lg q (nxt q.length i) 0) (lg q (nxt q.length i) 1) && hoN p q f (i + 1)
def hoX (p q : Rows) : Bool := hoN p q q.length 0
def hoR (ds : List D) : Bool := touO ds && hoX (rAt ds 0) (rAt ds 1)
def K75 : Interp where
  fi n l := K74.fi n l
  fb n l := match n with | 118 => hoR l | n => K74.fb n l
  fd _ _ := []
theorem K75_K74 {ρ : Env} (h : Sees ρ K75 119) : Sees ρ K74 118 := h.trans (by decide) fun n l hn => by
  refine ⟨?_, ?_⟩
  ·
    rfl
  ·
    simp only [K75]
    split <;> first | omega | rfl
def ctE5 : Ct := ctE4
theorem ctE5_ok {ρ : Env} (h : Sees ρ K75 119) : CtOk Tryz.prog ρ ctE5 := (ctE4_ok (K75_K74 h))
end Go.Proofs.YtcjaembdcfppfaaGreat
/- Chapter 07: common points of polygons and discs, no program. -/
namespace Go.Proofs.YtcjaembdcfppfaaGreat
open Go.RowKit
def mEdge (p q : Rows) (i k : Nat) : Bool := meetB (cx p i) (cy p i) (cx p (nxt p.length i)) (cy p (nxt p.length i)) (cx q k) (cy q k) (cx q (nxt q.length k)) (cy q (nxt q.length k))
theorem meetPQ_eq {p q : Rows} (hp : polyB p = true) (hq : polyB q = true) {i k : Nat} (hi : i < p.length) (hk : k < q.length) : meetPQ p q i k = mEdge p q i k := by
  have h1 := polyB_pl hp hi
  have h2 := polyB_pl hp (nxt_lt hi)
  have h3 := polyB_pl hq hk
  have h4 := polyB_pl hq (nxt_lt hk)
  unfold cx cy at h1 h2 h3 h4
  unfold meetPQ meetR
  rw [eight_eight, h1, h2, h3, h4, meet_eight]
  rfl
theorem tmRow_iff {p q : Rows} {i : Nat} : ∀ (f k : Nat), tmRow p q i f k = true ↔ ∃ j, k ≤ j ∧ j < k + f ∧ meetPQ p q i j = true
  | 0, k => ⟨fun h => (by cases h), fun ⟨j, h1, h2, _⟩ => by omega⟩
  | f + 1, k => by
    rw [tmRow, Bool.or_eq_true, tmRow_iff f (k + 1)]
    constructor
    · rintro (h | ⟨j, h1, h2, h3⟩)
      · exact ⟨k, by omega, by omega, h⟩
      · exact ⟨j, by omega, by omega, h3⟩
    · rintro ⟨j, h1, h2, h3⟩
      by_cases e : j = k
      · subst e; exact .inl h3
      · exact .inr ⟨j, by omega, by omega, h3⟩
theorem tmN_iff {p q : Rows} : ∀ (f i : Nat), tmN p q f i = true ↔ ∃ j, i ≤ j ∧ j < i + f ∧ ∃ k, k < q.length ∧ meetPQ p q j k = true
  | 0, i => ⟨fun h => (by cases h), fun ⟨j, h1, h2, _⟩ => by omega⟩
  | f + 1, i => by
    rw [tmN, Bool.or_eq_true, tmN_iff f (i + 1), tmRow_iff]
    constructor
    · rintro (⟨k, _, h2, h3⟩ | ⟨j, h1, h2, h3⟩)
      · exact ⟨i, by omega, by omega, k, by omega, h3⟩
      · exact ⟨j, by omega, by omega, h3⟩
    · rintro ⟨j, h1, h2, k, h3, h4⟩
      by_cases e : j = i
      · subst e; exact .inl ⟨k, by omega, by omega, h4⟩
      · exact .inr ⟨j, by omega, by omega, k, h3, h4⟩
theorem touX_iff {p q : Rows} (hp : polyB p = true) (hq : polyB q = true) :
    touX p q = true ↔ (∃ i k, i < p.length ∧ k < q.length ∧ mEdge p q i k = true) ∨ placeN p (cx q 0) (cy q 0) p.length 0 false = 1 ∨ placeN q (cx p 0) (cy p 0) q.length 0 false = 1 := by
  unfold touX
  rw [Bool.or_eq_true, Bool.or_eq_true, decide_eq_true_eq, decide_eq_true_eq, tmN_iff]
  refine or_congr ⟨fun ⟨i, _, h2, k, h3, h4⟩ => ⟨i, k, by omega, h3, ?_⟩, fun ⟨i, k, h1, h2, h3⟩ => ⟨i, by omega, by omega, k, h2, ?_⟩⟩ Iff.rfl
  · rw [← meetPQ_eq hp hq (by omega) h3]; exact h4
  · rw [meetPQ_eq hp hq h1 h2]; exact h3
theorem mEdge_comm {p q : Rows} {i k : Nat} : mEdge q p k i = mEdge p q i k := meet_comm
theorem touX_comm {p q : Rows} (hp : polyB p = true) (hq : polyB q = true) : touX q p = touX p q := by
  rw [Bool.eq_iff_iff, touX_iff hp hq, touX_iff hq hp]
  constructor
  · rintro (⟨i, k, h1, h2, h3⟩ | h | h)
    · exact .inl ⟨k, i, h2, h1, by rw [mEdge_comm] at h3; exact h3⟩
    · exact .inr (.inr h)
    · exact .inr (.inl h)
  · rintro (⟨i, k, h1, h2, h3⟩ | h | h)
    · exact .inl ⟨k, i, h2, h1, by rw [mEdge_comm]; exact h3⟩
    · exact .inr (.inr h)
    · exact .inr (.inl h)
theorem corners_same {p q : Rows} (hp : polyB p = true) (hq : polyB q = true) (H : ∀ i k, i < p.length → k < q.length → mEdge p q i k = false) : ∀ i, i < p.length → placeN q (cx p i) (cy p i) q.length 0 false = placeN q (cx p 0) (cy p 0) q.length 0 false
  | 0, _ => rfl
  | i + 1, hi => by
    rw [← corners_same hp hq H i (by omega)]
    have hn : nxt p.length i = i + 1 := by unfold nxt; rw [if_neg (by omega)]
    refine (place_const hq (polyB_pl hp (by omega)) (polyB_pl hp hi) (fun k hk => ?_)).symm
    have := H i k (by omega) hk
    unfold mEdge at this
    rwa [hn] at this
theorem on_common {x y a b c d e f g h : Int} (h1 : onB x y a b c d = true) (h2 : onB x y e f g h = true) : meetB a b c d e f g h = true := by
  obtain ⟨k, hk, s1⟩ := onB_iff.mp h1
  obtain ⟨m, hm, s2⟩ := onB_iff.mp h2
  have t1 := seg_scale s1 (show 0 ≤ m by omega)
  have t2 := seg_scale s2 (show 0 ≤ k by omega)
  refine meet_of_common ⟨k * m, k * x * m, k * y * m, Int.mul_pos hk hm, t1, ?_⟩
  have e1 : m * k = k * m := Int.mul_comm _ _
  have e2 : m * x * k = k * x * m := by grind
  have e3 : m * y * k = k * y * m := by grind
  rw [← e1, ← e2, ← e3]
  exact t2
theorem off_place {r : Rows} (hr : polyB r = true) {x y : Int} (hq : placeB x y = true) (h : 0 ≤ placeN r x y r.length 0 false) (hon : ∀ k, k < r.length → onB x y (cx r k) (cy r k) (cx r (nxt r.length k)) (cy r (nxt r.length k)) = false) : placeN r x y r.length 0 false = 1 := by
  rw [place_wind hr hq hon] at h ⊢
  split at h
  · omega
  · rename_i hw; rw [if_neg hw]
theorem on_of_meet0 {p q : Rows} {i k : Nat} (h : mEdge p q i k = false) : onB (cx p i) (cy p i) (cx q k) (cy q k) (cx q (nxt q.length k)) (cy q (nxt q.length k)) = false := (no_on h).1
theorem tou_on {p q : Rows} (hp : polyB p = true) (hq : polyB q = true) {x y : Int} (hxy : placeB x y = true) {i : Nat} (hi : i < p.length)
    (hon : onB x y (cx p i) (cy p i) (cx p (nxt p.length i)) (cy p (nxt p.length i)) = true) (h : 0 ≤ placeN q x y q.length 0 false) : touX p q = true := by
  rw [touX_iff hp hq]
  by_cases H : ∃ i k, i < p.length ∧ k < q.length ∧ mEdge p q i k = true
  · exact .inl H
  have H' : ∀ i k, i < p.length → k < q.length → mEdge p q i k = false := fun i k h1 h2 => by
    cases hm : mEdge p q i k with
    | false => rfl
    | true => exact absurd ⟨i, k, h1, h2, hm⟩ H
  have hoff : ∀ k, k < q.length → onB x y (cx q k) (cy q k) (cx q (nxt q.length k)) (cy q (nxt q.length k)) = false := fun k hk => by
    cases ho : onB x y (cx q k) (cy q k) (cx q (nxt q.length k)) (cy q (nxt q.length k)) with
    | false => rfl
    | true =>
      have := on_common hon ho
      have h2 := H' i k hi hk
      unfold mEdge at h2
      rw [this] at h2
      exact absurd h2 (by decide)
  have h1 := off_place hq hxy h hoff
  refine .inr (.inr ?_)
  rw [← corners_same hp hq H' i hi, ← h1]
  refine place_const hq (polyB_pl hp hi) hxy (fun k hk => ?_)
  cases hm : meetB (cx p i) (cy p i) x y (cx q k) (cy q k) (cx q (nxt q.length k)) (cy q (nxt q.length k)) with
  | false => rfl
  | true =>
    obtain ⟨n, u, v, hn, g1, g2⟩ := common_of_meet hm
    obtain ⟨k', hk', hs⟩ := onB_iff.mp hon
    have t1 := seg_part (by omega) hk' hs g1
    have t2 := seg_scale g2 (show 0 ≤ k' by omega)
    have := meet_of_common ⟨n * k', u * k', v * k', Int.mul_pos hn hk', t1, t2⟩
    have h2 := H' i k hi hk
    unfold mEdge at h2
    rw [this] at h2
    exact absurd h2 (by decide)
theorem tou_both {p q : Rows} (hp : polyB p = true) (hq : polyB q = true) {x y : Int} (hxy : placeB x y = true) (h1 : 0 ≤ placeN p x y p.length 0 false) (h2 : 0 ≤ placeN q x y q.length 0 false) : touX p q = true := by
  by_cases o1 : ∃ i, i < p.length ∧ onB x y (cx p i) (cy p i) (cx p (nxt p.length i)) (cy p (nxt p.length i)) = true
  · obtain ⟨i, hi, ho⟩ := o1
    exact tou_on hp hq hxy hi ho h2
  by_cases o2 : ∃ i, i < q.length ∧ onB x y (cx q i) (cy q i) (cx q (nxt q.length i)) (cy q (nxt q.length i)) = true
  · obtain ⟨i, hi, ho⟩ := o2
    rw [touX_comm hq hp]
    exact tou_on hq hp hxy hi ho h1
  by_cases H : ∃ i k, i < p.length ∧ k < q.length ∧ mEdge p q i k = true
  · rw [touX_iff hp hq]; exact .inl H
  have H' : ∀ i k, i < p.length → k < q.length → mEdge p q i k = false := fun i k h1 h2 => by
    cases hm : mEdge p q i k with
    | false => rfl
    | true => exact absurd ⟨i, k, h1, h2, hm⟩ H
  have e1 : ∀ k, k < p.length → onB x y (cx p k) (cy p k) (cx p (nxt p.length k)) (cy p (nxt p.length k)) = false := fun k hk => by
    cases ho : onB x y (cx p k) (cy p k) (cx p (nxt p.length k)) (cy p (nxt p.length k)) with
    | false => rfl
    | true => exact absurd ⟨k, hk, ho⟩ o1
  have e2 : ∀ k, k < q.length → onB x y (cx q k) (cy q k) (cx q (nxt q.length k)) (cy q (nxt q.length k)) = false := fun k hk => by
    cases ho : onB x y (cx q k) (cy q k) (cx q (nxt q.length k)) (cy q (nxt q.length k)) with
    | false => rfl
    | true => exact absurd ⟨k, hk, ho⟩ o2
  have w1 : wind (cx p) (cy p) p.length x y ≠ 0 := fun z => by
    rw [place_wind hp hxy e1, if_pos z] at h1; omega
  have w2 : wind (cx q) (cy q) q.length x y ≠ 0 := fun z => by
    rw [place_wind hq hxy e2, if_pos z] at h2; omega
  have lp := polyB_len hp
  have lq := polyB_len hq
  have hb : ∀ {r : Rows}, polyB r = true → ∀ i k, i < r.length → k < r.length → -2000001 < cx r i - cx r k ∧ cx r i - cx r k < 2000001 := fun hr i k hi hk => by
    have h1 := placeB_iff.mp (polyB_pl hr hi)
    have h2 := placeB_iff.mp (polyB_pl hr hk)
    omega
  rw [touX_iff hp hq]
  rcases both_in (by omega) (by omega) (K := 2000001) (by decide) (hb hp) (hb hq) H' e1 e2 w1 w2 with ⟨i, hi, hw⟩ | ⟨k, hk, hw⟩
  · refine .inr (.inr ?_)
    rw [← corners_same hp hq H' i hi, place_wind hq (polyB_pl hp hi) (fun k hk => on_of_meet0 (H' i k hi hk)), if_neg hw]
  · refine .inr (.inl ?_)
    have H'' : ∀ k i, k < q.length → i < p.length → mEdge q p k i = false := fun k i a b => by rw [mEdge_comm]; exact H' i k b a
    rw [← corners_same hq hp H'' k hk, place_wind hp (polyB_pl hq hk) (fun i hi => on_of_meet0 (H'' k i hk hi)), if_neg hw]
/-! ### Discs and polygons -/
theorem nearI_eq {r : Rows} (hr : polyB r = true) {x y d : Int} (hq : placeB x y = true) (hd : 0 ≤ d ∧ d ≤ 3000000) {i : Nat} (hi : i < r.length) : nearI r x y d i = nearB x y (cx r i) (cy r i) (cx r (nxt r.length i)) (cy r (nxt r.length i)) d :=
  (nearR_eq hq (polyB_pl hr hi) (polyB_pl hr (nxt_lt hi)) hd).1
theorem neaN_iff {r : Rows} {x y d : Int} : ∀ (f i : Nat), neaN r x y d f i = true ↔ ∃ j, i ≤ j ∧ j < i + f ∧ nearI r x y d j = true
  | 0, k => ⟨fun h => (by cases h), fun ⟨j, h1, h2, _⟩ => by omega⟩
  | f + 1, k => by
    rw [neaN, Bool.or_eq_true, neaN_iff f (k + 1)]
    constructor
    · rintro (h | ⟨j, h1, h2, h3⟩)
      · exact ⟨k, by omega, by omega, h⟩
      · exact ⟨j, by omega, by omega, h3⟩
    · rintro ⟨j, h1, h2, h3⟩
      by_cases e : j = k
      · subst e; exact .inl h3
      · exact .inr ⟨j, by omega, by omega, h3⟩
theorem disX_nn {r : Rows} {x y d : Int} : 0 ≤ disX r x y d ↔ 0 ≤ placeN r x y r.length 0 false ∨ neaN r x y d r.length 0 = true := by
  unfold disX
  split
  · rename_i h
    exact ⟨fun _ => .inl h, fun _ => by split <;> omega⟩
  · rename_i h
    split
    · rename_i h'; exact ⟨fun _ => .inr h', fun _ => by omega⟩
    · rename_i h'; exact ⟨fun q => by omega, fun q => by rcases q with q | q; exact absurd q h; exact absurd q h'⟩
theorem near_of_meet {x y u v a b c e d : Int} (hl : dist2 x y u v ≤ d * d) (h : meetB x y u v a b c e = true) : nearB x y a b c e d = true := by
  obtain ⟨n, p, q, hn, ⟨t, t0, t1, rfl, rfl⟩, g2⟩ := common_of_meet h
  refine near_of_seg hn g2 ?_
  unfold dist2 at hl
  have h1 := Int.mul_le_mul_of_nonneg_left hl (sq_nn t)
  have h2 : t * t ≤ n * n := Int.mul_le_mul t1 t1 t0 (by omega)
  have h3 := Int.mul_le_mul_of_nonneg_right h2 (sq_nn d)
  grind
theorem dis_touch {r : Rows} (hr : polyB r = true) {x y d u v : Int} (hq : placeB x y = true) (hu : placeB u v = true) (hd : 0 ≤ d ∧ d ≤ 3000000) (hl : dist2 x y u v ≤ d * d) (h : 0 ≤ placeN r u v r.length 0 false) : 0 ≤ disX r x y d := by
  rw [disX_nn]
  by_cases hn : neaN r x y d r.length 0 = true
  · exact .inr hn
  refine .inl ?_
  rw [place_const hr hq hu (fun k hk => ?_)]
  · exact h
  · cases hm : meetB x y u v (cx r k) (cy r k) (cx r (nxt r.length k)) (cy r (nxt r.length k)) with
    | false => rfl
    | true => exact absurd ((neaN_iff _ _).mpr ⟨k, by omega, by omega, by rw [nearI_eq hr hq hd hk]; exact near_of_meet hl hm⟩) hn
end Go.Proofs.YtcjaembdcfppfaaGreat
