/- MJ, merged: TRa, Ra, Rb, TRc, Rc, Rd, TRe, Re, Rf, TRg, Rg, Rh, Ri, TRj, Rj, TRk, Rk, Rl, TRm, Rm, TRn, Rn. -/
import Derived.Test.YtglepdhapakmbaaGreatMI
set_option linter.unusedSimpArgs false
set_option linter.unusedVariables false
/- Chapter 38: trees of the reference of layer 1. -/
namespace Go.Proofs.YtglepdhapakmbaaGreat
open Go.RowKit
-- term trR1V: call Tryz.prog [] (Lt.of []) 100 29 (symArgs 0 [pt]) [] 0
def trR1V : TT OpR :=
(.ite (.cmp .geq (.var 0) (.lit (-1000000)))
 (.ite (.cmp .leq (.var 0) (.lit 1000000))
 (.ite (.cmp .geq (.var 1) (.lit (-1000000)))
 (.ret ((.v (.one (.z (.bool (.cmp .leq (.var 1) (.lit 1000000)))))), [], 1))
 (.ret ((.v (.one (.z (.bool (.lit false))))), [], 1)))
 (.ret ((.v (.one (.z (.bool (.lit false))))), [], 1)))
 (.ret ((.v (.one (.z (.bool (.lit false))))), [], 1)))
-- end trR1V
set_option maxRecDepth 100000 in
theorem trR1V_is : T.norm 0 (call Tryz.prog [] (Lt.of []) 100 29 (symArgs 0 [pt]) [] 0) TT.ret = trR1V := by kernel_rfl
theorem trR1V_low : trR1V.low 1000 = true := by kernel_rfl
-- term trR1Lie: call Tryz.prog [] (Lt.of []) 100 100 (symArgs 0 [pt, pt, pt]) [] 0
def trR1Lie : TT OpR :=
(.ite (.cmp .neq (.ar .sub .i64 (.ar .mul .i64 (.ar .sub .i64 (.var 4) (.var 2)) (.ar .sub .i64 (.var 1) (.var 3))) (.ar .mul .i64 (.ar .sub .i64 (.var 5) (.var 3)) (.ar .sub .i64 (.var 0) (.var 2)))) (.lit 0))
 (.ret ((.v (.one (.z (.bool (.lit false))))), [], 11))
 (.ite (.cmp .geq (.var 0) (.mn (.var 2) (.var 4)))
 (.ite (.cmp .leq (.var 0) (.mx (.var 2) (.var 4)))
 (.ite (.cmp .geq (.var 1) (.mn (.var 3) (.var 5)))
 (.ret ((.v (.one (.z (.bool (.cmp .leq (.var 1) (.mx (.var 3) (.var 5))))))), [], 11))
 (.ret ((.v (.one (.z (.bool (.lit false))))), [], 11)))
 (.ret ((.v (.one (.z (.bool (.lit false))))), [], 11)))
 (.ret ((.v (.one (.z (.bool (.lit false))))), [], 11))))
-- end trR1Lie
set_option maxRecDepth 100000 in
theorem trR1Lie_is : T.norm 0 (call Tryz.prog [] (Lt.of []) 100 100 (symArgs 0 [pt, pt, pt]) [] 0) TT.ret = trR1Lie := by kernel_rfl
theorem trR1Lie_low : trR1Lie.low 1000 = true := by kernel_rfl
-- term trR1Sign: call Tryz.prog [] (Lt.of []) 100 77 (symArgs 0 [it]) [] 0
def trR1Sign : TT OpR :=
(.ite (.cmp .gtr (.var 0) (.lit 0))
 (.ret ((.v (.one (.z (.int .i64 (.lit 1))))), [], 0))
 (.ite (.cmp .lss (.var 0) (.lit 0))
 (.ret ((.v (.one (.z (.int .i64 (.lit (-1)))))), [], 0))
 (.ret ((.v (.one (.z (.int .i64 (.lit 0))))), [], 0))))
-- end trR1Sign
set_option maxRecDepth 100000 in
theorem trR1Sign_is : T.norm 0 (call Tryz.prog [] (Lt.of []) 100 77 (symArgs 0 [it]) [] 0) TT.ret = trR1Sign := by kernel_rfl
theorem trR1Sign_low : trR1Sign.low 1000 = true := by kernel_rfl
-- term trR1Times: call Tryz.prog [] (Lt.of []) 100 102 (symArgs 0 [it, it]) [] 0
def trR1Times : TT OpR :=
(.ret ((.v (.agg [(.z (.int .i64 (.ar .add .i64 (.ar .add .i64 (.ar .mul .i64 (.ar .quo .i64 (.var 0) (.lit 4194304)) (.ar .quo .i64 (.var 1) (.lit 4194304))) (.ar .quo .i64 (.ar .add .i64 (.ar .mul .i64 (.ar .quo .i64 (.var 0) (.lit 4194304)) (.ar .rem .i64 (.var 1) (.lit 4194304))) (.ar .mul .i64 (.ar .rem .i64 (.var 0) (.lit 4194304)) (.ar .quo .i64 (.var 1) (.lit 4194304)))) (.lit 4194304))) (.ar .quo .i64 (.ar .add .i64 (.ar .mul .i64 (.ar .rem .i64 (.var 0) (.lit 4194304)) (.ar .rem .i64 (.var 1) (.lit 4194304))) (.ar .mul .i64 (.ar .rem .i64 (.ar .add .i64 (.ar .mul .i64 (.ar .quo .i64 (.var 0) (.lit 4194304)) (.ar .rem .i64 (.var 1) (.lit 4194304))) (.ar .mul .i64 (.ar .rem .i64 (.var 0) (.lit 4194304)) (.ar .quo .i64 (.var 1) (.lit 4194304)))) (.lit 4194304)) (.lit 4194304))) (.lit 17592186044416))))), (.z (.int .i64 (.ar .rem .i64 (.ar .add .i64 (.ar .mul .i64 (.ar .rem .i64 (.var 0) (.lit 4194304)) (.ar .rem .i64 (.var 1) (.lit 4194304))) (.ar .mul .i64 (.ar .rem .i64 (.ar .add .i64 (.ar .mul .i64 (.ar .quo .i64 (.var 0) (.lit 4194304)) (.ar .rem .i64 (.var 1) (.lit 4194304))) (.ar .mul .i64 (.ar .rem .i64 (.var 0) (.lit 4194304)) (.ar .quo .i64 (.var 1) (.lit 4194304)))) (.lit 4194304)) (.lit 4194304))) (.lit 17592186044416))))])), [], 1))
-- end trR1Times
set_option maxRecDepth 100000 in
theorem trR1Times_is : T.norm 0 (call Tryz.prog [] (Lt.of []) 100 102 (symArgs 0 [it, it]) [] 0) TT.ret = trR1Times := by kernel_rfl
theorem trR1Times_low : trR1Times.low 1000 = true := by kernel_rfl
end Go.Proofs.YtglepdhapakmbaaGreat
/- Chapter 38: what the reference of layer 1 answers, part one. -/
namespace Go.Proofs.YtglepdhapakmbaaGreat
open Go.RowKit
theorem gR1V : Gives Tryz.prog 29 [pt] (fun ds => .bool (placeL ds)) := by
  refine GivesIf.all (fn_gives KG (by kernel_rfl) (fun ρ h => .nil) (by kernel_rfl) trR1V_is trR1V_low (by decide) (fun W vals ds _ _ => ?_))
  simp only [trR1V, TT.sat_ret, TT.sat_ite, TT.sat_ob, TT.sat_next, TT.sat_stuck, put_i, put_b, put_d, put_fi, put_fb, put_fd, Ob.ok, B.ev, E.ev, X.ev, AL.ev, cmp_t, cmp_f, arEv, V.plain, V2.plain, S.plain, S0.plain, V.val, V2.val, S.val, S0.val, bV, iV, List.all_cons, List.all_nil, Bool.and_true, Bool.and_self, envOf_i, envOf_b, envOf_d, List.map_cons, List.map_nil, true_and, Bool.not_eq_true', Bool.not_eq_false', Bool.not_not, Bool.and_eq_true, and_f, cell_lg, cell_lb, cell_lr, cmpP, val_i, val_b, val_d, aget, Nat.reduceBEq, beq_self_eq_true, Bool.false_eq_true, if_true, if_false, Nat.reduceLT, Nat.reduceSub, Nat.sub_self, Nat.lt_irrefl]
  simp only [placeL, placeB]
  refine ⟨fun h => ⟨fun h' => ⟨fun h'' => ?_, fun h'' => ?_⟩, fun h' => ?_⟩, fun h => ?_⟩
  all_goals (congr 1; rw [Bool.eq_iff_iff]; try rw [cmp_t])
  all_goals (simp only [cmpP, decide_eq_true_eq, Bool.false_eq_true, false_iff]; omega)
theorem gR1Lie : GivesIf Tryz.prog 100 [pt, pt, pt] (fun ds => six6 ds = true) (fun ds => .bool (onL ds)) := by
  refine fn_gives KG (by kernel_rfl) (fun ρ h => .nil) (by kernel_rfl) trR1Lie_is trR1Lie_low (by decide) (fun W vals ds _ hok => ?_)
  obtain ⟨h0, h1, h2, h3, h4, h5⟩ := six_of hok
  simp only [trR1Lie, TT.sat_ret, TT.sat_ite, TT.sat_ob, TT.sat_next, TT.sat_stuck, put_i, put_b, put_d, put_fi, put_fb, put_fd, Ob.ok, B.ev, E.ev, X.ev, AL.ev, cmp_t, cmp_f, arEv, V.plain, V2.plain, S.plain, S0.plain, V.val, V2.val, S.val, S0.val, bV, iV, List.all_cons, List.all_nil, Bool.and_true, Bool.and_self, envOf_i, envOf_b, envOf_d, List.map_cons, List.map_nil, true_and, Bool.not_eq_true', Bool.not_eq_false', Bool.not_not, Bool.and_eq_true, and_f, cell_lg, cell_lb, cell_lr, cmpP, val_i, val_b, val_d, aget, Nat.reduceBEq, beq_self_eq_true, Bool.false_eq_true, if_true, if_false, Nat.reduceLT, Nat.reduceSub, Nat.sub_self, Nat.lt_irrefl]
  rw [w_sub h4 h2, w_sub h1 h3, w_sub h5 h3, w_sub h0 h2, (w_mul h4 h2 h1 h3).1, (w_mul h5 h3 h0 h2).1, (w_crs h4 h2 h1 h3 h5 h3 h0 h2).1]
  simp only [onL, onB, turnI, sgn0, crossI]
  refine ⟨fun h => ?_, fun h => ⟨fun h1 => ⟨fun h2 => ⟨fun h3 => ?_, fun h3 => ?_⟩, fun h2 => ?_⟩, fun h1 => ?_⟩⟩
  all_goals (congr 1; rw [Bool.eq_iff_iff]; try rw [cmp_t])
  all_goals (simp only [cmpP, decide_eq_true_eq, Bool.false_eq_true, false_iff]; omega)
def sgnL (ds : List D) : Int := sgn (iAt ds 0)
theorem gR1Sign : Gives Tryz.prog 77 [it] (fun ds => .int .i64 (sgnL ds)) := by
  refine GivesIf.all (fn_gives KG (by kernel_rfl) (fun ρ h => .nil) (by kernel_rfl) trR1Sign_is trR1Sign_low (by decide) (fun W vals ds _ _ => ?_))
  simp only [trR1Sign, TT.sat_ret, TT.sat_ite, TT.sat_ob, TT.sat_next, TT.sat_stuck, put_i, put_b, put_d, put_fi, put_fb, put_fd, Ob.ok, B.ev, E.ev, X.ev, AL.ev, cmp_t, cmp_f, arEv, V.plain, V2.plain, S.plain, S0.plain, V.val, V2.val, S.val, S0.val, bV, iV, List.all_cons, List.all_nil, Bool.and_true, Bool.and_self, envOf_i, envOf_b, envOf_d, List.map_cons, List.map_nil, true_and, Bool.not_eq_true', Bool.not_eq_false', Bool.not_not, Bool.and_eq_true, and_f, cell_lg, cell_lb, cell_lr, cmpP, val_i, val_b, val_d, aget, Nat.reduceBEq, beq_self_eq_true, Bool.false_eq_true, if_true, if_false, Nat.reduceLT, Nat.reduceSub, Nat.sub_self, Nat.lt_irrefl]
  simp only [sgnL, sgn]
  refine ⟨fun h => ?_, fun h => ⟨fun h' => ?_, fun h' => ?_⟩⟩
  all_goals (congr 1; (repeat' split) <;> omega)
def timH (ds : List D) : Int := iAt ds 0 * iAt ds 1 / 17592186044416
def timL (ds : List D) : Int := iAt ds 0 * iAt ds 1 % 17592186044416
theorem tdiv_half {a : Int} (h : 0 ≤ a) : a.tdiv 4194304 = a / 4194304 ∧ a.tmod 4194304 = a % 4194304 := ⟨Int.tdiv_eq_ediv_of_nonneg h, Int.tmod_eq_emod_of_nonneg h⟩
theorem times_eq {p q r s : Int} (hp : 0 ≤ p ∧ p < 4194304) (hq : 0 ≤ q ∧ q < 4194304) (hr : 0 ≤ r ∧ r < 4194304) (hs : 0 ≤ s ∧ s < 4194304) :
    let x := p * 4194304 + q; let y := r * 4194304 + s; let mid := p * s + q * r; let lo := q * s + mid % 4194304 * 4194304
    p * r + mid / 4194304 + lo / 17592186044416 = x * y / 17592186044416 ∧ lo % 17592186044416 = x * y % 17592186044416 := by
  intro x y mid lo
  have e : x * y = (p * r + mid / 4194304) * 17592186044416 + lo := by
    have h1 : x * y = p * r * 17592186044416 + mid * 4194304 + q * s := by simp only [x, y, mid]; grind
    have h2 := Int.mul_ediv_add_emod mid 4194304
    have h3 : lo = q * s + mid % 4194304 * 4194304 := rfl
    omega
  rw [e]
  omega
theorem gR1Times : GivesIf Tryz.prog 102 [it, it] (fun ds => (0 ≤ iAt ds 0 ∧ iAt ds 0 < 17592186044416) ∧ (0 ≤ iAt ds 1 ∧ iAt ds 1 < 17592186044416)) (fun ds => .agg #[.int .i64 (timH ds), .int .i64 (timL ds)]) := by
  refine fn_gives KG (by kernel_rfl) (fun ρ h => .nil) (by kernel_rfl) trR1Times_is trR1Times_low (by decide) (fun W vals ds _ hok => ?_)
  obtain ⟨⟨a0, a1⟩, b0, b1⟩ := hok
  simp only [trR1Times, TT.sat_ret, TT.sat_ite, TT.sat_ob, TT.sat_next, TT.sat_stuck, put_i, put_b, put_d, put_fi, put_fb, put_fd, Ob.ok, B.ev, E.ev, X.ev, AL.ev, cmp_t, cmp_f, arEv, V.plain, V2.plain, S.plain, S0.plain, V.val, V2.val, S.val, S0.val, bV, iV, List.all_cons, List.all_nil, Bool.and_true, Bool.and_self, envOf_i, envOf_b, envOf_d, List.map_cons, List.map_nil, true_and, Bool.not_eq_true', Bool.not_eq_false', Bool.not_not, Bool.and_eq_true, and_f, cell_lg, cell_lb, cell_lr, cmpP, val_i, val_b, val_d, aget, Nat.reduceBEq, beq_self_eq_true, Bool.false_eq_true, if_true, if_false, Nat.reduceLT, Nat.reduceSub, Nat.sub_self, Nat.lt_irrefl]
  obtain ⟨x, hx⟩ : ∃ x, iAt ds 0 = x := ⟨_, rfl⟩
  obtain ⟨y, hy⟩ : ∃ y, iAt ds 1 = y := ⟨_, rfl⟩
  rw [hx] at a0 a1
  rw [hy] at b0 b1
  simp only [timH, timL, hx, hy, (tdiv_half a0).1, (tdiv_half a0).2, (tdiv_half b0).1, (tdiv_half b0).2]
  have p1 : 0 ≤ x / 4194304 ∧ x / 4194304 < 4194304 := by omega
  have p2 : 0 ≤ x % 4194304 ∧ x % 4194304 < 4194304 := by omega
  have p3 : 0 ≤ y / 4194304 ∧ y / 4194304 < 4194304 := by omega
  have p4 : 0 ≤ y % 4194304 ∧ y % 4194304 < 4194304 := by omega
  have key := times_eq p1 p2 p3 p4
  have ex : x / 4194304 * 4194304 + x % 4194304 = x := by omega
  have ey : y / 4194304 * 4194304 + y % 4194304 = y := by omega
  simp only [ex, ey] at key
  have w1 : ∀ {u v : Int}, 0 ≤ u ∧ u < 4194304 → 0 ≤ v ∧ v < 4194304 → 0 ≤ u * v ∧ u * v ≤ 17592177655809 := fun {u v} h1 h2 => by
    have := Int.mul_nonneg h1.1 h2.1
    have := mul_abs (a := u) (b := v) (A := 4194303) (B := 4194303) (by omega) (by omega) (by omega) (by omega)
    omega
  have q1 := w1 p1 p3
  have q2 := w1 p1 p4
  have q3 := w1 p2 p3
  have q4 := w1 p2 p4
  generalize x / 4194304 = p at *
  generalize x % 4194304 = q at *
  generalize y / 4194304 = r at *
  generalize y % 4194304 = s at *
  rw [wrap_in p (by omega) (by omega), wrap_in r (by omega) (by omega), wrap_in (p * r) (by omega) (by omega), wrap_in (p * s) (by omega) (by omega), wrap_in (q * r) (by omega) (by omega), wrap_in (q * s) (by omega) (by omega), wrap_in (p * s + q * r) (by omega) (by omega)]
  rw [(tdiv_half (show 0 ≤ p * s + q * r by omega)).1, (tdiv_half (show 0 ≤ p * s + q * r by omega)).2]
  have m1 : 0 ≤ (p * s + q * r) / 4194304 ∧ (p * s + q * r) / 4194304 ≤ 8388608 := by omega
  have m2 : 0 ≤ (p * s + q * r) % 4194304 ∧ (p * s + q * r) % 4194304 < 4194304 := by omega
  generalize (p * s + q * r) / 4194304 = md at *
  generalize (p * s + q * r) % 4194304 = mm at *
  rw [wrap_in (mm * 4194304) (by omega) (by omega), wrap_in (q * s + mm * 4194304) (by omega) (by omega), wrap_in md (by omega) (by omega)]
  rw [Int.tdiv_eq_ediv_of_nonneg (show 0 ≤ q * s + mm * 4194304 by omega), Int.tmod_eq_emod_of_nonneg (show 0 ≤ q * s + mm * 4194304 by omega)]
  have m3 : 0 ≤ (q * s + mm * 4194304) / 17592186044416 ∧ (q * s + mm * 4194304) / 17592186044416 ≤ 2 := by omega
  rw [wrap_in ((q * s + mm * 4194304) / 17592186044416) (by omega) (by omega), wrap_in (p * r + md) (by omega) (by omega), wrap_in (p * r + md + (q * s + mm * 4194304) / 17592186044416) (by omega) (by omega), key.1, key.2]
end Go.Proofs.YtglepdhapakmbaaGreat
/- Chapter 38: contracts of the reference of layer 1. -/
namespace Go.Proofs.YtglepdhapakmbaaGreat
open Go.RowKit
def KR : Interp where
  fi n l := match n with | 90 => sgnL l | 91 => timH l | 92 => timL l | n => KG.fi n l
  fb n l := KG.fb n l
  fd _ _ := []
theorem KR_KG {ρ : Env} (h : Sees ρ KR 93) : Sees ρ KG 80 := h.trans (by decide) fun n l hn => by
  refine ⟨?_, ?_⟩
  ·
    simp only [KR]
    split <;> first | omega | rfl
  ·
    rfl
def cR1V := ctD [pt] fun al => .ret (bV (bF 3 placeL al))
theorem cR1V_ok {ρ : Env} (h : Sees ρ KG 80) : CtOne Tryz.prog ρ 29 cR1V :=
  ctD_ok gR1V (fun _ => rfl) (fun al => by simp only [iV, bV, V.s0, V.val, V2.val, S.val, S0.val, bF_ev (s := 3) (f := placeL) (fun l => by rw [(h 3 l (by decide)).2]; simp only [KG, KF, KE, KD, KC, KB, KA, K9, K8, K7, K6, K5, K])]; try rfl)
def cR1Sign := ctD [it] fun al => .ret (iV .i64 (iF 90 sgnL al))
theorem cR1Sign_ok {ρ : Env} (h : Sees ρ KR 93) : CtOne Tryz.prog ρ 77 cR1Sign :=
  ctD_ok gR1Sign (fun _ => rfl) (fun al => by simp only [iV, bV, V.s0, V.val, V2.val, S.val, S0.val, iF_ev (s := 90) (f := sgnL) (fun l => by rw [(h 90 l (by decide)).1]; simp only [KR, KG, KF, KE, KD, KC, KB, KA, K9, K8, K7, K6, K5, K])]; try rfl)
theorem on1_of {ρ : Env} {f : Nat} (g : GivesIf Tryz.prog f [pt, pt, pt] (fun ds => six6 ds = true) (fun ds => .bool (onL ds))) (h1 : ∀ l, ρ.fb 1 l = six6 l) (h4 : ∀ l, ρ.fb 4 l = onL l) : CtOne Tryz.prog ρ f cOn1 := by
  refine ctD_if g (fun al v hv => ?_)
  obtain ⟨ho, hv⟩ := hv
  obtain rfl := res_ret hv
  have ho : (bF 1 six6 al).ev ρ = true := ho
  rw [bF_ev h1] at ho
  refine ⟨rfl, ho, ?_⟩
  simp only [bV, V.s0, V.val, V2.val, S.val, S0.val, bF_ev h4]
theorem cR1Lie_ok {ρ : Env} (h : Sees ρ KG 80) : CtOne Tryz.prog ρ 100 cOn1 :=
  on1_of gR1Lie (fun l => by rw [(h 1 l (by decide)).2]; simp only [KG, KF, KE, KD, KC, KB, KA, K9, K8, K7, K6, K5, K]) (fun l => by rw [(h 4 l (by decide)).2]; simp only [KG, KF, KE, KD, KC, KB, KA, K9, K8, K7, K6, K5, K])
def oTimes (al : AL) : T V := match al with
  | .i a (.i b .nil) => T.obs [.tru (.cmpS .leq (.lit 0) a), .tru (.cmpS .lss a (.lit 17592186044416)), .tru (.cmpS .leq (.lit 0) b), .tru (.cmpS .lss b (.lit 17592186044416))] (.ret (.v (.agg [sIF 91 timH al, sIF 92 timL al])))
  | _ => .stuck "times"
def cTimesR := ctD [it, it] oTimes
theorem cTimesR_ok {ρ : Env} (h : Sees ρ KR 93) : CtOne Tryz.prog ρ 102 cTimesR := by
  refine ctD_if gR1Times (fun al v hv => ?_)
  unfold oTimes at hv
  split at hv
  · rename_i a b
    obtain ⟨ho, hv⟩ := T.res_obs hv
    obtain rfl := res_ret hv
    have o1 := ho _ (List.mem_cons_self ..)
    have o2 := ho _ (List.mem_cons_of_mem _ (List.mem_cons_self ..))
    have o3 := ho _ (List.mem_cons_of_mem _ (List.mem_cons_of_mem _ (List.mem_cons_self ..)))
    have o4 := ho _ (List.mem_cons_of_mem _ (List.mem_cons_of_mem _ (List.mem_cons_of_mem _ (List.mem_cons_self ..))))
    simp only [Ob.ok, B.cmpS_ev, cmp_t, cmpP, E.ev] at o1 o2 o3 o4
    refine ⟨rfl, ⟨⟨o1, o2⟩, o3, o4⟩, ?_⟩
    simp only [V.val, V2.val, S.val, S0.val, sIF, List.map_cons, List.map_nil, iF_ev (s := 91) (f := timH) (fun l => by rw [(h 91 l (by decide)).1]; simp only [KR]), iF_ev (s := 92) (f := timL) (fun l => by rw [(h 92 l (by decide)).1]; simp only [KR])]
    try rfl
  · exact hv.elim
def ctR1 : Ct := (29, cR1V) :: (100, cOn1) :: (77, cR1Sign) :: (102, cTimesR) :: []
theorem ctR1_ok {ρ : Env} (h : Sees ρ KR 93) : CtOk Tryz.prog ρ ctR1 := .cons (cR1V_ok (KR_KG h)) <| .cons (cR1Lie_ok (KR_KG h)) <| .cons (cR1Sign_ok h) <| .cons (cTimesR_ok h) .nil
end Go.Proofs.YtglepdhapakmbaaGreat
/- Chapter 38: trees of the reference of layer 1, part two; layer 2. -/
namespace Go.Proofs.YtglepdhapakmbaaGreat
open Go.RowKit
-- term trR1Cr: call Tryz.prog ctR1 (Lt.of []) 100 80 (symArgs 0 [pt, pt, pt, pt]) [] 0
def trR1Cr : TT OpR :=
(.ob (.tru (.fn 1 (.i (.var 0) (.i (.var 1) (.i (.var 4) (.i (.var 5) (.i (.var 6) (.i (.var 7) .nil))))))))
(.ite (.fn 4 (.i (.var 0) (.i (.var 1) (.i (.var 4) (.i (.var 5) (.i (.var 6) (.i (.var 7) .nil)))))))
 (.ret ((.v (.one (.z (.bool (.lit true))))), [], 4))
 (.ob (.tru (.fn 1 (.i (.var 2) (.i (.var 3) (.i (.var 4) (.i (.var 5) (.i (.var 6) (.i (.var 7) .nil))))))))
 (.ite (.fn 4 (.i (.var 2) (.i (.var 3) (.i (.var 4) (.i (.var 5) (.i (.var 6) (.i (.var 7) .nil)))))))
 (.ret ((.v (.one (.z (.bool (.lit true))))), [], 4))
 (.ob (.tru (.fn 1 (.i (.var 4) (.i (.var 5) (.i (.var 0) (.i (.var 1) (.i (.var 2) (.i (.var 3) .nil))))))))
 (.ite (.fn 4 (.i (.var 4) (.i (.var 5) (.i (.var 0) (.i (.var 1) (.i (.var 2) (.i (.var 3) .nil)))))))
 (.ret ((.v (.one (.z (.bool (.lit true))))), [], 4))
 (.ob (.tru (.fn 1 (.i (.var 6) (.i (.var 7) (.i (.var 0) (.i (.var 1) (.i (.var 2) (.i (.var 3) .nil))))))))
 (.ite (.fn 4 (.i (.var 6) (.i (.var 7) (.i (.var 0) (.i (.var 1) (.i (.var 2) (.i (.var 3) .nil)))))))
 (.ret ((.v (.one (.z (.bool (.lit true))))), [], 4))
 (.ite (.cmp .lss (.ar .mul .i64 (.fn 90 (.i (.ar .sub .i64 (.ar .mul .i64 (.ar .sub .i64 (.var 2) (.var 0)) (.ar .sub .i64 (.var 5) (.var 1))) (.ar .mul .i64 (.ar .sub .i64 (.var 3) (.var 1)) (.ar .sub .i64 (.var 4) (.var 0)))) .nil)) (.fn 90 (.i (.ar .sub .i64 (.ar .mul .i64 (.ar .sub .i64 (.var 2) (.var 0)) (.ar .sub .i64 (.var 7) (.var 1))) (.ar .mul .i64 (.ar .sub .i64 (.var 3) (.var 1)) (.ar .sub .i64 (.var 6) (.var 0)))) .nil))) (.lit 0))
 (.ret ((.v (.one (.z (.bool (.cmp .lss (.ar .mul .i64 (.fn 90 (.i (.ar .sub .i64 (.ar .mul .i64 (.ar .sub .i64 (.var 6) (.var 4)) (.ar .sub .i64 (.var 1) (.var 5))) (.ar .mul .i64 (.ar .sub .i64 (.var 7) (.var 5)) (.ar .sub .i64 (.var 0) (.var 4)))) .nil)) (.fn 90 (.i (.ar .sub .i64 (.ar .mul .i64 (.ar .sub .i64 (.var 6) (.var 4)) (.ar .sub .i64 (.var 3) (.var 5))) (.ar .mul .i64 (.ar .sub .i64 (.var 7) (.var 5)) (.ar .sub .i64 (.var 2) (.var 4)))) .nil))) (.lit 0)))))), [], 36))
 (.ret ((.v (.one (.z (.bool (.lit false))))), [], 36)))))))))))
-- end trR1Cr
set_option maxRecDepth 100000 in
theorem trR1Cr_is : T.norm 0 (call Tryz.prog ctR1 (Lt.of []) 100 80 (symArgs 0 [pt, pt, pt, pt]) [] 0) TT.ret = trR1Cr := by kernel_rfl
theorem trR1Cr_low : trR1Cr.low 1000 = true := by kernel_rfl
-- term trR1W: call Tryz.prog ctR1 (Lt.of []) 100 87 (symArgs 0 [pt, pt, pt, it]) [] 0
def trR1W : TT OpR :=
(.ite (.cmp .leq (.ar .add .i64 (.ar .mul .i64 (.ar .sub .i64 (.var 4) (.var 2)) (.ar .sub .i64 (.var 0) (.var 2))) (.ar .mul .i64 (.ar .sub .i64 (.var 5) (.var 3)) (.ar .sub .i64 (.var 1) (.var 3)))) (.lit 0))
 (.ret ((.v (.one (.z (.bool (.cmp .leq (.ar .add .i64 (.ar .mul .i64 (.ar .sub .i64 (.var 0) (.var 2)) (.ar .sub .i64 (.var 0) (.var 2))) (.ar .mul .i64 (.ar .sub .i64 (.var 1) (.var 3)) (.ar .sub .i64 (.var 1) (.var 3)))) (.ar .mul .i64 (.var 6) (.var 6))))))), [], 17))
 (.ite (.cmp .geq (.ar .add .i64 (.ar .mul .i64 (.ar .sub .i64 (.var 4) (.var 2)) (.ar .sub .i64 (.var 0) (.var 2))) (.ar .mul .i64 (.ar .sub .i64 (.var 5) (.var 3)) (.ar .sub .i64 (.var 1) (.var 3)))) (.ar .add .i64 (.ar .mul .i64 (.ar .sub .i64 (.var 4) (.var 2)) (.ar .sub .i64 (.var 4) (.var 2))) (.ar .mul .i64 (.ar .sub .i64 (.var 5) (.var 3)) (.ar .sub .i64 (.var 5) (.var 3)))))
 (.ret ((.v (.one (.z (.bool (.cmp .leq (.ar .add .i64 (.ar .mul .i64 (.ar .sub .i64 (.var 4) (.var 0)) (.ar .sub .i64 (.var 4) (.var 0))) (.ar .mul .i64 (.ar .sub .i64 (.var 5) (.var 1)) (.ar .sub .i64 (.var 5) (.var 1)))) (.ar .mul .i64 (.var 6) (.var 6))))))), [], 25))
 (.ob (.tru (.cmp .leq (.lit 0) (.mx (.ar .sub .i64 (.ar .mul .i64 (.ar .sub .i64 (.var 4) (.var 2)) (.ar .sub .i64 (.var 1) (.var 3))) (.ar .mul .i64 (.ar .sub .i64 (.var 5) (.var 3)) (.ar .sub .i64 (.var 0) (.var 2)))) (.ar .sub .i64 (.lit 0) (.ar .sub .i64 (.ar .mul .i64 (.ar .sub .i64 (.var 4) (.var 2)) (.ar .sub .i64 (.var 1) (.var 3))) (.ar .mul .i64 (.ar .sub .i64 (.var 5) (.var 3)) (.ar .sub .i64 (.var 0) (.var 2))))))))
 (.ob (.tru (.cmp .lss (.mx (.ar .sub .i64 (.ar .mul .i64 (.ar .sub .i64 (.var 4) (.var 2)) (.ar .sub .i64 (.var 1) (.var 3))) (.ar .mul .i64 (.ar .sub .i64 (.var 5) (.var 3)) (.ar .sub .i64 (.var 0) (.var 2)))) (.ar .sub .i64 (.lit 0) (.ar .sub .i64 (.ar .mul .i64 (.ar .sub .i64 (.var 4) (.var 2)) (.ar .sub .i64 (.var 1) (.var 3))) (.ar .mul .i64 (.ar .sub .i64 (.var 5) (.var 3)) (.ar .sub .i64 (.var 0) (.var 2)))))) (.lit 17592186044416)))
 (.ob (.tru (.cmp .leq (.lit 0) (.mx (.ar .sub .i64 (.ar .mul .i64 (.ar .sub .i64 (.var 4) (.var 2)) (.ar .sub .i64 (.var 1) (.var 3))) (.ar .mul .i64 (.ar .sub .i64 (.var 5) (.var 3)) (.ar .sub .i64 (.var 0) (.var 2)))) (.ar .sub .i64 (.lit 0) (.ar .sub .i64 (.ar .mul .i64 (.ar .sub .i64 (.var 4) (.var 2)) (.ar .sub .i64 (.var 1) (.var 3))) (.ar .mul .i64 (.ar .sub .i64 (.var 5) (.var 3)) (.ar .sub .i64 (.var 0) (.var 2))))))))
 (.ob (.tru (.cmp .lss (.mx (.ar .sub .i64 (.ar .mul .i64 (.ar .sub .i64 (.var 4) (.var 2)) (.ar .sub .i64 (.var 1) (.var 3))) (.ar .mul .i64 (.ar .sub .i64 (.var 5) (.var 3)) (.ar .sub .i64 (.var 0) (.var 2)))) (.ar .sub .i64 (.lit 0) (.ar .sub .i64 (.ar .mul .i64 (.ar .sub .i64 (.var 4) (.var 2)) (.ar .sub .i64 (.var 1) (.var 3))) (.ar .mul .i64 (.ar .sub .i64 (.var 5) (.var 3)) (.ar .sub .i64 (.var 0) (.var 2)))))) (.lit 17592186044416)))
 (.ob (.tru (.cmp .leq (.lit 0) (.ar .mul .i64 (.var 6) (.var 6))))
 (.ob (.tru (.cmp .lss (.ar .mul .i64 (.var 6) (.var 6)) (.lit 17592186044416)))
 (.ob (.tru (.cmp .leq (.lit 0) (.ar .add .i64 (.ar .mul .i64 (.ar .sub .i64 (.var 4) (.var 2)) (.ar .sub .i64 (.var 4) (.var 2))) (.ar .mul .i64 (.ar .sub .i64 (.var 5) (.var 3)) (.ar .sub .i64 (.var 5) (.var 3))))))
 (.ob (.tru (.cmp .lss (.ar .add .i64 (.ar .mul .i64 (.ar .sub .i64 (.var 4) (.var 2)) (.ar .sub .i64 (.var 4) (.var 2))) (.ar .mul .i64 (.ar .sub .i64 (.var 5) (.var 3)) (.ar .sub .i64 (.var 5) (.var 3)))) (.lit 17592186044416)))
 (.ite (.cmp .lss (.fn 91 (.i (.mx (.ar .sub .i64 (.ar .mul .i64 (.ar .sub .i64 (.var 4) (.var 2)) (.ar .sub .i64 (.var 1) (.var 3))) (.ar .mul .i64 (.ar .sub .i64 (.var 5) (.var 3)) (.ar .sub .i64 (.var 0) (.var 2)))) (.ar .sub .i64 (.lit 0) (.ar .sub .i64 (.ar .mul .i64 (.ar .sub .i64 (.var 4) (.var 2)) (.ar .sub .i64 (.var 1) (.var 3))) (.ar .mul .i64 (.ar .sub .i64 (.var 5) (.var 3)) (.ar .sub .i64 (.var 0) (.var 2)))))) (.i (.mx (.ar .sub .i64 (.ar .mul .i64 (.ar .sub .i64 (.var 4) (.var 2)) (.ar .sub .i64 (.var 1) (.var 3))) (.ar .mul .i64 (.ar .sub .i64 (.var 5) (.var 3)) (.ar .sub .i64 (.var 0) (.var 2)))) (.ar .sub .i64 (.lit 0) (.ar .sub .i64 (.ar .mul .i64 (.ar .sub .i64 (.var 4) (.var 2)) (.ar .sub .i64 (.var 1) (.var 3))) (.ar .mul .i64 (.ar .sub .i64 (.var 5) (.var 3)) (.ar .sub .i64 (.var 0) (.var 2)))))) .nil))) (.fn 91 (.i (.ar .mul .i64 (.var 6) (.var 6)) (.i (.ar .add .i64 (.ar .mul .i64 (.ar .sub .i64 (.var 4) (.var 2)) (.ar .sub .i64 (.var 4) (.var 2))) (.ar .mul .i64 (.ar .sub .i64 (.var 5) (.var 3)) (.ar .sub .i64 (.var 5) (.var 3)))) .nil))))
 (.ret ((.v (.one (.z (.bool (.lit true))))), [], 19))
 (.ite (.cmp .eql (.fn 91 (.i (.mx (.ar .sub .i64 (.ar .mul .i64 (.ar .sub .i64 (.var 4) (.var 2)) (.ar .sub .i64 (.var 1) (.var 3))) (.ar .mul .i64 (.ar .sub .i64 (.var 5) (.var 3)) (.ar .sub .i64 (.var 0) (.var 2)))) (.ar .sub .i64 (.lit 0) (.ar .sub .i64 (.ar .mul .i64 (.ar .sub .i64 (.var 4) (.var 2)) (.ar .sub .i64 (.var 1) (.var 3))) (.ar .mul .i64 (.ar .sub .i64 (.var 5) (.var 3)) (.ar .sub .i64 (.var 0) (.var 2)))))) (.i (.mx (.ar .sub .i64 (.ar .mul .i64 (.ar .sub .i64 (.var 4) (.var 2)) (.ar .sub .i64 (.var 1) (.var 3))) (.ar .mul .i64 (.ar .sub .i64 (.var 5) (.var 3)) (.ar .sub .i64 (.var 0) (.var 2)))) (.ar .sub .i64 (.lit 0) (.ar .sub .i64 (.ar .mul .i64 (.ar .sub .i64 (.var 4) (.var 2)) (.ar .sub .i64 (.var 1) (.var 3))) (.ar .mul .i64 (.ar .sub .i64 (.var 5) (.var 3)) (.ar .sub .i64 (.var 0) (.var 2)))))) .nil))) (.fn 91 (.i (.ar .mul .i64 (.var 6) (.var 6)) (.i (.ar .add .i64 (.ar .mul .i64 (.ar .sub .i64 (.var 4) (.var 2)) (.ar .sub .i64 (.var 4) (.var 2))) (.ar .mul .i64 (.ar .sub .i64 (.var 5) (.var 3)) (.ar .sub .i64 (.var 5) (.var 3)))) .nil))))
 (.ret ((.v (.one (.z (.bool (.cmp .leq (.fn 92 (.i (.mx (.ar .sub .i64 (.ar .mul .i64 (.ar .sub .i64 (.var 4) (.var 2)) (.ar .sub .i64 (.var 1) (.var 3))) (.ar .mul .i64 (.ar .sub .i64 (.var 5) (.var 3)) (.ar .sub .i64 (.var 0) (.var 2)))) (.ar .sub .i64 (.lit 0) (.ar .sub .i64 (.ar .mul .i64 (.ar .sub .i64 (.var 4) (.var 2)) (.ar .sub .i64 (.var 1) (.var 3))) (.ar .mul .i64 (.ar .sub .i64 (.var 5) (.var 3)) (.ar .sub .i64 (.var 0) (.var 2)))))) (.i (.mx (.ar .sub .i64 (.ar .mul .i64 (.ar .sub .i64 (.var 4) (.var 2)) (.ar .sub .i64 (.var 1) (.var 3))) (.ar .mul .i64 (.ar .sub .i64 (.var 5) (.var 3)) (.ar .sub .i64 (.var 0) (.var 2)))) (.ar .sub .i64 (.lit 0) (.ar .sub .i64 (.ar .mul .i64 (.ar .sub .i64 (.var 4) (.var 2)) (.ar .sub .i64 (.var 1) (.var 3))) (.ar .mul .i64 (.ar .sub .i64 (.var 5) (.var 3)) (.ar .sub .i64 (.var 0) (.var 2)))))) .nil))) (.fn 92 (.i (.ar .mul .i64 (.var 6) (.var 6)) (.i (.ar .add .i64 (.ar .mul .i64 (.ar .sub .i64 (.var 4) (.var 2)) (.ar .sub .i64 (.var 4) (.var 2))) (.ar .mul .i64 (.ar .sub .i64 (.var 5) (.var 3)) (.ar .sub .i64 (.var 5) (.var 3)))) .nil)))))))), [], 19))
 (.ret ((.v (.one (.z (.bool (.lit false))))), [], 19))))))))))))))
-- end trR1W
set_option maxRecDepth 100000 in
theorem trR1W_is : T.norm 0 (call Tryz.prog ctR1 (Lt.of []) 100 87 (symArgs 0 [pt, pt, pt, it]) [] 0) TT.ret = trR1W := by kernel_rfl
theorem trR1W_low : trR1W.low 1000 = true := by kernel_rfl
end Go.Proofs.YtglepdhapakmbaaGreat
/- Chapter 38: what the reference of layer 1 answers, part two; layer 2. -/
namespace Go.Proofs.YtglepdhapakmbaaGreat
open Go.RowKit
theorem KRb1 (W : World) (ds l : List D) : (envOf KR W ds).fb 1 l = six6 l := by simp only [envOf, KR, KG, KF, KE, KD, KC, KB, KA, K9, K8, K7, K6, K5, K]
theorem KRb4 (W : World) (ds l : List D) : (envOf KR W ds).fb 4 l = onL l := by simp only [envOf, KR, KG, KF, KE, KD, KC, KB, KA, K9, K8, K7, K6, K5, K]
theorem KRi90 (W : World) (ds l : List D) : (envOf KR W ds).fi 90 l = sgnL l := by simp only [envOf, KR, KG, KF, KE, KD, KC, KB, KA, K9, K8, K7, K6, K5, K]
theorem KRi91 (W : World) (ds l : List D) : (envOf KR W ds).fi 91 l = timH l := by simp only [envOf, KR, KG, KF, KE, KD, KC, KB, KA, K9, K8, K7, K6, K5, K]
theorem KRi92 (W : World) (ds l : List D) : (envOf KR W ds).fi 92 l = timL l := by simp only [envOf, KR, KG, KF, KE, KD, KC, KB, KA, K9, K8, K7, K6, K5, K]
theorem sgn_one (n : Int) : sgnL [.i n] = sgn n := rfl
theorem timH_two (a b : Int) : timH [.i a, .i b] = a * b / 17592186044416 := rfl
theorem timL_two (a b : Int) : timL [.i a, .i b] = a * b % 17592186044416 := rfl
theorem gR1Cr : GivesIf Tryz.prog 80 [pt, pt, pt, pt] (fun ds => eight ds = true) (fun ds => .bool (meetL ds)) := by
  refine fn_gives KR (by kernel_rfl) (fun ρ h => ctR1_ok (Sees.of h 93)) (by kernel_rfl) trR1Cr_is trR1Cr_low (by decide) (fun W vals ds _ hok => ?_)
  simp only [eight, Bool.and_eq_true] at hok
  obtain ⟨a, b, c, d⟩ := hok
  have a' := placeB_iff.mp a
  have b' := placeB_iff.mp b
  have c' := placeB_iff.mp c
  have d' := placeB_iff.mp d
  simp only [trR1Cr, TT.sat_ret, TT.sat_ite, TT.sat_ob, TT.sat_next, TT.sat_stuck, put_i, put_b, put_d, put_fi, put_fb, put_fd, Ob.ok, B.ev, E.ev, X.ev, AL.ev, cmp_t, cmp_f, arEv, V.plain, V2.plain, S.plain, S0.plain, V.val, V2.val, S.val, S0.val, bV, iV, List.all_cons, List.all_nil, Bool.and_true, Bool.and_self, envOf_i, envOf_b, envOf_d, List.map_cons, List.map_nil, true_and, Bool.not_eq_true', Bool.not_eq_false', Bool.not_not, Bool.and_eq_true, and_f, cell_lg, cell_lb, cell_lr, cmpP, val_i, val_b, val_d, aget, Nat.reduceBEq, beq_self_eq_true, Bool.false_eq_true, if_true, if_false, Nat.reduceLT, Nat.reduceSub, Nat.sub_self, Nat.lt_irrefl, KRb1, KRb4, KRi90, six_six, on_six, sgn_one]
  simp only [w_sub b'.1 a'.1, w_sub c'.2 a'.2, w_sub b'.2 a'.2, w_sub c'.1 a'.1, w_sub d'.2 a'.2, w_sub d'.1 a'.1, w_sub d'.1 c'.1, w_sub a'.2 c'.2, w_sub d'.2 c'.2, w_sub a'.1 c'.1, w_sub b'.2 c'.2, w_sub b'.1 c'.1,
    w_mul1 b'.1 a'.1 c'.2 a'.2, w_mul1 b'.2 a'.2 c'.1 a'.1, w_mul1 b'.1 a'.1 d'.2 a'.2, w_mul1 b'.2 a'.2 d'.1 a'.1, w_mul1 d'.1 c'.1 a'.2 c'.2, w_mul1 d'.2 c'.2 a'.1 c'.1, w_mul1 d'.1 c'.1 b'.2 c'.2, w_mul1 d'.2 c'.2 b'.1 c'.1,
    (w_crs b'.1 a'.1 c'.2 a'.2 b'.2 a'.2 c'.1 a'.1).1, (w_crs b'.1 a'.1 d'.2 a'.2 b'.2 a'.2 d'.1 a'.1).1, (w_crs d'.1 c'.1 a'.2 c'.2 d'.2 c'.2 a'.1 c'.1).1, (w_crs d'.1 c'.1 b'.2 c'.2 d'.2 c'.2 b'.1 c'.1).1]
  have w : ∀ m n : Int, IntKind.i64.wrap (sgn m * sgn n) = sgn m * sgn n := fun m n => by
    have := sgn_le m
    have := sgn_le n
    have := mul_abs (a := sgn m) (b := sgn n) (A := 1) (B := 1) (by omega) (by omega) (by omega) (by omega)
    exact wrap_in _ (by omega) (by omega)
  simp only [w, meetL, meetB, turnI, crossI, a, b, c, d, Bool.and_self, true_and]
  refine ⟨fun h1 => ?_, fun h1 => ⟨fun h2 => ?_, fun h2 => ⟨fun h3 => ?_, fun h3 => ⟨fun h4 => ?_, fun h4 => ⟨fun h5 => ?_, fun h5 => ?_⟩⟩⟩⟩⟩
  · rw [h1]; simp
  · rw [h2]; simp
  · rw [h3]; simp
  · rw [h4]; simp
  · rw [h1, h2, h3, h4]; simp [h5, cmpEv]
  · rw [h1, h2, h3, h4]; simp [h5]
theorem most_cmp {a b c d : Int} : (a * b / 17592186044416 < c * d / 17592186044416 ∨ (a * b / 17592186044416 = c * d / 17592186044416 ∧ a * b % 17592186044416 ≤ c * d % 17592186044416)) ↔ a * b ≤ c * d := by
  generalize a * b = x
  generalize c * d = y
  omega
theorem gR1W : GivesIf Tryz.prog 87 [pt, pt, pt, it] (fun ds => nearO ds = true) (fun ds => .bool (nearL ds)) := by
  refine fn_gives KR (by kernel_rfl) (fun ρ h => ctR1_ok (Sees.of h 93)) (by kernel_rfl) trR1W_is trR1W_low (by decide) (fun W vals ds _ hok => ?_)
  simp only [nearO, Bool.and_eq_true, distB, decide_eq_true_eq] at hok
  obtain ⟨hok, h6⟩ := hok
  obtain ⟨h0, h1, h2, h3, h4, h5⟩ := six_of hok
  simp only [trR1W, TT.sat_ret, TT.sat_ite, TT.sat_ob, TT.sat_next, TT.sat_stuck, put_i, put_b, put_d, put_fi, put_fb, put_fd, Ob.ok, B.ev, E.ev, X.ev, AL.ev, cmp_t, cmp_f, arEv, V.plain, V2.plain, S.plain, S0.plain, V.val, V2.val, S.val, S0.val, bV, iV, List.all_cons, List.all_nil, Bool.and_true, Bool.and_self, envOf_i, envOf_b, envOf_d, List.map_cons, List.map_nil, true_and, Bool.not_eq_true', Bool.not_eq_false', Bool.not_not, Bool.and_eq_true, and_f, cell_lg, cell_lb, cell_lr, cmpP, val_i, val_b, val_d, aget, Nat.reduceBEq, beq_self_eq_true, Bool.false_eq_true, if_true, if_false, Nat.reduceLT, Nat.reduceSub, Nat.sub_self, Nat.lt_irrefl, KRi91, KRi92, timH_two, timL_two]
  have c0 := w_sq h6
  have d1 := w_mul h0 h2 h0 h2
  have d2 := w_mul h1 h3 h1 h3
  have d3 := w_mul h4 h0 h4 h0
  have d4 := w_mul h5 h1 h5 h1
  have d5 := w_mul h4 h2 h4 h2
  have d6 := w_mul h5 h3 h5 h3
  have d7 := w_mul h4 h2 h1 h3
  have d8 := w_mul h5 h3 h0 h2
  have n1 := sq_nn (iAt ds 0 - iAt ds 2)
  have n2 := sq_nn (iAt ds 1 - iAt ds 3)
  have n5 := sq_nn (iAt ds 4 - iAt ds 2)
  have n6 := sq_nn (iAt ds 5 - iAt ds 3)
  simp only [w_sub h4 h2, w_sub h0 h2, w_sub h5 h3, w_sub h1 h3, w_sub h4 h0, w_sub h5 h1, w_mul1 h4 h2 h0 h2, w_mul1 h5 h3 h1 h3, d1.1, d2.1, d3.1, d4.1, d5.1, d6.1, d7.1, d8.1, w_add h4 h2 h0 h2 h5 h3 h1 h3,
    w_add h0 h2 h0 h2 h1 h3 h1 h3, w_add h4 h0 h4 h0 h5 h1 h5 h1, w_add h4 h2 h4 h2 h5 h3 h5 h3, (w_crs h4 h2 h1 h3 h5 h3 h0 h2).1, (w_crs h4 h2 h1 h3 h5 h3 h0 h2).2, c0.1, mx_sq]
  have D2 : dist2 (iAt ds 4) (iAt ds 5) (iAt ds 0) (iAt ds 1) = (iAt ds 4 - iAt ds 0) * (iAt ds 4 - iAt ds 0) + (iAt ds 5 - iAt ds 1) * (iAt ds 5 - iAt ds 1) := by unfold dist2; grind
  refine ⟨fun h => ?_, fun h => ⟨fun h' => ?_, fun h' => ⟨?_, ?_, ?_, ?_, ?_, ?_, ?_, ?_, fun m => ?_, fun m => ⟨fun m' => ?_, fun m' => ?_⟩⟩⟩⟩
  · unfold nearL nearB dotI
    rw [if_pos h]
    congr 1
  · unfold nearL nearB dotI
    rw [if_neg h, if_pos (show dist2 _ _ _ _ ≤ _ by unfold dist2; exact h'), D2]
    congr 1
  case refine_11 =>
    unfold nearL nearB dotI
    rw [if_neg h, if_neg (show ¬ dist2 _ _ _ _ ≤ _ by unfold dist2; exact h'), decide_eq_true (by unfold crossI dist2; exact most_cmp.mp (.inl m))]
  case refine_12 =>
    unfold nearL nearB dotI
    rw [if_neg h, if_neg (show ¬ dist2 _ _ _ _ ≤ _ by unfold dist2; exact h')]
    congr 1
    rw [Bool.eq_iff_iff, cmp_t, decide_eq_true_eq]
    unfold crossI dist2
    rw [← most_cmp]
    simp only [cmpP]
    omega
  case refine_13 =>
    unfold nearL nearB dotI
    rw [if_neg h, if_neg (show ¬ dist2 _ _ _ _ ≤ _ by unfold dist2; exact h'), decide_eq_false (by unfold crossI dist2; rw [← most_cmp]; omega)]
  all_goals omega
def inL (ds : List D) : Bool := decide (iAt ds 0 ≤ iAt ds 4 ∧ iAt ds 4 ≤ iAt ds 1 ∧ iAt ds 2 ≤ iAt ds 5 ∧ iAt ds 5 ≤ iAt ds 3)
end Go.Proofs.YtglepdhapakmbaaGreat
/- Chapter 38: contracts of the reference of layers 1, 2. -/
namespace Go.Proofs.YtglepdhapakmbaaGreat
open Go.RowKit
def upL (ds : List D) : Int := (iAt ds 0 + iAt ds 1 - 1).tdiv (iAt ds 1)
def rootL (ds : List D) : Int := rootI (iAt ds 0)
def KT : Interp where
  fi n l := match n with | 94 => upL l | 95 => rootL l | n => KR.fi n l
  fb n l := match n with | 93 => inL l | n => KR.fb n l
  fd _ _ := []
theorem KT_KR {ρ : Env} (h : Sees ρ KT 96) : Sees ρ KR 93 := h.trans (by decide) fun n l hn => by
  refine ⟨?_, ?_⟩
  ·
    simp only [KT]
    split <;> first | omega | rfl
  ·
    simp only [KT]
    split <;> first | omega | rfl
def cCrossR := ctD [pt, pt, pt, pt] fun al => .ob (.tru (bF 5 eight al)) (.ret (bV (bF 6 meetL al)))
theorem cR1Cr_ok {ρ : Env} (h : Sees ρ KG 80) : CtOne Tryz.prog ρ 80 cCrossR := by
  refine ctD_if gR1Cr (fun al v hv => ?_)
  obtain ⟨ho, hv⟩ := hv
  obtain rfl := res_ret hv
  have ho : (bF 5 eight al).ev ρ = true := ho
  rw [bF_ev (fun l => by rw [(h 5 l (by decide)).2]; simp only [KG, KF, KE, KD, KC, KB, KA, K9, K8, K7, K6, K5, K])] at ho
  refine ⟨rfl, ho, ?_⟩
  simp only [bV, V.s0, V.val, V2.val, S.val, S0.val, bF_ev (s := 6) (f := meetL) (fun l => by rw [(h 6 l (by decide)).2]; simp only [KG, KF, KE, KD, KC, KB, KA, K9, K8, K7, K6, K5, K])]
theorem cR1W_ok {ρ : Env} (h : Sees ρ KG 80) : CtOne Tryz.prog ρ 87 cNear0 := by
  refine ctD_if gR1W (fun al v hv => ?_)
  have h1 : ∀ l, ρ.fb 1 l = six6 l := fun l => by rw [(h 1 l (by decide)).2]; simp only [KG, KF, KE, KD, KC, KB, KA, K9, K8, K7, K6, K5, K]
  have h2 : ∀ l, ρ.fb 2 l = nearL l := fun l => by rw [(h 2 l (by decide)).2]; simp only [KG, KF, KE, KD, KC, KB, KA, K9, K8, K7, K6, K5, K]
  unfold oNear0 at hv
  split at hv
  · rename_i a b c d e f r
    obtain ⟨ho, hv⟩ := T.res_obs hv
    obtain rfl := res_ret hv
    have o1 := ho _ (List.mem_cons_self ..)
    have o2 := ho _ (List.mem_cons_of_mem _ (List.mem_cons_self ..))
    have o3 := ho _ (List.mem_cons_of_mem _ (List.mem_cons_of_mem _ (List.mem_cons_self ..)))
    simp only [Ob.ok, B.cmpS_ev, cmp_t, cmpP, E.ev, B.ev, AL.ev, h1] at o1 o2 o3
    refine ⟨rfl, ?_, ?_⟩
    · show (six6 _ && distB (r.ev ρ)) = true
      rw [Bool.and_eq_true, distB, decide_eq_true_eq]
      exact ⟨o1, o2, o3⟩
    · simp only [bV, V.s0, V.val, V2.val, S.val, S0.val, B.ev, h2]
      try rfl
  · exact hv.elim
def ctR2 : Ct := (80, cCrossR) :: (87, cNear0) :: ctR1
theorem ctR2_ok {ρ : Env} (h : Sees ρ KT 96) : CtOk Tryz.prog ρ ctR2 := .cons (cR1Cr_ok (KR_KG (KT_KR h))) <| .cons (cR1W_ok (KR_KG (KT_KR h))) <| (ctR1_ok (KT_KR h))
end Go.Proofs.YtglepdhapakmbaaGreat
/- Chapter 38: trees of the reference: Beside, Dist, GrowBox, of layer 3. -/
namespace Go.Proofs.YtglepdhapakmbaaGreat
open Go.RowKit
-- term trR3T: call Tryz.prog ctR2 (Lt.of []) 100 55 (symArgs 0 [pt, pt, pt]) [] 0
def trR3T : TT OpR :=
(.ret ((.v (.one (.z (.int .i64 (.fn 90 (.i (.ar .sub .i64 (.ar .mul .i64 (.ar .sub .i64 (.var 2) (.var 0)) (.ar .sub .i64 (.var 5) (.var 1))) (.ar .mul .i64 (.ar .sub .i64 (.var 3) (.var 1)) (.ar .sub .i64 (.var 4) (.var 0)))) .nil)))))), [], 11))
-- end trR3T
set_option maxRecDepth 100000 in
theorem trR3T_is : T.norm 0 (call Tryz.prog ctR2 (Lt.of []) 100 55 (symArgs 0 [pt, pt, pt]) [] 0) TT.ret = trR3T := by kernel_rfl
theorem trR3T_low : trR3T.low 1000 = true := by kernel_rfl
-- term trR3L: call Tryz.prog ctR2 (Lt.of []) 100 54 (symArgs 0 [pt, pt]) [] 0
def trR3L : TT OpR :=
(.ite (.cmp .lss (.var 0) (.var 2))
 (.ret ((.v (.one (.z (.bool (.lit true))))), [], 2))
 (.ite (.cmp .eql (.var 0) (.var 2))
 (.ret ((.v (.one (.z (.bool (.cmp .lss (.var 1) (.var 3)))))), [], 2))
 (.ret ((.v (.one (.z (.bool (.lit false))))), [], 2))))
-- end trR3L
set_option maxRecDepth 100000 in
theorem trR3L_is : T.norm 0 (call Tryz.prog ctR2 (Lt.of []) 100 54 (symArgs 0 [pt, pt]) [] 0) TT.ret = trR3L := by kernel_rfl
theorem trR3L_low : trR3L.low 1000 = true := by kernel_rfl
-- term trR3S: call Tryz.prog ctR2 (Lt.of []) 100 57 (symArgs 0 [pts]) [] 0
def trR3S : TT OpR :=
(.loop 0 1000 ⟨[(0, (.lit 0))], [], []⟩
 (.ite (.cmp .lss (.var 1000) (.len (.var 0)))
 (.loop 1 2000 ⟨[(0, (.ar .add .i64 (.var 1000) (.lit 2)))], [], []⟩
 (.ite (.cmp .lss (.var 2000) (.len (.var 0)))
 (.ite (.cmp .gtr (.var 1000) (.lit 0))
 (.ob (.tru (.cmp .leq (.lit 0) (.var 1000)))
 (.ob (.tru (.cmp .lss (.var 1000) (.len (.var 0))))
 (.ob (.tru (.cmp .neq (.len (.var 0)) (.lit 0)))
 (.ob (.tru (.cmp .leq (.lit 0) (.ar .rem .i64 (.ar .add .i64 (.var 1000) (.lit 1)) (.len (.var 0)))))
 (.ob (.tru (.cmp .lss (.ar .rem .i64 (.ar .add .i64 (.var 1000) (.lit 1)) (.len (.var 0))) (.len (.var 0))))
 (.ob (.tru (.cmp .leq (.lit 0) (.var 2000)))
 (.ob (.tru (.cmp .lss (.var 2000) (.len (.var 0))))
 (.ob (.tru (.cmp .neq (.len (.var 0)) (.lit 0)))
 (.ob (.tru (.cmp .leq (.lit 0) (.ar .rem .i64 (.ar .add .i64 (.var 2000) (.lit 1)) (.len (.var 0)))))
 (.ob (.tru (.cmp .lss (.ar .rem .i64 (.ar .add .i64 (.var 2000) (.lit 1)) (.len (.var 0))) (.len (.var 0))))
 (.ob (.tru (.fn 5 (.i (.rd (.var 0) (.var 1000) 0) (.i (.rd (.var 0) (.var 1000) 1) (.i (.rd (.var 0) (.ar .rem .i64 (.ar .add .i64 (.var 1000) (.lit 1)) (.len (.var 0))) 0) (.i (.rd (.var 0) (.ar .rem .i64 (.ar .add .i64 (.var 1000) (.lit 1)) (.len (.var 0))) 1) (.i (.rd (.var 0) (.var 2000) 0) (.i (.rd (.var 0) (.var 2000) 1) (.i (.rd (.var 0) (.ar .rem .i64 (.ar .add .i64 (.var 2000) (.lit 1)) (.len (.var 0))) 0) (.i (.rd (.var 0) (.ar .rem .i64 (.ar .add .i64 (.var 2000) (.lit 1)) (.len (.var 0))) 1) .nil))))))))))
 (.ite (.fn 6 (.i (.rd (.var 0) (.var 1000) 0) (.i (.rd (.var 0) (.var 1000) 1) (.i (.rd (.var 0) (.ar .rem .i64 (.ar .add .i64 (.var 1000) (.lit 1)) (.len (.var 0))) 0) (.i (.rd (.var 0) (.ar .rem .i64 (.ar .add .i64 (.var 1000) (.lit 1)) (.len (.var 0))) 1) (.i (.rd (.var 0) (.var 2000) 0) (.i (.rd (.var 0) (.var 2000) 1) (.i (.rd (.var 0) (.ar .rem .i64 (.ar .add .i64 (.var 2000) (.lit 1)) (.len (.var 0))) 0) (.i (.rd (.var 0) (.ar .rem .i64 (.ar .add .i64 (.var 2000) (.lit 1)) (.len (.var 0))) 1) .nil)))))))))
 (.ret ((.v (.one (.z (.bool (.lit false))))), [], 4))
 (.next 1 ⟨[(0, (.ar .add .i64 (.var 2000) (.lit 1)))], [], []⟩)))))))))))))
 (.ite (.cmp .lss (.var 2000) (.ar .sub .i64 (.len (.var 0)) (.lit 1)))
 (.ob (.tru (.cmp .leq (.lit 0) (.var 1000)))
 (.ob (.tru (.cmp .lss (.var 1000) (.len (.var 0))))
 (.ob (.tru (.cmp .neq (.len (.var 0)) (.lit 0)))
 (.ob (.tru (.cmp .leq (.lit 0) (.ar .rem .i64 (.ar .add .i64 (.var 1000) (.lit 1)) (.len (.var 0)))))
 (.ob (.tru (.cmp .lss (.ar .rem .i64 (.ar .add .i64 (.var 1000) (.lit 1)) (.len (.var 0))) (.len (.var 0))))
 (.ob (.tru (.cmp .leq (.lit 0) (.var 2000)))
 (.ob (.tru (.cmp .lss (.var 2000) (.len (.var 0))))
 (.ob (.tru (.cmp .neq (.len (.var 0)) (.lit 0)))
 (.ob (.tru (.cmp .leq (.lit 0) (.ar .rem .i64 (.ar .add .i64 (.var 2000) (.lit 1)) (.len (.var 0)))))
 (.ob (.tru (.cmp .lss (.ar .rem .i64 (.ar .add .i64 (.var 2000) (.lit 1)) (.len (.var 0))) (.len (.var 0))))
 (.ob (.tru (.fn 5 (.i (.rd (.var 0) (.var 1000) 0) (.i (.rd (.var 0) (.var 1000) 1) (.i (.rd (.var 0) (.ar .rem .i64 (.ar .add .i64 (.var 1000) (.lit 1)) (.len (.var 0))) 0) (.i (.rd (.var 0) (.ar .rem .i64 (.ar .add .i64 (.var 1000) (.lit 1)) (.len (.var 0))) 1) (.i (.rd (.var 0) (.var 2000) 0) (.i (.rd (.var 0) (.var 2000) 1) (.i (.rd (.var 0) (.ar .rem .i64 (.ar .add .i64 (.var 2000) (.lit 1)) (.len (.var 0))) 0) (.i (.rd (.var 0) (.ar .rem .i64 (.ar .add .i64 (.var 2000) (.lit 1)) (.len (.var 0))) 1) .nil))))))))))
 (.ite (.fn 6 (.i (.rd (.var 0) (.var 1000) 0) (.i (.rd (.var 0) (.var 1000) 1) (.i (.rd (.var 0) (.ar .rem .i64 (.ar .add .i64 (.var 1000) (.lit 1)) (.len (.var 0))) 0) (.i (.rd (.var 0) (.ar .rem .i64 (.ar .add .i64 (.var 1000) (.lit 1)) (.len (.var 0))) 1) (.i (.rd (.var 0) (.var 2000) 0) (.i (.rd (.var 0) (.var 2000) 1) (.i (.rd (.var 0) (.ar .rem .i64 (.ar .add .i64 (.var 2000) (.lit 1)) (.len (.var 0))) 0) (.i (.rd (.var 0) (.ar .rem .i64 (.ar .add .i64 (.var 2000) (.lit 1)) (.len (.var 0))) 1) .nil)))))))))
 (.ret ((.v (.one (.z (.bool (.lit false))))), [], 4))
 (.next 1 ⟨[(0, (.ar .add .i64 (.var 2000) (.lit 1)))], [], []⟩)))))))))))))
 (.next 1 ⟨[(0, (.ar .add .i64 (.var 2000) (.lit 1)))], [], []⟩)))
 (.next 0 ⟨[(0, (.ar .add .i64 (.var 1000) (.lit 1)))], [], []⟩)))
 (.ret ((.v (.one (.z (.bool (.lit true))))), [], 4))))
-- end trR3S
set_option maxRecDepth 100000 in
theorem trR3S_is : T.norm 0 (call Tryz.prog ctR2 (Lt.of []) 100 57 (symArgs 0 [pts]) [] 0) TT.ret = trR3S := by kernel_rfl
theorem trR3S_low : trR3S.low 1000 = true := by kernel_rfl
-- term trR3W: call Tryz.prog ctR2 (Lt.of []) 100 58 (symArgs 0 [pts]) [] 0
def trR3W : TT OpR :=
(.loop 0 1000 ⟨[(0, (.lit 0)), (1, (.lit 0))], [], []⟩
 (.ite (.cmp .lss (.var 1001) (.len (.var 0)))
 (.ob (.tru (.cmp .leq (.lit 0) (.var 1001)))
 (.ob (.tru (.cmp .lss (.var 1001) (.len (.var 0))))
 (.ob (.tru (.cmp .neq (.len (.var 0)) (.lit 0)))
 (.ob (.tru (.cmp .leq (.lit 0) (.ar .rem .i64 (.ar .add .i64 (.var 1001) (.lit 1)) (.len (.var 0)))))
 (.ob (.tru (.cmp .lss (.ar .rem .i64 (.ar .add .i64 (.var 1001) (.lit 1)) (.len (.var 0))) (.len (.var 0))))
 (.next 0 ⟨[(0, (.ar .add .i64 (.var 1000) (.ar .sub .i64 (.ar .mul .i64 (.rd (.var 0) (.var 1001) 0) (.rd (.var 0) (.ar .rem .i64 (.ar .add .i64 (.var 1001) (.lit 1)) (.len (.var 0))) 1)) (.ar .mul .i64 (.rd (.var 0) (.var 1001) 1) (.rd (.var 0) (.ar .rem .i64 (.ar .add .i64 (.var 1001) (.lit 1)) (.len (.var 0))) 0))))), (1, (.ar .add .i64 (.var 1001) (.lit 1)))], [], []⟩))))))
 (.ret ((.v (.one (.z (.int .i64 (.var 1000))))), [], 4))))
-- end trR3W
set_option maxRecDepth 100000 in
theorem trR3W_is : T.norm 0 (call Tryz.prog ctR2 (Lt.of []) 100 58 (symArgs 0 [pts]) [] 0) TT.ret = trR3W := by kernel_rfl
theorem trR3W_low : trR3W.low 1000 = true := by kernel_rfl
end Go.Proofs.YtglepdhapakmbaaGreat
/- Chapter 38: the reference: Beside, Dist, GrowBox; layer 3's turn, less, simple, twice. -/
namespace Go.Proofs.YtglepdhapakmbaaGreat
open Go.RowKit
theorem KTb5 (W : World) (ds l : List D) : (envOf KT W ds).fb 5 l = eight l := by simp only [envOf, KT, KR, KG, KF, KE, KD, KC, KB, KA, K9, K8, K7, K6, K5, K]
theorem KTb6 (W : World) (ds l : List D) : (envOf KT W ds).fb 6 l = meetL l := by simp only [envOf, KT, KR, KG, KF, KE, KD, KC, KB, KA, K9, K8, K7, K6, K5, K]
theorem KTi90 (W : World) (ds l : List D) : (envOf KT W ds).fi 90 l = sgnL l := by simp only [envOf, KT, KR, KG, KF, KE, KD, KC, KB, KA, K9, K8, K7, K6, K5, K]
theorem gR3T : GivesIf Tryz.prog 55 [pt, pt, pt] (fun ds => six6 ds = true) (fun ds => .int .i64 (turnL ds)) := by
  refine fn_gives KT (by kernel_rfl) (fun ρ h => ctR2_ok (Sees.of h 96)) (by kernel_rfl) trR3T_is trR3T_low (by decide) (fun W vals ds _ hok => ?_)
  obtain ⟨h0, h1, h2, h3, h4, h5⟩ := six_of hok
  simp only [trR3T, TT.sat_ret, TT.sat_ite, TT.sat_ob, TT.sat_next, TT.sat_stuck, put_i, put_b, put_d, put_fi, put_fb, put_fd, Ob.ok, B.ev, E.ev, X.ev, AL.ev, cmp_t, cmp_f, arEv, V.plain, V2.plain, S.plain, S0.plain, V.val, V2.val, S.val, S0.val, bV, iV, List.all_cons, List.all_nil, Bool.and_true, Bool.and_self, envOf_i, envOf_b, envOf_d, List.map_cons, List.map_nil, true_and, Bool.not_eq_true', Bool.not_eq_false', Bool.not_not, Bool.and_eq_true, and_f, cell_lg, cell_lb, cell_lr, cmpP, val_i, val_b, val_d, aget, Nat.reduceBEq, beq_self_eq_true, Bool.false_eq_true, if_true, if_false, Nat.reduceLT, Nat.reduceSub, Nat.sub_self, Nat.lt_irrefl, KTi90, sgn_one]
  rw [w_sub h2 h0, w_sub h5 h1, w_sub h3 h1, w_sub h4 h0, (w_mul h2 h0 h5 h1).1, (w_mul h3 h1 h4 h0).1, (w_crs h2 h0 h5 h1 h3 h1 h4 h0).1]
  rfl
def lessL (ds : List D) : Bool := lessB (iAt ds 0) (iAt ds 1) (iAt ds 2) (iAt ds 3)
theorem gR3L : Gives Tryz.prog 54 [pt, pt] (fun ds => .bool (lessL ds)) := by
  refine GivesIf.all (fn_gives KT (by kernel_rfl) (fun ρ h => ctR2_ok (Sees.of h 96)) (by kernel_rfl) trR3L_is trR3L_low (by decide) (fun W vals ds _ _ => ?_))
  simp only [trR3L, TT.sat_ret, TT.sat_ite, TT.sat_ob, TT.sat_next, TT.sat_stuck, put_i, put_b, put_d, put_fi, put_fb, put_fd, Ob.ok, B.ev, E.ev, X.ev, AL.ev, cmp_t, cmp_f, arEv, V.plain, V2.plain, S.plain, S0.plain, V.val, V2.val, S.val, S0.val, bV, iV, List.all_cons, List.all_nil, Bool.and_true, Bool.and_self, envOf_i, envOf_b, envOf_d, List.map_cons, List.map_nil, true_and, Bool.not_eq_true', Bool.not_eq_false', Bool.not_not, Bool.and_eq_true, and_f, cell_lg, cell_lb, cell_lr, cmpP, val_i, val_b, val_d, aget, Nat.reduceBEq, beq_self_eq_true, Bool.false_eq_true, if_true, if_false, Nat.reduceLT, Nat.reduceSub, Nat.sub_self, Nat.lt_irrefl]
  simp only [lessL, lessB]
  refine ⟨fun h => ?_, fun h => ⟨fun h' => ?_, fun h' => ?_⟩⟩
  all_goals (congr 1; rw [Bool.eq_iff_iff]; try rw [cmp_t])
  all_goals (simp only [cmpP, decide_eq_true_eq, Bool.false_eq_true, false_iff, true_iff]; omega)
theorem rem_next1 {n i : Nat} (h : i < n) (hn : n ≤ 281474976710656) : (IntKind.i64.wrap ((i : Int) + 1)).tmod (n : Int) = (nxt n i : Int) := by
  rw [wrap_in ((i : Int) + 1) (by omega) (by omega), Int.tmod_eq_emod_of_nonneg (by omega)]
  unfold nxt
  split
  · rename_i h1
    rw [show ((i : Int) + 1) = n by omega, Int.emod_self]; rfl
  · rw [Int.emod_eq_of_lt (by omega) (by omega)]; rfl
theorem gR3W : Gives Tryz.prog 58 [pts] (fun ds => .int .i64 (twiceL ds)) := by
  refine GivesIf.all (fn_gives KT (by kernel_rfl) (fun ρ h => ctR2_ok (Sees.of h 96)) (by kernel_rfl) trR3W_is trR3W_low (by decide) (fun W vals ds hr _ => ?_))
  have hlen := pts_len hr
  simp only [trR3W]
  refine TT.sat_loop (fun v => ∃ i : Nat, v.i 1 = i ∧ i ≤ (rAt ds 0).length ∧ twiceN (rAt ds 0) ((rAt ds 0).length - i) i (v.i 0) = twiceN (rAt ds 0) (rAt ds 0).length 0 0) (fun v => (rAt ds 0).length - (v.i 1).toNat)
    ⟨0, by simp [val_i, aget, E.ev], by omega, by simp [val_i, aget, E.ev]⟩ (fun v hv => ?_)
  obtain ⟨i, i0, i1, i2⟩ := hv
  simp only [TT.sat_ret, TT.sat_ite, TT.sat_ob, TT.sat_next, TT.sat_stuck, put_i, put_b, put_d, put_fi, put_fb, put_fd, Ob.ok, B.ev, E.ev, X.ev, AL.ev, cmp_t, cmp_f, arEv, V.plain, V2.plain, S.plain, S0.plain, V.val, V2.val, S.val, S0.val, bV, iV, List.all_cons, List.all_nil, Bool.and_true, Bool.and_self, envOf_i, envOf_b, envOf_d, List.map_cons, List.map_nil, true_and, Bool.not_eq_true', Bool.not_eq_false', Bool.not_not, Bool.and_eq_true, and_f, cell_lg, cell_lb, cell_lr, cmpP, val_i, val_b, val_d, aget, Nat.reduceBEq, beq_self_eq_true, Bool.false_eq_true, if_true, if_false, Nat.reduceLT, Nat.reduceSub, Nat.sub_self, Nat.lt_irrefl, i0]
  refine ⟨fun hc => ?_, fun hc => ?_⟩
  · have hi : i < (rAt ds 0).length := by omega
    have hn := nxt_lt hi
    obtain ⟨f, hf⟩ : ∃ f, (rAt ds 0).length - i = f + 1 := ⟨(rAt ds 0).length - i - 1, by omega⟩
    rw [rem_next1 hi hlen, wrap_in ((i : Int) + 1) (by omega) (by omega)]
    rw [hf, twiceN] at i2
    have hf' : (rAt ds 0).length - (i + 1) = f := by omega
    exact ⟨by omega, by omega, by omega, by omega, by omega, ⟨i + 1, rfl, by omega, by rw [hf']; exact i2⟩, by omega⟩
  · have : (rAt ds 0).length - i = 0 := by omega
    rw [this, twiceN] at i2
    rw [twiceL, ← i2]
theorem rowN_skip {r : Rows} {i : Nat} : ∀ (m k f : Nat), k + m ≤ i + 2 → rowN r i (f + m) k = rowN r i f (k + m)
  | 0, k, f, _ => rfl
  | m + 1, k, f, h => by
    rw [← Nat.add_assoc, rowN, rowN_skip m (k + 1) f (by omega)]
    have : pairOk r i k = true := by unfold pairOk; rw [decide_eq_true (.inl (by omega))]; rfl
    rw [this, Bool.true_and, show k + 1 + m = k + (m + 1) by omega]
theorem rowN_from {r : Rows} {i : Nat} (hi : i < r.length) : rowN r i r.length 0 = rowN r i (r.length - (i + 2)) (i + 2) := by
  by_cases h : i + 2 ≤ r.length
  · have := rowN_skip (r := r) (i := i) (i + 2) 0 (r.length - (i + 2)) (by omega)
    rw [show r.length - (i + 2) + (i + 2) = r.length by omega, Nat.zero_add] at this
    exact this
  · have := rowN_skip (r := r) (i := i) r.length 0 0 (by omega)
    rw [Nat.zero_add] at this
    rw [this, show r.length - (i + 2) = 0 by omega]
    rfl
end Go.Proofs.YtglepdhapakmbaaGreat
/- Chapter 38: the reference: layer 3's simple; contracts. -/
namespace Go.Proofs.YtglepdhapakmbaaGreat
open Go.RowKit
def plL (ds : List D) : Bool := plN (rAt ds 0) (rAt ds 0).length 0
theorem gR3S : GivesIf Tryz.prog 57 [pts] (fun ds => plL ds = true) (fun ds => .bool (simpleL ds)) := by
  refine fn_gives KT (by kernel_rfl) (fun ρ h => ctR2_ok (Sees.of h 96)) (by kernel_rfl) trR3S_is trR3S_low (by decide) (fun W vals ds hr hok => ?_)
  have hlen := pts_len hr
  have hpl : ∀ k : Nat, k < (rAt ds 0).length → placeB (lg (rAt ds 0) k 0) (lg (rAt ds 0) k 1) = true := fun k hk => plN_spec _ 0 hok k (by omega) (by omega)
  simp only [trR3S]
  refine TT.sat_loop (fun v => ∃ i : Nat, v.i 0 = i ∧ i ≤ (rAt ds 0).length ∧ simpleN (rAt ds 0) ((rAt ds 0).length - i) i = simpleN (rAt ds 0) (rAt ds 0).length 0) (fun v => (rAt ds 0).length - (v.i 0).toNat)
    ⟨0, by simp [val_i, aget, E.ev], by omega, rfl⟩ (fun v hv => ?_)
  obtain ⟨i, i0, i1, i2⟩ := hv
  simp only [TT.sat_ret, TT.sat_ite, TT.sat_ob, TT.sat_next, TT.sat_stuck, put_i, put_b, put_d, put_fi, put_fb, put_fd, Ob.ok, B.ev, E.ev, X.ev, AL.ev, cmp_t, cmp_f, arEv, V.plain, V2.plain, S.plain, S0.plain, V.val, V2.val, S.val, S0.val, bV, iV, List.all_cons, List.all_nil, Bool.and_true, Bool.and_self, envOf_i, envOf_b, envOf_d, List.map_cons, List.map_nil, true_and, Bool.not_eq_true', Bool.not_eq_false', Bool.not_not, Bool.and_eq_true, and_f, cell_lg, cell_lb, cell_lr, cmpP, val_i, val_b, val_d, aget, Nat.reduceBEq, beq_self_eq_true, Bool.false_eq_true, if_true, if_false, Nat.reduceLT, Nat.reduceSub, Nat.sub_self, Nat.lt_irrefl, i0]
  refine ⟨fun hc => ?_, fun hc => ?_⟩
  · have hi : i < (rAt ds 0).length := by omega
    have hn := nxt_lt hi
    obtain ⟨f, hf⟩ : ∃ f, (rAt ds 0).length - i = f + 1 := ⟨(rAt ds 0).length - i - 1, by omega⟩
    rw [hf, simpleN, rowN_from hi] at i2
    have hf' : (rAt ds 0).length - (i + 1) = f := by omega
    refine TT.sat_loop (fun u => ∃ k : Nat, u.i 0 = k ∧ k ≤ max (rAt ds 0).length (i + 2) ∧ i + 2 ≤ k ∧ (rowN (rAt ds 0) i ((rAt ds 0).length - k) k && simpleN (rAt ds 0) f (i + 1)) = simpleN (rAt ds 0) (rAt ds 0).length 0) (fun u => (rAt ds 0).length - (u.i 0).toNat)
      ⟨i + 2, ?_, by omega, by omega, i2⟩ (fun u hu => ?_)
    · simp [val_i, aget, E.ev, arEv, put_i, i0]
      rw [wrap_in _ (by omega) (by omega)]
    obtain ⟨k, k0, k1, k3, k2⟩ := hu
    simp only [TT.sat_ret, TT.sat_ite, TT.sat_ob, TT.sat_next, TT.sat_stuck, put_i, put_b, put_d, put_fi, put_fb, put_fd, Ob.ok, B.ev, E.ev, X.ev, AL.ev, cmp_t, cmp_f, arEv, V.plain, V2.plain, S.plain, S0.plain, V.val, V2.val, S.val, S0.val, bV, iV, List.all_cons, List.all_nil, Bool.and_true, Bool.and_self, envOf_i, envOf_b, envOf_d, List.map_cons, List.map_nil, true_and, Bool.not_eq_true', Bool.not_eq_false', Bool.not_not, Bool.and_eq_true, and_f, cell_lg, cell_lb, cell_lr, cmpP, val_i, val_b, val_d, aget, Nat.reduceBEq, beq_self_eq_true, Bool.false_eq_true, if_true, if_false, Nat.reduceLT, Nat.reduceSub, Nat.sub_self, Nat.lt_irrefl, i0, k0, KTb5, KTb6, eight_eight, meet_eight]
    refine ⟨fun hk => ?_, fun hk => ?_⟩
    · have hkn : k < (rAt ds 0).length := by omega
      have hn' := nxt_lt hkn
      obtain ⟨g, hg⟩ : ∃ g, (rAt ds 0).length - k = g + 1 := ⟨(rAt ds 0).length - k - 1, by omega⟩
      rw [rem_next1 hkn hlen, rem_next1 hi hlen, wrap_in ((k : Int) + 1) (by omega) (by omega), wrap_in (((rAt ds 0).length : Int) - 1) (by omega) (by omega)]
      rw [hg, rowN] at k2
      have hg' : (rAt ds 0).length - (k + 1) = g := by omega
      have N : pairOk (rAt ds 0) i k = true → (∃ j : Nat, (k : Int) + 1 = j ∧ j ≤ max (rAt ds 0).length (i + 2) ∧ i + 2 ≤ j ∧ (rowN (rAt ds 0) i ((rAt ds 0).length - j) j && simpleN (rAt ds 0) f (i + 1)) = simpleN (rAt ds 0) (rAt ds 0).length 0) ∧ (rAt ds 0).length - ((k : Int) + 1).toNat < (rAt ds 0).length - (k : Int).toNat :=
        fun h => ⟨⟨k + 1, rfl, by omega, by omega, by rw [hg', ← k2, h]; rfl⟩, by omega⟩
      have F : pairOk (rAt ds 0) i k = false → Value.bool false = Value.bool (simpleL ds) := fun h => by rw [show simpleL ds = simpleN (rAt ds 0) (rAt ds 0).length 0 from rfl, ← k2, h]; rfl
      have p0 := hpl i hi
      have p1 := hpl _ hn
      have p2 := hpl k hkn
      have p3 := hpl _ hn'
      have P1 : (k ≤ i + 1 ∨ (i = 0 ∧ k + 1 = (rAt ds 0).length)) → pairOk (rAt ds 0) i k = true := fun h => by unfold pairOk; rw [decide_eq_true h]; rfl
      have P2 : ¬ (k ≤ i + 1 ∨ (i = 0 ∧ k + 1 = (rAt ds 0).length)) → pairOk (rAt ds 0) i k = !meetB (lg (rAt ds 0) i 0) (lg (rAt ds 0) i 1) (lg (rAt ds 0) (nxt (rAt ds 0).length i) 0) (lg (rAt ds 0) (nxt (rAt ds 0).length i) 1) (lg (rAt ds 0) k 0) (lg (rAt ds 0) k 1) (lg (rAt ds 0) (nxt (rAt ds 0).length k) 0) (lg (rAt ds 0) (nxt (rAt ds 0).length k) 1) := fun h => by
        unfold pairOk meetE2 meetR; rw [decide_eq_false h, eight_eight, p0, p1, p2, p3, meet_eight]; rfl
      simp only [p0, p1, p2, p3, Bool.and_self]
      refine ⟨fun a => ⟨by omega, by omega, by omega, by omega, by omega, by omega, by omega, by omega, by omega, by omega, by simp, fun m => F ?_, fun m => N ?_⟩, fun a => ⟨fun b => ⟨by omega, by omega, by omega, by omega, by omega, by omega, by omega, by omega, by omega, by omega, by simp, fun m => F ?_, fun m => N ?_⟩, fun b => N (P1 (by omega))⟩⟩
      all_goals (rw [P2 (by omega), m]; rfl)
    · have : (rAt ds 0).length - k = 0 := by omega
      rw [this, rowN, Bool.true_and] at k2
      rw [wrap_in ((i : Int) + 1) (by omega) (by omega)]
      exact ⟨⟨i + 1, rfl, by omega, by rw [hf']; exact k2⟩, by omega⟩
  · have : (rAt ds 0).length - i = 0 := by omega
    rw [this, simpleN] at i2
    rw [simpleL, ← i2]
def KU : Interp where
  fi n l := KT.fi n l
  fb n l := match n with | 96 => lessL l | 97 => plL l | n => KT.fb n l
  fd _ _ := []
theorem KU_KT {ρ : Env} (h : Sees ρ KU 98) : Sees ρ KT 96 := h.trans (by decide) fun n l hn => by
  refine ⟨?_, ?_⟩
  ·
    rfl
  ·
    simp only [KU]
    split <;> first | omega | rfl
theorem KU_KG {ρ : Env} (h : Sees ρ KU 98) : Sees ρ KG 80 := KR_KG (KT_KR (KU_KT h))
theorem turn1_of {ρ : Env} {f : Nat} (g : GivesIf Tryz.prog f [pt, pt, pt] (fun ds => six6 ds = true) (fun ds => .int .i64 (turnL ds))) (h1 : ∀ l, ρ.fb 1 l = six6 l) (h0 : ∀ l, ρ.fi 0 l = turnL l) : CtOne Tryz.prog ρ f cTurn1 := by
  refine ctD_if g (fun al v hv => ?_)
  obtain ⟨ho, hv⟩ := hv
  obtain rfl := res_ret hv
  have ho : (bF 1 six6 al).ev ρ = true := ho
  rw [bF_ev h1] at ho
  refine ⟨rfl, ho, ?_⟩
  simp only [iV, V.s0, V.val, V2.val, S.val, S0.val, iF_ev h0]
theorem cR3T_ok {ρ : Env} (h : Sees ρ KG 80) : CtOne Tryz.prog ρ 55 cTurn1 :=
  turn1_of gR3T (fun l => by rw [(h 1 l (by decide)).2]; simp only [KG, KF, KE, KD, KC, KB, KA, K9, K8, K7, K6, K5, K]) (fun l => by rw [(h 0 l (by decide)).1]; simp only [KG, KF, KE, KD, KC, KB, KA, K9, K8, K7, K6, K5, K])
def cR3L := ctD [pt, pt] fun al => .ret (bV (bF 96 lessL al))
theorem cR3L_ok {ρ : Env} (h : Sees ρ KU 98) : CtOne Tryz.prog ρ 54 cR3L :=
  ctD_ok gR3L (fun _ => rfl) (fun al => by simp only [iV, bV, V.s0, V.val, V2.val, S.val, S0.val, bF_ev (s := 96) (f := lessL) (fun l => by rw [(h 96 l (by decide)).2]; simp only [KU, KT, KR, KG, KF, KE, KD, KC, KB, KA, K9, K8, K7, K6, K5, K])]; try rfl)
def cR3W := ctD [pts] fun al => .ret (iV .i64 (iF 65 twiceL al))
theorem cR3W_ok {ρ : Env} (h : Sees ρ KG 80) : CtOne Tryz.prog ρ 58 cR3W :=
  ctD_ok gR3W (fun _ => rfl) (fun al => by simp only [iV, bV, V.s0, V.val, V2.val, S.val, S0.val, iF_ev (s := 65) (f := twiceL) (fun l => by rw [(h 65 l (by decide)).1]; simp only [KG, KF, KE, KD, KC, KB, KA, K9, K8, K7, K6, K5, K])]; try rfl)
def cSimR := ctD [pts] fun al => .ob (.tru (bF 97 plL al)) (.ret (bV (bF 66 simpleL al)))
theorem cSimR_ok {ρ : Env} (h : Sees ρ KU 98) : CtOne Tryz.prog ρ 57 cSimR := by
  refine ctD_if gR3S (fun al v hv => ?_)
  obtain ⟨ho, hv⟩ := hv
  obtain rfl := res_ret hv
  have ho : (bF 97 plL al).ev ρ = true := ho
  rw [bF_ev (fun l => by rw [(h 97 l (by decide)).2]; simp only [KU])] at ho
  refine ⟨rfl, ho, ?_⟩
  simp only [bV, V.s0, V.val, V2.val, S.val, S0.val, bF_ev (s := 66) (f := simpleL) (fun l => by rw [(KU_KG h 66 l (by decide)).2]; simp only [KG, KF, KE, KD, KC, KB, KA, K9, K8, K7, K6, K5, K])]
def ctR3 : Ct := (55, cTurn1) :: (54, cR3L) :: (58, cR3W) :: (57, cSimR) :: ctR2
theorem ctR3_ok {ρ : Env} (h : Sees ρ KU 98) : CtOk Tryz.prog ρ ctR3 := .cons (cR3T_ok (KU_KG h)) <| .cons (cR3L_ok h) <| .cons (cR3W_ok (KU_KG h)) <| .cons (cSimR_ok h) (ctR2_ok (KU_KT h))
end Go.Proofs.YtglepdhapakmbaaGreat
/- Chapter 38: trees of the reference of layer 3: Valid, Place. -/
namespace Go.Proofs.YtglepdhapakmbaaGreat
open Go.RowKit
-- term trR3V: call Tryz.prog ctR3 (Lt.of []) 100 32 (symArgs 0 [pts]) [] 0
def trR3V : TT OpR :=
(.ite (.cmp .lss (.len (.var 0)) (.lit 3))
 (.ret ((.v (.one (.z (.bool (.lit false))))), [], 0))
 (.ite (.cmp .gtr (.len (.var 0)) (.lit 24))
 (.ret ((.v (.one (.z (.bool (.lit false))))), [], 0))
 (.loop 0 1000 ⟨[(0, (.lit 0))], [], []⟩
 (.ite (.cmp .lss (.var 1000) (.len (.var 0)))
 (.ob (.tru (.cmp .leq (.lit 0) (.var 1000)))
 (.ob (.tru (.cmp .lss (.var 1000) (.len (.var 0))))
 (.ite (.not (.fn 3 (.i (.rd (.var 0) (.var 1000) 0) (.i (.rd (.var 0) (.var 1000) 1) .nil))))
 (.ret ((.v (.one (.z (.bool (.lit false))))), [], 1))
 (.ite (.cmp .gtr (.var 1000) (.lit 0))
 (.ob (.tru (.lit true))
 (.ob (.tru (.cmp .lss (.lit 0) (.len (.var 0))))
 (.ob (.tru (.cmp .leq (.lit 0) (.var 1000)))
 (.ob (.tru (.cmp .lss (.var 1000) (.len (.var 0))))
 (.ite (.not (.fn 96 (.i (.rd (.var 0) (.lit 0) 0) (.i (.rd (.var 0) (.lit 0) 1) (.i (.rd (.var 0) (.var 1000) 0) (.i (.rd (.var 0) (.var 1000) 1) .nil))))))
 (.ret ((.v (.one (.z (.bool (.lit false))))), [], 1))
 (.next 0 ⟨[(0, (.ar .add .i64 (.var 1000) (.lit 1)))], [], []⟩))))))
 (.next 0 ⟨[(0, (.ar .add .i64 (.var 1000) (.lit 1)))], [], []⟩)))))
 (.loop 1 2000 ⟨[(0, (.lit 0))], [], []⟩
 (.ite (.cmp .lss (.var 2000) (.len (.var 0)))
 (.ob (.tru (.cmp .leq (.lit 0) (.var 2000)))
 (.ob (.tru (.cmp .lss (.var 2000) (.len (.var 0))))
 (.ob (.tru (.cmp .neq (.len (.var 0)) (.lit 0)))
 (.ob (.tru (.cmp .leq (.lit 0) (.ar .rem .i64 (.ar .add .i64 (.var 2000) (.lit 1)) (.len (.var 0)))))
 (.ob (.tru (.cmp .lss (.ar .rem .i64 (.ar .add .i64 (.var 2000) (.lit 1)) (.len (.var 0))) (.len (.var 0))))
 (.ob (.tru (.cmp .neq (.len (.var 0)) (.lit 0)))
 (.ob (.tru (.cmp .leq (.lit 0) (.ar .rem .i64 (.ar .add .i64 (.var 2000) (.lit 2)) (.len (.var 0)))))
 (.ob (.tru (.cmp .lss (.ar .rem .i64 (.ar .add .i64 (.var 2000) (.lit 2)) (.len (.var 0))) (.len (.var 0))))
 (.ob (.tru (.fn 1 (.i (.rd (.var 0) (.var 2000) 0) (.i (.rd (.var 0) (.var 2000) 1) (.i (.rd (.var 0) (.ar .rem .i64 (.ar .add .i64 (.var 2000) (.lit 1)) (.len (.var 0))) 0) (.i (.rd (.var 0) (.ar .rem .i64 (.ar .add .i64 (.var 2000) (.lit 1)) (.len (.var 0))) 1) (.i (.rd (.var 0) (.ar .rem .i64 (.ar .add .i64 (.var 2000) (.lit 2)) (.len (.var 0))) 0) (.i (.rd (.var 0) (.ar .rem .i64 (.ar .add .i64 (.var 2000) (.lit 2)) (.len (.var 0))) 1) .nil))))))))
 (.ite (.cmp .eql (.fn 0 (.i (.rd (.var 0) (.var 2000) 0) (.i (.rd (.var 0) (.var 2000) 1) (.i (.rd (.var 0) (.ar .rem .i64 (.ar .add .i64 (.var 2000) (.lit 1)) (.len (.var 0))) 0) (.i (.rd (.var 0) (.ar .rem .i64 (.ar .add .i64 (.var 2000) (.lit 1)) (.len (.var 0))) 1) (.i (.rd (.var 0) (.ar .rem .i64 (.ar .add .i64 (.var 2000) (.lit 2)) (.len (.var 0))) 0) (.i (.rd (.var 0) (.ar .rem .i64 (.ar .add .i64 (.var 2000) (.lit 2)) (.len (.var 0))) 1) .nil))))))) (.lit 0))
 (.ret ((.v (.one (.z (.bool (.lit false))))), [], 3))
 (.next 1 ⟨[(0, (.ar .add .i64 (.var 2000) (.lit 1)))], [], []⟩)))))))))))
 (.ob (.tru (.fn 97 (.x (.var 0) .nil)))
 (.ite (.fn 66 (.x (.var 0) .nil))
 (.ret ((.v (.one (.z (.bool (.cmp .gtr (.fn 65 (.x (.var 0) .nil)) (.lit 0)))))), [], 3))
 (.ret ((.v (.one (.z (.bool (.lit false))))), [], 3))))))))))
-- end trR3V
set_option maxRecDepth 100000 in
theorem trR3V_is : T.norm 0 (call Tryz.prog ctR3 (Lt.of []) 100 32 (symArgs 0 [pts]) [] 0) TT.ret = trR3V := by kernel_rfl
theorem trR3V_low : trR3V.low 1000 = true := by kernel_rfl
-- term trR3P: call Tryz.prog ctR3 (Lt.of []) 100 85 (symArgs 0 [pt, pts]) [] 0
def trR3P : TT OpR :=
(.loop 0 2000 ⟨[(1, (.lit 0)), (0, (.lit 0))], [], []⟩
 (.ite (.cmp .lss (.var 2000) (.len (.var 2)))
 (.ob (.tru (.cmp .leq (.lit 0) (.var 2000)))
 (.ob (.tru (.cmp .lss (.var 2000) (.len (.var 2))))
 (.ob (.tru (.cmp .neq (.len (.var 2)) (.lit 0)))
 (.ob (.tru (.cmp .leq (.lit 0) (.ar .rem .i64 (.ar .add .i64 (.var 2000) (.lit 1)) (.len (.var 2)))))
 (.ob (.tru (.cmp .lss (.ar .rem .i64 (.ar .add .i64 (.var 2000) (.lit 1)) (.len (.var 2))) (.len (.var 2))))
 (.ob (.tru (.fn 1 (.i (.var 0) (.i (.var 1) (.i (.rd (.var 2) (.var 2000) 0) (.i (.rd (.var 2) (.var 2000) 1) (.i (.rd (.var 2) (.ar .rem .i64 (.ar .add .i64 (.var 2000) (.lit 1)) (.len (.var 2))) 0) (.i (.rd (.var 2) (.ar .rem .i64 (.ar .add .i64 (.var 2000) (.lit 1)) (.len (.var 2))) 1) .nil))))))))
 (.ite (.fn 4 (.i (.var 0) (.i (.var 1) (.i (.rd (.var 2) (.var 2000) 0) (.i (.rd (.var 2) (.var 2000) 1) (.i (.rd (.var 2) (.ar .rem .i64 (.ar .add .i64 (.var 2000) (.lit 1)) (.len (.var 2))) 0) (.i (.rd (.var 2) (.ar .rem .i64 (.ar .add .i64 (.var 2000) (.lit 1)) (.len (.var 2))) 1) .nil)))))))
 (.ret ((.v (.one (.z (.int .i64 (.lit 0))))), [], 5))
 (.ite (.cmp .leq (.rd (.var 2) (.var 2000) 1) (.var 1))
 (.ite (.cmp .gtr (.rd (.var 2) (.ar .rem .i64 (.ar .add .i64 (.var 2000) (.lit 1)) (.len (.var 2))) 1) (.var 1))
 (.ob (.tru (.fn 1 (.i (.rd (.var 2) (.var 2000) 0) (.i (.rd (.var 2) (.var 2000) 1) (.i (.rd (.var 2) (.ar .rem .i64 (.ar .add .i64 (.var 2000) (.lit 1)) (.len (.var 2))) 0) (.i (.rd (.var 2) (.ar .rem .i64 (.ar .add .i64 (.var 2000) (.lit 1)) (.len (.var 2))) 1) (.i (.var 0) (.i (.var 1) .nil))))))))
 (.ite (.cmp .gtr (.fn 0 (.i (.rd (.var 2) (.var 2000) 0) (.i (.rd (.var 2) (.var 2000) 1) (.i (.rd (.var 2) (.ar .rem .i64 (.ar .add .i64 (.var 2000) (.lit 1)) (.len (.var 2))) 0) (.i (.rd (.var 2) (.ar .rem .i64 (.ar .add .i64 (.var 2000) (.lit 1)) (.len (.var 2))) 1) (.i (.var 0) (.i (.var 1) .nil))))))) (.lit 0))
 (.ite (.cmp .leq (.rd (.var 2) (.ar .rem .i64 (.ar .add .i64 (.var 2000) (.lit 1)) (.len (.var 2))) 1) (.var 1))
 (.ite (.cmp .gtr (.rd (.var 2) (.var 2000) 1) (.var 1))
 (.ob (.tru (.fn 1 (.i (.rd (.var 2) (.var 2000) 0) (.i (.rd (.var 2) (.var 2000) 1) (.i (.rd (.var 2) (.ar .rem .i64 (.ar .add .i64 (.var 2000) (.lit 1)) (.len (.var 2))) 0) (.i (.rd (.var 2) (.ar .rem .i64 (.ar .add .i64 (.var 2000) (.lit 1)) (.len (.var 2))) 1) (.i (.var 0) (.i (.var 1) .nil))))))))
 (.ite (.cmp .lss (.fn 0 (.i (.rd (.var 2) (.var 2000) 0) (.i (.rd (.var 2) (.var 2000) 1) (.i (.rd (.var 2) (.ar .rem .i64 (.ar .add .i64 (.var 2000) (.lit 1)) (.len (.var 2))) 0) (.i (.rd (.var 2) (.ar .rem .i64 (.ar .add .i64 (.var 2000) (.lit 1)) (.len (.var 2))) 1) (.i (.var 0) (.i (.var 1) .nil))))))) (.lit 0))
 (.next 0 ⟨[(1, (.ar .sub .i64 (.ar .add .i64 (.var 2001) (.lit 1)) (.lit 1))), (0, (.ar .add .i64 (.var 2000) (.lit 1)))], [], []⟩)
 (.next 0 ⟨[(1, (.ar .add .i64 (.var 2001) (.lit 1))), (0, (.ar .add .i64 (.var 2000) (.lit 1)))], [], []⟩)))
 (.next 0 ⟨[(1, (.ar .add .i64 (.var 2001) (.lit 1))), (0, (.ar .add .i64 (.var 2000) (.lit 1)))], [], []⟩))
 (.next 0 ⟨[(1, (.ar .add .i64 (.var 2001) (.lit 1))), (0, (.ar .add .i64 (.var 2000) (.lit 1)))], [], []⟩))
 (.ite (.cmp .leq (.rd (.var 2) (.ar .rem .i64 (.ar .add .i64 (.var 2000) (.lit 1)) (.len (.var 2))) 1) (.var 1))
 (.ite (.cmp .gtr (.rd (.var 2) (.var 2000) 1) (.var 1))
 (.ob (.tru (.fn 1 (.i (.rd (.var 2) (.var 2000) 0) (.i (.rd (.var 2) (.var 2000) 1) (.i (.rd (.var 2) (.ar .rem .i64 (.ar .add .i64 (.var 2000) (.lit 1)) (.len (.var 2))) 0) (.i (.rd (.var 2) (.ar .rem .i64 (.ar .add .i64 (.var 2000) (.lit 1)) (.len (.var 2))) 1) (.i (.var 0) (.i (.var 1) .nil))))))))
 (.ite (.cmp .lss (.fn 0 (.i (.rd (.var 2) (.var 2000) 0) (.i (.rd (.var 2) (.var 2000) 1) (.i (.rd (.var 2) (.ar .rem .i64 (.ar .add .i64 (.var 2000) (.lit 1)) (.len (.var 2))) 0) (.i (.rd (.var 2) (.ar .rem .i64 (.ar .add .i64 (.var 2000) (.lit 1)) (.len (.var 2))) 1) (.i (.var 0) (.i (.var 1) .nil))))))) (.lit 0))
 (.next 0 ⟨[(1, (.ar .sub .i64 (.var 2001) (.lit 1))), (0, (.ar .add .i64 (.var 2000) (.lit 1)))], [], []⟩)
 (.next 0 ⟨[(1, (.var 2001)), (0, (.ar .add .i64 (.var 2000) (.lit 1)))], [], []⟩)))
 (.next 0 ⟨[(1, (.var 2001)), (0, (.ar .add .i64 (.var 2000) (.lit 1)))], [], []⟩))
 (.next 0 ⟨[(1, (.var 2001)), (0, (.ar .add .i64 (.var 2000) (.lit 1)))], [], []⟩))))
 (.ite (.cmp .leq (.rd (.var 2) (.ar .rem .i64 (.ar .add .i64 (.var 2000) (.lit 1)) (.len (.var 2))) 1) (.var 1))
 (.ite (.cmp .gtr (.rd (.var 2) (.var 2000) 1) (.var 1))
 (.ob (.tru (.fn 1 (.i (.rd (.var 2) (.var 2000) 0) (.i (.rd (.var 2) (.var 2000) 1) (.i (.rd (.var 2) (.ar .rem .i64 (.ar .add .i64 (.var 2000) (.lit 1)) (.len (.var 2))) 0) (.i (.rd (.var 2) (.ar .rem .i64 (.ar .add .i64 (.var 2000) (.lit 1)) (.len (.var 2))) 1) (.i (.var 0) (.i (.var 1) .nil))))))))
 (.ite (.cmp .lss (.fn 0 (.i (.rd (.var 2) (.var 2000) 0) (.i (.rd (.var 2) (.var 2000) 1) (.i (.rd (.var 2) (.ar .rem .i64 (.ar .add .i64 (.var 2000) (.lit 1)) (.len (.var 2))) 0) (.i (.rd (.var 2) (.ar .rem .i64 (.ar .add .i64 (.var 2000) (.lit 1)) (.len (.var 2))) 1) (.i (.var 0) (.i (.var 1) .nil))))))) (.lit 0))
 (.next 0 ⟨[(1, (.ar .sub .i64 (.var 2001) (.lit 1))), (0, (.ar .add .i64 (.var 2000) (.lit 1)))], [], []⟩)
 (.next 0 ⟨[(1, (.var 2001)), (0, (.ar .add .i64 (.var 2000) (.lit 1)))], [], []⟩)))
 (.next 0 ⟨[(1, (.var 2001)), (0, (.ar .add .i64 (.var 2000) (.lit 1)))], [], []⟩))
 (.next 0 ⟨[(1, (.var 2001)), (0, (.ar .add .i64 (.var 2000) (.lit 1)))], [], []⟩)))
 (.ite (.cmp .leq (.rd (.var 2) (.ar .rem .i64 (.ar .add .i64 (.var 2000) (.lit 1)) (.len (.var 2))) 1) (.var 1))
 (.ite (.cmp .gtr (.rd (.var 2) (.var 2000) 1) (.var 1))
 (.ob (.tru (.fn 1 (.i (.rd (.var 2) (.var 2000) 0) (.i (.rd (.var 2) (.var 2000) 1) (.i (.rd (.var 2) (.ar .rem .i64 (.ar .add .i64 (.var 2000) (.lit 1)) (.len (.var 2))) 0) (.i (.rd (.var 2) (.ar .rem .i64 (.ar .add .i64 (.var 2000) (.lit 1)) (.len (.var 2))) 1) (.i (.var 0) (.i (.var 1) .nil))))))))
 (.ite (.cmp .lss (.fn 0 (.i (.rd (.var 2) (.var 2000) 0) (.i (.rd (.var 2) (.var 2000) 1) (.i (.rd (.var 2) (.ar .rem .i64 (.ar .add .i64 (.var 2000) (.lit 1)) (.len (.var 2))) 0) (.i (.rd (.var 2) (.ar .rem .i64 (.ar .add .i64 (.var 2000) (.lit 1)) (.len (.var 2))) 1) (.i (.var 0) (.i (.var 1) .nil))))))) (.lit 0))
 (.next 0 ⟨[(1, (.ar .sub .i64 (.var 2001) (.lit 1))), (0, (.ar .add .i64 (.var 2000) (.lit 1)))], [], []⟩)
 (.next 0 ⟨[(1, (.var 2001)), (0, (.ar .add .i64 (.var 2000) (.lit 1)))], [], []⟩)))
 (.next 0 ⟨[(1, (.var 2001)), (0, (.ar .add .i64 (.var 2000) (.lit 1)))], [], []⟩))
 (.next 0 ⟨[(1, (.var 2001)), (0, (.ar .add .i64 (.var 2000) (.lit 1)))], [], []⟩))))))))))
 (.ite (.cmp .eql (.var 2001) (.lit 0))
 (.ret ((.v (.one (.z (.int .i64 (.lit (-1)))))), [], 5))
 (.ret ((.v (.one (.z (.int .i64 (.lit 1))))), [], 5)))))
-- end trR3P
set_option maxRecDepth 100000 in
theorem trR3P_is : T.norm 0 (call Tryz.prog ctR3 (Lt.of []) 100 85 (symArgs 0 [pt, pts]) [] 0) TT.ret = trR3P := by kernel_rfl
theorem trR3P_low : trR3P.low 1000 = true := by kernel_rfl
end Go.Proofs.YtglepdhapakmbaaGreat
/- Chapter 38: the reference: layer 3's Valid, Place. -/
namespace Go.Proofs.YtglepdhapakmbaaGreat
open Go.RowKit
theorem rem_next2 {n i : Nat} (h : i < n) (h3 : 3 ≤ n) (hn : n ≤ 281474976710656) : (IntKind.i64.wrap ((i : Int) + 2)).tmod (n : Int) = (nxt n (nxt n i) : Int) := by
  rw [wrap_in ((i : Int) + 2) (by omega) (by omega), Int.tmod_eq_emod_of_nonneg (by omega)]
  by_cases h1 : i + 1 = n
  · rw [show nxt n i = 0 by unfold nxt; rw [if_pos h1], show nxt n 0 = 1 by unfold nxt; rw [if_neg (by omega)], show ((i : Int) + 2) = 1 + n by omega, Int.add_emod_right, Int.emod_eq_of_lt (by omega) (by omega)]; rfl
  · rw [show nxt n i = i + 1 by unfold nxt; rw [if_neg h1]]
    by_cases h2 : i + 2 = n
    · rw [show nxt n (i + 1) = 0 by unfold nxt; rw [if_pos (by omega)], show ((i : Int) + 2) = n by omega, Int.emod_self]; rfl
    · rw [show nxt n (i + 1) = i + 2 by unfold nxt; rw [if_neg (by omega)], Int.emod_eq_of_lt (by omega) (by omega)]; rfl
theorem KUb1 (W : World) (ds l : List D) : (envOf KU W ds).fb 1 l = six6 l := by simp only [envOf, KU, KT, KR, KG, KF, KE, KD, KC, KB, KA, K9, K8, K7, K6, K5, K]
theorem KUb3 (W : World) (ds l : List D) : (envOf KU W ds).fb 3 l = placeL l := by simp only [envOf, KU, KT, KR, KG, KF, KE, KD, KC, KB, KA, K9, K8, K7, K6, K5, K]
theorem KUb4 (W : World) (ds l : List D) : (envOf KU W ds).fb 4 l = onL l := by simp only [envOf, KU, KT, KR, KG, KF, KE, KD, KC, KB, KA, K9, K8, K7, K6, K5, K]
theorem KUi0 (W : World) (ds l : List D) : (envOf KU W ds).fi 0 l = turnL l := by simp only [envOf, KU, KT, KR, KG, KF, KE, KD, KC, KB, KA, K9, K8, K7, K6, K5, K]
theorem KUb96 (W : World) (ds l : List D) : (envOf KU W ds).fb 96 l = lessL l := by simp only [envOf, KU, KT, KR, KG, KF, KE, KD, KC, KB, KA, K9, K8, K7, K6, K5, K]
theorem KUb97 (W : World) (ds l : List D) : (envOf KU W ds).fb 97 l = plL l := by simp only [envOf, KU, KT, KR, KG, KF, KE, KD, KC, KB, KA, K9, K8, K7, K6, K5, K]
theorem KUb66 (W : World) (ds l : List D) : (envOf KU W ds).fb 66 l = simpleL l := by simp only [envOf, KU, KT, KR, KG, KF, KE, KD, KC, KB, KA, K9, K8, K7, K6, K5, K]
theorem KUi65 (W : World) (ds l : List D) : (envOf KU W ds).fi 65 l = twiceL l := by simp only [envOf, KU, KT, KR, KG, KF, KE, KD, KC, KB, KA, K9, K8, K7, K6, K5, K]
theorem less_four (a b c d : Int) : lessL [.i a, .i b, .i c, .i d] = lessB a b c d := rfl
theorem pl_one (r : Rows) : plL [.l r] = plN r r.length 0 := rfl
theorem gR3V : Gives Tryz.prog 32 [pts] (fun ds => .bool (polyL ds)) := by
  refine GivesIf.all (fn_gives KU (by kernel_rfl) (fun ρ h => ctR3_ok (Sees.of h 98)) (by kernel_rfl) trR3V_is trR3V_low (by decide) (fun W vals ds hr _ => ?_))
  have hlen := pts_len hr
  simp only [trR3V, TT.sat_ret, TT.sat_ite, TT.sat_ob, TT.sat_next, TT.sat_stuck, put_i, put_b, put_d, put_fi, put_fb, put_fd, Ob.ok, B.ev, E.ev, X.ev, AL.ev, cmp_t, cmp_f, arEv, V.plain, V2.plain, S.plain, S0.plain, V.val, V2.val, S.val, S0.val, bV, iV, List.all_cons, List.all_nil, Bool.and_true, Bool.and_self, envOf_i, envOf_b, envOf_d, List.map_cons, List.map_nil, true_and, Bool.not_eq_true', Bool.not_eq_false', Bool.not_not, Bool.and_eq_true, and_f, cell_lg, cell_lb, cell_lr, cmpP, val_i, val_b, val_d, aget, Nat.reduceBEq, beq_self_eq_true, Bool.false_eq_true, if_true, if_false, Nat.reduceLT, Nat.reduceSub, Nat.sub_self, Nat.lt_irrefl]
  generalize hr0 : rAt ds 0 = r at hlen ⊢
  have hP : polyL ds = polyB r := by rw [polyL, hr0]
  rw [hP]
  refine ⟨fun h => ?_, fun h1 => ⟨fun h => ?_, fun h2 => ?_⟩⟩
  · rw [polyB, decide_eq_false (by omega)]; rfl
  · rw [polyB, decide_eq_false (by omega)]; rfl
  have hd : decide (3 ≤ r.length ∧ r.length ≤ 24) = true := decide_eq_true (by omega)
  have hpb : polyB r = (plN r r.length 0 && (cornN r r.length 0 && (simpleN r r.length 0 && decide (0 < twiceN r r.length 0 0)))) := by rw [polyB, hd]; rfl
  have F1 : ∀ k : Nat, k < r.length → placeB (lg r k 0) (lg r k 1) = false → Value.bool false = Value.bool (polyB r) := fun k hk h => by
    have : plN r r.length 0 = false := by
      rw [Bool.eq_false_iff]
      intro q
      rw [(plN_iff _ _).mp q k (by omega) (by omega)] at h
      exact absurd h (by decide)
    rw [hpb, this]; rfl
  have F2 : (∀ k : Nat, k < r.length → placeB (lg r k 0) (lg r k 1) = true → True) → ∀ k : Nat, k < r.length → ¬ cornOk r k = true → Value.bool false = Value.bool (polyB r) := fun _ k hk h => by
    have : cornN r r.length 0 = false := by
      rw [Bool.eq_false_iff]
      exact fun q => h ((cornN_iff _ _).mp q k (by omega) (by omega))
    rw [hpb, this, Bool.false_and, Bool.and_false]
  refine TT.sat_loop (fun v => ∃ i : Nat, v.i 0 = i ∧ i ≤ r.length ∧ ∀ k : Nat, k < i → placeB (lg r k 0) (lg r k 1) = true ∧ (0 < k → lessB (lg r 0 0) (lg r 0 1) (lg r k 0) (lg r k 1) = true)) (fun v => r.length - (v.i 0).toNat)
    ⟨0, by simp [val_i, aget, E.ev], by omega, fun k hk => by omega⟩ (fun v hv => ?_)
  obtain ⟨i, i0, i1, i2⟩ := hv
  simp only [TT.sat_ret, TT.sat_ite, TT.sat_ob, TT.sat_next, TT.sat_stuck, put_i, put_b, put_d, put_fi, put_fb, put_fd, Ob.ok, B.ev, E.ev, X.ev, AL.ev, cmp_t, cmp_f, arEv, V.plain, V2.plain, S.plain, S0.plain, V.val, V2.val, S.val, S0.val, bV, iV, List.all_cons, List.all_nil, Bool.and_true, Bool.and_self, envOf_i, envOf_b, envOf_d, List.map_cons, List.map_nil, true_and, Bool.not_eq_true', Bool.not_eq_false', Bool.not_not, Bool.and_eq_true, and_f, cell_lg, cell_lb, cell_lr, cmpP, val_i, val_b, val_d, aget, Nat.reduceBEq, beq_self_eq_true, Bool.false_eq_true, if_true, if_false, Nat.reduceLT, Nat.reduceSub, Nat.sub_self, Nat.lt_irrefl, i0, hr0, KUb1, KUb3, KUi0, KUb96, KUb97, KUb66, KUi65, less_four, place_two, simple_one, twice_one, pl_one]
  refine ⟨fun hc => ?_, fun hc => ?_⟩
  · have hi : i < r.length := by omega
    have N : placeB (lg r i 0) (lg r i 1) = true → (0 < i → lessB (lg r 0 0) (lg r 0 1) (lg r i 0) (lg r i 1) = true) → (∃ j : Nat, IntKind.i64.wrap ((i : Int) + 1) = j ∧ j ≤ r.length ∧ ∀ k : Nat, k < j → placeB (lg r k 0) (lg r k 1) = true ∧ (0 < k → lessB (lg r 0 0) (lg r 0 1) (lg r k 0) (lg r k 1) = true)) ∧ r.length - (IntKind.i64.wrap ((i : Int) + 1)).toNat < r.length - (i : Int).toNat := by
      intro h h'
      rw [wrap_in _ (by omega) (by omega)]
      refine ⟨⟨i + 1, rfl, by omega, fun k hk => ?_⟩, by omega⟩
      by_cases e : k = i
      · subst e; exact ⟨h, h'⟩
      · exact i2 k (by omega)
    refine ⟨by omega, by omega, fun p => F1 i hi p, fun p => ⟨fun a => ⟨by omega, by omega, by omega, fun l => F2 (fun _ _ _ => trivial) i hi (fun q => ?_), fun l => N p (fun _ => l)⟩, fun a => N p (fun h => by omega)⟩⟩
    unfold cornOk at q
    simp only [Bool.and_eq_true, Bool.not_eq_true', Bool.and_eq_false_imp, decide_eq_true_eq, decide_eq_false_iff_not, order_less, Decidable.not_not] at q
    rw [q.1 (by omega)] at l
    exact absurd l (by decide)
  · have hi : i = r.length := by omega
    subst hi
    have hpl : ∀ k : Nat, k < r.length → placeB (lg r k 0) (lg r k 1) = true := fun k hk => (i2 k hk).1
    have hplN : plN r r.length 0 = true := (plN_iff _ _).mpr (fun k _ hk => hpl k (by omega))
    refine TT.sat_loop (fun v => ∃ j : Nat, v.i 0 = j ∧ j ≤ r.length ∧ ∀ k : Nat, k < j → turnI (lg r k 0) (lg r k 1) (lg r (nxt r.length k) 0) (lg r (nxt r.length k) 1) (lg r (nxt r.length (nxt r.length k)) 0) (lg r (nxt r.length (nxt r.length k)) 1) ≠ 0) (fun v => r.length - (v.i 0).toNat)
      ⟨0, by simp [val_i, aget, E.ev], by omega, fun k hk => by omega⟩ (fun u hu => ?_)
    obtain ⟨j, j0, j1, j2⟩ := hu
    simp only [TT.sat_ret, TT.sat_ite, TT.sat_ob, TT.sat_next, TT.sat_stuck, put_i, put_b, put_d, put_fi, put_fb, put_fd, Ob.ok, B.ev, E.ev, X.ev, AL.ev, cmp_t, cmp_f, arEv, V.plain, V2.plain, S.plain, S0.plain, V.val, V2.val, S.val, S0.val, bV, iV, List.all_cons, List.all_nil, Bool.and_true, Bool.and_self, envOf_i, envOf_b, envOf_d, List.map_cons, List.map_nil, true_and, Bool.not_eq_true', Bool.not_eq_false', Bool.not_not, Bool.and_eq_true, and_f, cell_lg, cell_lb, cell_lr, cmpP, val_i, val_b, val_d, aget, Nat.reduceBEq, beq_self_eq_true, Bool.false_eq_true, if_true, if_false, Nat.reduceLT, Nat.reduceSub, Nat.sub_self, Nat.lt_irrefl, j0, hr0, KUb1, KUb3, KUi0, KUb96, KUb97, KUb66, KUi65, less_four, place_two, simple_one, twice_one, pl_one, six_six, turn_six]
    refine ⟨fun hc => ?_, fun hc => ?_⟩
    · have hj : j < r.length := by omega
      have hn := nxt_lt hj
      have hnn := nxt_lt hn
      simp only [rem_next1 hj hlen, rem_next2 hj (by omega) hlen, hpl j hj, hpl _ hn, hpl _ hnn, Bool.and_self]
      refine ⟨by omega, by omega, by omega, by omega, by omega, by omega, by omega, by omega, by simp, fun t => F2 (fun _ _ _ => trivial) (nxt r.length j) hn (fun q => ?_), fun t => ⟨⟨j + 1, ?_, by omega, fun k hk => ?_⟩, ?_⟩⟩
      · exact ((cornOk_iff hpl hn).mp q).2 (by rw [prv_nxt hj]; exact t)
      · rw [wrap_in _ (by omega) (by omega)]; rfl
      · by_cases e : k = j
        · subst e; exact t
        · exact j2 k (by omega)
      · rw [wrap_in _ (by omega) (by omega)]; omega
    · have hj : j = r.length := by omega
      have hco : cornN r r.length 0 = true := (cornN_iff _ _).mpr (fun k _ hk => (cornOk_iff hpl (by omega)).mpr ⟨(i2 k (by omega)).2, by
        have := j2 (prv r.length k) (by have := prv_lt (show k < r.length by omega); omega)
        rw [nxt_prv (by omega)] at this
        exact this⟩)
      rw [hpb, hplN, hco, Bool.true_and, Bool.true_and]
      refine ⟨rfl, fun s => ?_, fun s => ?_⟩
      · rw [s, Bool.true_and]
        congr 1
      · rw [s]; rfl
end Go.Proofs.YtglepdhapakmbaaGreat
/- Chapter 38: the reference: layer 3's Place; contracts. -/
namespace Go.Proofs.YtglepdhapakmbaaGreat
open Go.RowKit
theorem sE_R (x y ax ay bx by' : Int) : sE x y ax ay bx by' = (if ay ≤ y ∧ y < by' ∧ 0 < turnI ax ay bx by' x y then 1 else 0) + (if by' ≤ y ∧ y < ay ∧ turnI ax ay bx by' x y < 0 then -1 else 0) := by
  rw [sE_eq]
  have e : crossI bx by' ax ay x y = - crossI ax ay bx by' x y := by unfold crossI; grind
  rw [e]
  unfold turnI
  simp only [sgn_p, sgn_n]
  generalize crossI ax ay bx by' x y = u
  (repeat' split) <;> omega
theorem onN_no {r : Rows} {x y : Int} : ∀ (f i : Nat), onN r x y f i = false → ∀ k, i ≤ k → k < i + f → onB x y (cx r k) (cy r k) (cx r (nxt r.length k)) (cy r (nxt r.length k)) = false
  | 0, _, _, k, h1, h2 => by omega
  | f + 1, i, h, k, h1, h2 => by
    rw [onN, Bool.or_eq_false_iff] at h
    by_cases e : k = i
    · subst e; exact h.1
    · exact onN_no f (i + 1) h.2 k (by omega) (by omega)
theorem gR3P : GivesIf Tryz.prog 85 [pt, pts] (fun ds => (placeB (iAt ds 0) (iAt ds 1) && polyB (rAt ds 2)) = true) (fun ds => .int .i64 (placeN (rAt ds 2) (iAt ds 0) (iAt ds 1) (rAt ds 2).length 0 false)) := by
  refine fn_gives KU (by kernel_rfl) (fun ρ h => ctR3_ok (Sees.of h 98)) (by kernel_rfl) trR3P_is trR3P_low (by decide) (fun W vals ds hr hok => ?_)
  rw [Bool.and_eq_true] at hok
  obtain ⟨hq, hp⟩ := hok
  have hl := polyB_len hp
  have hpl : ∀ k : Nat, k < (rAt ds 2).length → placeB (lg (rAt ds 2) k 0) (lg (rAt ds 2) k 1) = true := fun k hk => polyB_pl hp hk
  simp only [trR3P]
  refine TT.sat_loop (fun v => ∃ i : Nat, v.i 0 = i ∧ i ≤ (rAt ds 2).length ∧ (v.i 1 = sumZ (fun k => sE (iAt ds 0) (iAt ds 1) (cx (rAt ds 2) k) (cy (rAt ds 2) k) (cx (rAt ds 2) (nxt (rAt ds 2).length k)) (cy (rAt ds 2) (nxt (rAt ds 2).length k))) i ∧ -i ≤ v.i 1 ∧ v.i 1 ≤ i) ∧ ∀ k, k < i → onB (iAt ds 0) (iAt ds 1) (cx (rAt ds 2) k) (cy (rAt ds 2) k) (cx (rAt ds 2) (nxt (rAt ds 2).length k)) (cy (rAt ds 2) (nxt (rAt ds 2).length k)) = false) (fun v => (rAt ds 2).length - (v.i 0).toNat)
    ⟨0, by simp [val_i, aget, E.ev], by omega, ⟨by simp [val_i, aget, E.ev, sumZ], by simp [val_i, aget, E.ev], by simp [val_i, aget, E.ev]⟩, fun k hk => by omega⟩ (fun v hv => ?_)
  obtain ⟨i, i0, i1, ⟨i2, i3, i4⟩, i5⟩ := hv
  simp only [TT.sat_ret, TT.sat_ite, TT.sat_ob, TT.sat_next, TT.sat_stuck, put_i, put_b, put_d, put_fi, put_fb, put_fd, Ob.ok, B.ev, E.ev, X.ev, AL.ev, cmp_t, cmp_f, arEv, V.plain, V2.plain, S.plain, S0.plain, V.val, V2.val, S.val, S0.val, bV, iV, List.all_cons, List.all_nil, Bool.and_true, Bool.and_self, envOf_i, envOf_b, envOf_d, List.map_cons, List.map_nil, true_and, Bool.not_eq_true', Bool.not_eq_false', Bool.not_not, Bool.and_eq_true, and_f, cell_lg, cell_lb, cell_lr, cmpP, val_i, val_b, val_d, aget, Nat.reduceBEq, beq_self_eq_true, Bool.false_eq_true, if_true, if_false, Nat.reduceLT, Nat.reduceSub, Nat.sub_self, Nat.lt_irrefl, i0, KUb1, KUb4, KUi0, six_six, on_six, turn_six]
  refine ⟨fun hc => ?_, fun hc => ?_⟩
  · have hi : i < (rAt ds 2).length := by omega
    have hn := nxt_lt hi
    simp only [rem_next1 hi (show (rAt ds 2).length ≤ 281474976710656 by omega), hq, hpl i hi, hpl _ hn, Bool.and_self]
    have N : ∀ w : Int, w = v.i 1 + sE (iAt ds 0) (iAt ds 1) (cx (rAt ds 2) i) (cy (rAt ds 2) i) (cx (rAt ds 2) (nxt (rAt ds 2).length i)) (cy (rAt ds 2) (nxt (rAt ds 2).length i)) → onB (iAt ds 0) (iAt ds 1) (lg (rAt ds 2) i 0) (lg (rAt ds 2) i 1) (lg (rAt ds 2) (nxt (rAt ds 2).length i) 0) (lg (rAt ds 2) (nxt (rAt ds 2).length i) 1) = false →
        (∃ j : Nat, IntKind.i64.wrap ((i : Int) + 1) = j ∧ j ≤ (rAt ds 2).length ∧ (w = sumZ (fun k => sE (iAt ds 0) (iAt ds 1) (cx (rAt ds 2) k) (cy (rAt ds 2) k) (cx (rAt ds 2) (nxt (rAt ds 2).length k)) (cy (rAt ds 2) (nxt (rAt ds 2).length k))) j ∧ -j ≤ w ∧ w ≤ j) ∧ ∀ k, k < j → onB (iAt ds 0) (iAt ds 1) (cx (rAt ds 2) k) (cy (rAt ds 2) k) (cx (rAt ds 2) (nxt (rAt ds 2).length k)) (cy (rAt ds 2) (nxt (rAt ds 2).length k)) = false) ∧ (rAt ds 2).length - (IntKind.i64.wrap ((i : Int) + 1)).toNat < (rAt ds 2).length - (i : Int).toNat := by
      intro w hw ho
      rw [wrap_in _ (by omega) (by omega)]
      have hs : -1 ≤ sE (iAt ds 0) (iAt ds 1) (cx (rAt ds 2) i) (cy (rAt ds 2) i) (cx (rAt ds 2) (nxt (rAt ds 2).length i)) (cy (rAt ds 2) (nxt (rAt ds 2).length i)) ∧ sE (iAt ds 0) (iAt ds 1) (cx (rAt ds 2) i) (cy (rAt ds 2) i) (cx (rAt ds 2) (nxt (rAt ds 2).length i)) (cy (rAt ds 2) (nxt (rAt ds 2).length i)) ≤ 1 := by
        unfold sE; (repeat' split) <;> omega
      refine ⟨⟨i + 1, rfl, by omega, ⟨?_, by omega, by omega⟩, fun k hk => ?_⟩, by omega⟩
      · rw [sumZ, ← i2]; exact hw
      · by_cases e : k = i
        · subst e; exact ho
        · exact i5 k (by omega)
    have es := sE_R (iAt ds 0) (iAt ds 1) (cx (rAt ds 2) i) (cy (rAt ds 2) i) (cx (rAt ds 2) (nxt (rAt ds 2).length i)) (cy (rAt ds 2) (nxt (rAt ds 2).length i))
    unfold cx cy at es N
    have w1 : IntKind.i64.wrap (v.i 1 + 1) = v.i 1 + 1 := wrap_in _ (by omega) (by omega)
    have w2 : IntKind.i64.wrap (v.i 1 - 1) = v.i 1 - 1 := wrap_in _ (by omega) (by omega)
    have w3 : IntKind.i64.wrap (v.i 1 + 1 - 1) = v.i 1 + 1 - 1 := wrap_in _ (by omega) (by omega)
    simp only [w1, w2, w3]
    generalize turnI (lg (rAt ds 2) i 0) (lg (rAt ds 2) i 1) (lg (rAt ds 2) (nxt (rAt ds 2).length i) 0) (lg (rAt ds 2) (nxt (rAt ds 2).length i) 1) (iAt ds 0) (iAt ds 1) = t at *
    refine ⟨by omega, by omega, by omega, by omega, by omega, by simp, fun o => ?_, fun o => ?_⟩
    · rw [placeN_eq hp hq _ _ _ (by omega)]
      have : onN (rAt ds 2) (iAt ds 0) (iAt ds 1) (rAt ds 2).length 0 = true := by
        cases h : onN (rAt ds 2) (iAt ds 0) (iAt ds 1) (rAt ds 2).length 0 with
        | true => rfl
        | false =>
          have := onN_no _ 0 h i (by omega) (by omega)
          unfold cx cy at this
          rw [o] at this; exact absurd this (by decide)
      rw [this]; rfl
    · (repeat' (first | (intro h; skip) | (refine And.intro ?_ ?_)))
      all_goals try (exfalso; omega)
      all_goals try (simp; done)
      all_goals try (exact (N (v.i 1 + sE _ _ _ _ _ _) rfl o).2)
      all_goals first | (refine (N (v.i 1 + 1) ?_ o).1; rw [es]; (repeat' split) <;> omega) | (refine (N (v.i 1 - 1) ?_ o).1; rw [es]; (repeat' split) <;> omega) | (refine (N (v.i 1) ?_ o).1; rw [es]; (repeat' split) <;> omega)
  · have hi : i = (rAt ds 2).length := by omega
    subst hi
    rw [place_wind hp hq i5]
    have ew : wind (cx (rAt ds 2)) (cy (rAt ds 2)) (rAt ds 2).length (iAt ds 0) (iAt ds 1) = v.i 1 := i2.symm
    rw [ew]
    exact ⟨fun h => by rw [if_pos h], fun h => by rw [if_neg h]⟩
end Go.Proofs.YtglepdhapakmbaaGreat
/- Chapter 38: the reference: contracts of layer 3's Valid, Place. -/
namespace Go.Proofs.YtglepdhapakmbaaGreat
open Go.RowKit
def plcL (ds : List D) : Int := placeN (rAt ds 2) (iAt ds 0) (iAt ds 1) (rAt ds 2).length 0 false
def KV : Interp where
  fi n l := match n with | 98 => plcL l | n => KU.fi n l
  fb n l := KU.fb n l
  fd _ _ := []
theorem KV_KU {ρ : Env} (h : Sees ρ KV 99) : Sees ρ KU 98 := h.trans (by decide) fun n l hn => by
  refine ⟨?_, ?_⟩
  ·
    simp only [KV]
    split <;> first | omega | rfl
  ·
    rfl
def cR3V := ctD [pts] fun al => .ret (bV (bF 69 polyL al))
theorem cR3V_ok {ρ : Env} (h : Sees ρ KG 80) : CtOne Tryz.prog ρ 32 cR3V :=
  ctD_ok gR3V (fun _ => rfl) (fun al => by simp only [iV, bV, V.s0, V.val, V2.val, S.val, S0.val, bF_ev (s := 69) (f := polyL) (fun l => by rw [(h 69 l (by decide)).2]; simp only [KG, KF, KE, KD, KC, KB, KA, K9, K8, K7, K6, K5, K])]; try rfl)
def oPlc (al : AL) : T V := match al with
  | .i a (.i b (.x r .nil)) => T.obs [.tru (.fn 3 (.i a (.i b .nil))), .tru (.fn 69 (.x r .nil))] (.ret (iV .i64 (iF 98 plcL al)))
  | _ => .stuck "place"
def cPlcR := ctD [pt, pts] oPlc
theorem KV_KG {ρ : Env} (h : Sees ρ KV 99) : Sees ρ KG 80 := KU_KG (KV_KU h)
theorem cPlcR_ok {ρ : Env} (h : Sees ρ KV 99) : CtOne Tryz.prog ρ 85 cPlcR := by
  refine ctD_if gR3P (fun al v hv => ?_)
  have h3 : ∀ l, ρ.fb 3 l = placeL l := fun l => by rw [(KV_KG h 3 l (by decide)).2]; simp only [KG, KF, KE, KD, KC, KB, KA, K9, K8, K7, K6, K5, K]
  have h69 : ∀ l, ρ.fb 69 l = polyL l := fun l => by rw [(KV_KG h 69 l (by decide)).2]; simp only [KG, KF, KE, KD, KC, KB, KA, K9, K8, K7, K6, K5, K]
  unfold oPlc at hv
  split at hv
  · rename_i a b r
    obtain ⟨ho, hv⟩ := T.res_obs hv
    obtain rfl := res_ret hv
    have o1 := ho _ (List.mem_cons_self ..)
    have o2 := ho _ (List.mem_cons_of_mem _ (List.mem_cons_self ..))
    simp only [Ob.ok, B.ev, AL.ev, h3, h69] at o1 o2
    refine ⟨rfl, ?_, ?_⟩
    · show (placeB (a.ev ρ) (b.ev ρ) && polyB (r.ev ρ)) = true
      rw [Bool.and_eq_true]
      exact ⟨o1, o2⟩
    · simp only [iV, V.s0, V.val, V2.val, S.val, S0.val, iF_ev (s := 98) (f := plcL) (fun l => by rw [(h 98 l (by decide)).1]; simp only [KV])]
      try rfl
  · exact hv.elim
def ctR4 : Ct := (32, cR3V) :: (85, cPlcR) :: ctR3
theorem ctR4_ok {ρ : Env} (h : Sees ρ KV 99) : CtOk Tryz.prog ρ ctR4 := .cons (cR3V_ok (KV_KG h)) <| .cons (cPlcR_ok h) (ctR3_ok (KV_KU h))
end Go.Proofs.YtglepdhapakmbaaGreat
/- Chapter 38: trees of the reference: In; layer 5. -/
namespace Go.Proofs.YtglepdhapakmbaaGreat
open Go.RowKit
-- term trR3I: call Tryz.prog ctR4 (Lt.of []) 100 62 (symArgs 0 [pt, pts]) [] 0
def trR3I : TT OpR :=
(.ite (.not (.fn 3 (.i (.var 0) (.i (.var 1) .nil))))
 (.ret ((.tup [(.one (.z (.int .i64 (.lit 0)))), (.one (.z (.int .i64 (.lit 1))))]), [], 1))
 (.ite (.not (.fn 69 (.x (.var 2) .nil)))
 (.ret ((.tup [(.one (.z (.int .i64 (.lit 0)))), (.one (.z (.int .i64 (.lit 1))))]), [], 1))
 (.ob (.tru (.fn 3 (.i (.var 0) (.i (.var 1) .nil))))
 (.ob (.tru (.fn 69 (.x (.var 2) .nil)))
 (.ret ((.tup [(.one (.z (.int .i64 (.fn 98 (.i (.var 0) (.i (.var 1) (.x (.var 2) .nil))))))), (.one (.z (.int .i64 (.lit 0))))]), [], 1))))))
-- end trR3I
set_option maxRecDepth 100000 in
theorem trR3I_is : T.norm 0 (call Tryz.prog ctR4 (Lt.of []) 100 62 (symArgs 0 [pt, pts]) [] 0) TT.ret = trR3I := by kernel_rfl
theorem trR3I_low : trR3I.low 1000 = true := by kernel_rfl
-- term trR5D: call Tryz.prog [] (Lt.of []) 100 81 (symArgs 0 [dir]) [] 0
def trR5D : TT OpR :=
(.ite (.cmp .geq (.var 0) (.lit (-1000000)))
 (.ite (.cmp .leq (.var 0) (.lit 1000000))
 (.ite (.cmp .geq (.var 1) (.lit (-1000000)))
 (.ite (.cmp .leq (.var 1) (.lit 1000000))
 (.ite (.cmp .neq (.var 0) (.lit 0))
 (.ret ((.v (.one (.z (.bool (.lit true))))), [], 1))
 (.ret ((.v (.one (.z (.bool (.cmp .neq (.var 1) (.lit 0)))))), [], 1)))
 (.ret ((.v (.one (.z (.bool (.lit false))))), [], 1)))
 (.ret ((.v (.one (.z (.bool (.lit false))))), [], 1)))
 (.ret ((.v (.one (.z (.bool (.lit false))))), [], 1)))
 (.ret ((.v (.one (.z (.bool (.lit false))))), [], 1)))
-- end trR5D
set_option maxRecDepth 100000 in
theorem trR5D_is : T.norm 0 (call Tryz.prog [] (Lt.of []) 100 81 (symArgs 0 [dir]) [] 0) TT.ret = trR5D := by kernel_rfl
theorem trR5D_low : trR5D.low 1000 = true := by kernel_rfl
end Go.Proofs.YtglepdhapakmbaaGreat
/- Chapter 38: the reference: layer 3's In; layer 5's Direction. -/
namespace Go.Proofs.YtglepdhapakmbaaGreat
open Go.RowKit
theorem KVb3 (W : World) (ds l : List D) : (envOf KV W ds).fb 3 l = placeL l := by simp only [envOf, KV, KU, KT, KR, KG, KF, KE, KD, KC, KB, KA, K9, K8, K7, K6, K5, K]
theorem KVb69 (W : World) (ds l : List D) : (envOf KV W ds).fb 69 l = polyL l := by simp only [envOf, KV, KU, KT, KR, KG, KF, KE, KD, KC, KB, KA, K9, K8, K7, K6, K5, K]
theorem KVi98 (W : World) (ds l : List D) : (envOf KV W ds).fi 98 l = plcL l := by simp only [envOf, KV, KU, KT, KR, KG, KF, KE, KD, KC, KB, KA, K9, K8, K7, K6, K5, K]
theorem gR3I : Gives Tryz.prog 62 [pt, pts] (fun ds => .tuple #[.int .i64 (pinR ds), .int .i64 (pinE ds)]) := by
  refine GivesIf.all (fn_gives KV (by kernel_rfl) (fun ρ h => ctR4_ok (Sees.of h 99)) (by kernel_rfl) trR3I_is trR3I_low (by decide) (fun W vals ds hr _ => ?_))
  simp only [trR3I, TT.sat_ret, TT.sat_ite, TT.sat_ob, TT.sat_next, TT.sat_stuck, put_i, put_b, put_d, put_fi, put_fb, put_fd, Ob.ok, B.ev, E.ev, X.ev, AL.ev, cmp_t, cmp_f, arEv, V.plain, V2.plain, S.plain, S0.plain, V.val, V2.val, S.val, S0.val, bV, iV, List.all_cons, List.all_nil, Bool.and_true, Bool.and_self, envOf_i, envOf_b, envOf_d, List.map_cons, List.map_nil, true_and, Bool.not_eq_true', Bool.not_eq_false', Bool.not_not, Bool.and_eq_true, and_f, cell_lg, cell_lb, cell_lr, cmpP, val_i, val_b, val_d, aget, Nat.reduceBEq, beq_self_eq_true, Bool.false_eq_true, if_true, if_false, Nat.reduceLT, Nat.reduceSub, Nat.sub_self, Nat.lt_irrefl, KVb3, KVb69, KVi98, place_two, poly_one]
  refine ⟨fun h => ?_, fun h => ⟨fun h' => ?_, fun h' => ⟨h, h', ?_⟩⟩⟩
  · simp [pinR, pinE, pinO, h]
  · simp [pinR, pinE, pinO, h']
  · have ho : pinO ds = true := by unfold pinO; rw [h, h']; rfl
    simp only [pinR, pinE, ho, if_true]
    rfl
def dirL (ds : List D) : Bool := dirB (iAt ds 0) (iAt ds 1)
theorem gR5D : Gives Tryz.prog 81 [dir] (fun ds => .bool (dirL ds)) := by
  refine GivesIf.all (fn_gives KV (by kernel_rfl) (fun ρ h => .nil) (by kernel_rfl) trR5D_is trR5D_low (by decide) (fun W vals ds hr _ => ?_))
  simp only [trR5D, TT.sat_ret, TT.sat_ite, TT.sat_ob, TT.sat_next, TT.sat_stuck, put_i, put_b, put_d, put_fi, put_fb, put_fd, Ob.ok, B.ev, E.ev, X.ev, AL.ev, cmp_t, cmp_f, arEv, V.plain, V2.plain, S.plain, S0.plain, V.val, V2.val, S.val, S0.val, bV, iV, List.all_cons, List.all_nil, Bool.and_true, Bool.and_self, envOf_i, envOf_b, envOf_d, List.map_cons, List.map_nil, true_and, Bool.not_eq_true', Bool.not_eq_false', Bool.not_not, Bool.and_eq_true, and_f, cell_lg, cell_lb, cell_lr, cmpP, val_i, val_b, val_d, aget, Nat.reduceBEq, beq_self_eq_true, Bool.false_eq_true, if_true, if_false, Nat.reduceLT, Nat.reduceSub, Nat.sub_self, Nat.lt_irrefl]
  simp only [dirL, dirB]
  (repeat' (first | (intro h; skip) | (refine And.intro ?_ ?_)))
  all_goals (congr 1; rw [Bool.eq_iff_iff]; try rw [cmp_t])
  all_goals (simp only [cmpP, decide_eq_true_eq, Bool.false_eq_true, false_iff, true_iff]; omega)
def hasR6 (ds : List D) : Bool := hasB (iAt ds 0) (iAt ds 1) (iAt ds 2) (iAt ds 3) (iAt ds 4) (iAt ds 5)
def KW : Interp where
  fi n l := KV.fi n l
  fb n l := match n with | 99 => dirL l | 100 => hasR6 l | n => KV.fb n l
  fd _ _ := []
theorem KW_KV {ρ : Env} (h : Sees ρ KW 101) : Sees ρ KV 99 := h.trans (by decide) fun n l hn => by
  refine ⟨?_, ?_⟩
  ·
    rfl
  ·
    simp only [KW]
    split <;> first | omega | rfl
def cR3I := ctD [pt, pts] fun al => .ret (.tup [.one (sIF 70 pinR al), .one (sIF 71 pinE al)])
theorem cR3I_ok {ρ : Env} (h : Sees ρ KG 80) : CtOne Tryz.prog ρ 62 cR3I :=
  ctD_ok gR3I (fun _ => rfl) (fun al => by simp only [V.val, V2.val, S.val, S0.val, sIF, sBF, List.map_cons, List.map_nil, iF_ev (s := 70) (f := pinR) (fun l => by rw [(h 70 l (by decide)).1]; simp only [KG, KF, KE, KD, KC, KB, KA, K9, K8, K7, K6, K5, K]), iF_ev (s := 71) (f := pinE) (fun l => by rw [(h 71 l (by decide)).1]; simp only [KG, KF, KE, KD, KC, KB, KA, K9, K8, K7, K6, K5, K])]; try rfl)
def cR5D := ctD [dir] fun al => .ret (bV (bF 99 dirL al))
theorem cR5D_ok {ρ : Env} (h : Sees ρ KW 101) : CtOne Tryz.prog ρ 81 cR5D :=
  ctD_ok gR5D (fun _ => rfl) (fun al => by simp only [iV, bV, V.s0, V.val, V2.val, S.val, S0.val, bF_ev (s := 99) (f := dirL) (fun l => by rw [(h 99 l (by decide)).2]; simp only [KW, KV, KU, KT, KR, KG, KF, KE, KD, KC, KB, KA, K9, K8, K7, K6, K5, K])]; try rfl)
theorem KW_KG {ρ : Env} (h : Sees ρ KW 101) : Sees ρ KG 80 := KV_KG (KW_KV h)
def ctR5 : Ct := (62, cR3I) :: (81, cR5D) :: ctR4
theorem ctR5_ok {ρ : Env} (h : Sees ρ KW 101) : CtOk Tryz.prog ρ ctR5 := .cons (cR3I_ok (KW_KG h)) <| .cons (cR5D_ok h) (ctR4_ok (KW_KV h))
end Go.Proofs.YtglepdhapakmbaaGreat
/- Chapter 38: trees of the reference of layer 5: has, valid. -/
namespace Go.Proofs.YtglepdhapakmbaaGreat
open Go.RowKit
-- term trR5H: call Tryz.prog ctR5 (Lt.of []) 100 60 (symArgs 0 [dir, dir, dir]) [] 0
def trR5H : TT OpR :=
(.ite (.cmp .eql (.ar .sub .i64 (.ar .mul .i64 (.var 0) (.var 3)) (.ar .mul .i64 (.var 1) (.var 2))) (.lit 0))
 (.ite (.cmp .gtr (.ar .add .i64 (.ar .mul .i64 (.var 0) (.var 2)) (.ar .mul .i64 (.var 1) (.var 3))) (.lit 0))
 (.ret ((.v (.one (.z (.bool (.lit true))))), [], 7))
 (.ite (.cmp .eql (.ar .sub .i64 (.ar .mul .i64 (.var 0) (.var 5)) (.ar .mul .i64 (.var 1) (.var 4))) (.lit 0))
 (.ite (.cmp .gtr (.ar .add .i64 (.ar .mul .i64 (.var 0) (.var 4)) (.ar .mul .i64 (.var 1) (.var 5))) (.lit 0))
 (.ret ((.v (.one (.z (.bool (.lit true))))), [], 11))
 (.ite (.cmp .eql (.ar .sub .i64 (.ar .mul .i64 (.var 2) (.var 5)) (.ar .mul .i64 (.var 3) (.var 4))) (.lit 0))
 (.ite (.cmp .gtr (.ar .add .i64 (.ar .mul .i64 (.var 2) (.var 4)) (.ar .mul .i64 (.var 3) (.var 5))) (.lit 0))
 (.ret ((.v (.one (.z (.bool (.lit false))))), [], 15))
 (.ite (.cmp .gtr (.ar .sub .i64 (.ar .mul .i64 (.var 0) (.var 5)) (.ar .mul .i64 (.var 1) (.var 4))) (.lit 0))
 (.ite (.cmp .gtr (.ar .sub .i64 (.ar .mul .i64 (.var 4) (.var 3)) (.ar .mul .i64 (.var 5) (.var 2))) (.lit 0))
 (.ret ((.v (.one (.z (.bool (.lit true))))), [], 19))
 (.ret ((.v (.one (.z (.bool (.cmp .leq (.ar .sub .i64 (.ar .mul .i64 (.var 0) (.var 3)) (.ar .mul .i64 (.var 1) (.var 2))) (.lit 0)))))), [], 21)))
 (.ite (.cmp .gtr (.ar .sub .i64 (.ar .mul .i64 (.var 4) (.var 3)) (.ar .mul .i64 (.var 5) (.var 2))) (.lit 0))
 (.ret ((.v (.one (.z (.bool (.cmp .lss (.ar .sub .i64 (.ar .mul .i64 (.var 0) (.var 3)) (.ar .mul .i64 (.var 1) (.var 2))) (.lit 0)))))), [], 21))
 (.ret ((.v (.one (.z (.bool (.lit false))))), [], 19)))))
 (.ite (.cmp .gtr (.ar .sub .i64 (.ar .mul .i64 (.var 0) (.var 5)) (.ar .mul .i64 (.var 1) (.var 4))) (.lit 0))
 (.ite (.cmp .gtr (.ar .sub .i64 (.ar .mul .i64 (.var 4) (.var 3)) (.ar .mul .i64 (.var 5) (.var 2))) (.lit 0))
 (.ret ((.v (.one (.z (.bool (.lit true))))), [], 19))
 (.ret ((.v (.one (.z (.bool (.cmp .leq (.ar .sub .i64 (.ar .mul .i64 (.var 0) (.var 3)) (.ar .mul .i64 (.var 1) (.var 2))) (.lit 0)))))), [], 21)))
 (.ite (.cmp .gtr (.ar .sub .i64 (.ar .mul .i64 (.var 4) (.var 3)) (.ar .mul .i64 (.var 5) (.var 2))) (.lit 0))
 (.ret ((.v (.one (.z (.bool (.cmp .lss (.ar .sub .i64 (.ar .mul .i64 (.var 0) (.var 3)) (.ar .mul .i64 (.var 1) (.var 2))) (.lit 0)))))), [], 21))
 (.ret ((.v (.one (.z (.bool (.lit false))))), [], 19))))))
 (.ite (.cmp .eql (.ar .sub .i64 (.ar .mul .i64 (.var 2) (.var 5)) (.ar .mul .i64 (.var 3) (.var 4))) (.lit 0))
 (.ite (.cmp .gtr (.ar .add .i64 (.ar .mul .i64 (.var 2) (.var 4)) (.ar .mul .i64 (.var 3) (.var 5))) (.lit 0))
 (.ret ((.v (.one (.z (.bool (.lit false))))), [], 15))
 (.ite (.cmp .gtr (.ar .sub .i64 (.ar .mul .i64 (.var 0) (.var 5)) (.ar .mul .i64 (.var 1) (.var 4))) (.lit 0))
 (.ite (.cmp .gtr (.ar .sub .i64 (.ar .mul .i64 (.var 4) (.var 3)) (.ar .mul .i64 (.var 5) (.var 2))) (.lit 0))
 (.ret ((.v (.one (.z (.bool (.lit true))))), [], 19))
 (.ret ((.v (.one (.z (.bool (.cmp .leq (.ar .sub .i64 (.ar .mul .i64 (.var 0) (.var 3)) (.ar .mul .i64 (.var 1) (.var 2))) (.lit 0)))))), [], 21)))
 (.ite (.cmp .gtr (.ar .sub .i64 (.ar .mul .i64 (.var 4) (.var 3)) (.ar .mul .i64 (.var 5) (.var 2))) (.lit 0))
 (.ret ((.v (.one (.z (.bool (.cmp .lss (.ar .sub .i64 (.ar .mul .i64 (.var 0) (.var 3)) (.ar .mul .i64 (.var 1) (.var 2))) (.lit 0)))))), [], 21))
 (.ret ((.v (.one (.z (.bool (.lit false))))), [], 19)))))
 (.ite (.cmp .gtr (.ar .sub .i64 (.ar .mul .i64 (.var 0) (.var 5)) (.ar .mul .i64 (.var 1) (.var 4))) (.lit 0))
 (.ite (.cmp .gtr (.ar .sub .i64 (.ar .mul .i64 (.var 4) (.var 3)) (.ar .mul .i64 (.var 5) (.var 2))) (.lit 0))
 (.ret ((.v (.one (.z (.bool (.lit true))))), [], 19))
 (.ret ((.v (.one (.z (.bool (.cmp .leq (.ar .sub .i64 (.ar .mul .i64 (.var 0) (.var 3)) (.ar .mul .i64 (.var 1) (.var 2))) (.lit 0)))))), [], 21)))
 (.ite (.cmp .gtr (.ar .sub .i64 (.ar .mul .i64 (.var 4) (.var 3)) (.ar .mul .i64 (.var 5) (.var 2))) (.lit 0))
 (.ret ((.v (.one (.z (.bool (.cmp .lss (.ar .sub .i64 (.ar .mul .i64 (.var 0) (.var 3)) (.ar .mul .i64 (.var 1) (.var 2))) (.lit 0)))))), [], 21))
 (.ret ((.v (.one (.z (.bool (.lit false))))), [], 19)))))))
 (.ite (.cmp .eql (.ar .sub .i64 (.ar .mul .i64 (.var 0) (.var 5)) (.ar .mul .i64 (.var 1) (.var 4))) (.lit 0))
 (.ite (.cmp .gtr (.ar .add .i64 (.ar .mul .i64 (.var 0) (.var 4)) (.ar .mul .i64 (.var 1) (.var 5))) (.lit 0))
 (.ret ((.v (.one (.z (.bool (.lit true))))), [], 11))
 (.ite (.cmp .eql (.ar .sub .i64 (.ar .mul .i64 (.var 2) (.var 5)) (.ar .mul .i64 (.var 3) (.var 4))) (.lit 0))
 (.ite (.cmp .gtr (.ar .add .i64 (.ar .mul .i64 (.var 2) (.var 4)) (.ar .mul .i64 (.var 3) (.var 5))) (.lit 0))
 (.ret ((.v (.one (.z (.bool (.lit false))))), [], 15))
 (.ite (.cmp .gtr (.ar .sub .i64 (.ar .mul .i64 (.var 0) (.var 5)) (.ar .mul .i64 (.var 1) (.var 4))) (.lit 0))
 (.ite (.cmp .gtr (.ar .sub .i64 (.ar .mul .i64 (.var 4) (.var 3)) (.ar .mul .i64 (.var 5) (.var 2))) (.lit 0))
 (.ret ((.v (.one (.z (.bool (.lit true))))), [], 19))
 (.ret ((.v (.one (.z (.bool (.cmp .leq (.ar .sub .i64 (.ar .mul .i64 (.var 0) (.var 3)) (.ar .mul .i64 (.var 1) (.var 2))) (.lit 0)))))), [], 21)))
 (.ite (.cmp .gtr (.ar .sub .i64 (.ar .mul .i64 (.var 4) (.var 3)) (.ar .mul .i64 (.var 5) (.var 2))) (.lit 0))
 (.ret ((.v (.one (.z (.bool (.cmp .lss (.ar .sub .i64 (.ar .mul .i64 (.var 0) (.var 3)) (.ar .mul .i64 (.var 1) (.var 2))) (.lit 0)))))), [], 21))
 (.ret ((.v (.one (.z (.bool (.lit false))))), [], 19)))))
 (.ite (.cmp .gtr (.ar .sub .i64 (.ar .mul .i64 (.var 0) (.var 5)) (.ar .mul .i64 (.var 1) (.var 4))) (.lit 0))
 (.ite (.cmp .gtr (.ar .sub .i64 (.ar .mul .i64 (.var 4) (.var 3)) (.ar .mul .i64 (.var 5) (.var 2))) (.lit 0))
 (.ret ((.v (.one (.z (.bool (.lit true))))), [], 19))
 (.ret ((.v (.one (.z (.bool (.cmp .leq (.ar .sub .i64 (.ar .mul .i64 (.var 0) (.var 3)) (.ar .mul .i64 (.var 1) (.var 2))) (.lit 0)))))), [], 21)))
 (.ite (.cmp .gtr (.ar .sub .i64 (.ar .mul .i64 (.var 4) (.var 3)) (.ar .mul .i64 (.var 5) (.var 2))) (.lit 0))
 (.ret ((.v (.one (.z (.bool (.cmp .lss (.ar .sub .i64 (.ar .mul .i64 (.var 0) (.var 3)) (.ar .mul .i64 (.var 1) (.var 2))) (.lit 0)))))), [], 21))
 (.ret ((.v (.one (.z (.bool (.lit false))))), [], 19))))))
 (.ite (.cmp .eql (.ar .sub .i64 (.ar .mul .i64 (.var 2) (.var 5)) (.ar .mul .i64 (.var 3) (.var 4))) (.lit 0))
 (.ite (.cmp .gtr (.ar .add .i64 (.ar .mul .i64 (.var 2) (.var 4)) (.ar .mul .i64 (.var 3) (.var 5))) (.lit 0))
 (.ret ((.v (.one (.z (.bool (.lit false))))), [], 15))
 (.ite (.cmp .gtr (.ar .sub .i64 (.ar .mul .i64 (.var 0) (.var 5)) (.ar .mul .i64 (.var 1) (.var 4))) (.lit 0))
 (.ite (.cmp .gtr (.ar .sub .i64 (.ar .mul .i64 (.var 4) (.var 3)) (.ar .mul .i64 (.var 5) (.var 2))) (.lit 0))
 (.ret ((.v (.one (.z (.bool (.lit true))))), [], 19))
 (.ret ((.v (.one (.z (.bool (.cmp .leq (.ar .sub .i64 (.ar .mul .i64 (.var 0) (.var 3)) (.ar .mul .i64 (.var 1) (.var 2))) (.lit 0)))))), [], 21)))
 (.ite (.cmp .gtr (.ar .sub .i64 (.ar .mul .i64 (.var 4) (.var 3)) (.ar .mul .i64 (.var 5) (.var 2))) (.lit 0))
 (.ret ((.v (.one (.z (.bool (.cmp .lss (.ar .sub .i64 (.ar .mul .i64 (.var 0) (.var 3)) (.ar .mul .i64 (.var 1) (.var 2))) (.lit 0)))))), [], 21))
 (.ret ((.v (.one (.z (.bool (.lit false))))), [], 19)))))
 (.ite (.cmp .gtr (.ar .sub .i64 (.ar .mul .i64 (.var 0) (.var 5)) (.ar .mul .i64 (.var 1) (.var 4))) (.lit 0))
 (.ite (.cmp .gtr (.ar .sub .i64 (.ar .mul .i64 (.var 4) (.var 3)) (.ar .mul .i64 (.var 5) (.var 2))) (.lit 0))
 (.ret ((.v (.one (.z (.bool (.lit true))))), [], 19))
 (.ret ((.v (.one (.z (.bool (.cmp .leq (.ar .sub .i64 (.ar .mul .i64 (.var 0) (.var 3)) (.ar .mul .i64 (.var 1) (.var 2))) (.lit 0)))))), [], 21)))
 (.ite (.cmp .gtr (.ar .sub .i64 (.ar .mul .i64 (.var 4) (.var 3)) (.ar .mul .i64 (.var 5) (.var 2))) (.lit 0))
 (.ret ((.v (.one (.z (.bool (.cmp .lss (.ar .sub .i64 (.ar .mul .i64 (.var 0) (.var 3)) (.ar .mul .i64 (.var 1) (.var 2))) (.lit 0)))))), [], 21))
 (.ret ((.v (.one (.z (.bool (.lit false))))), [], 19)))))))
-- end trR5H
set_option maxRecDepth 100000 in
theorem trR5H_is : T.norm 0 (call Tryz.prog ctR5 (Lt.of []) 100 60 (symArgs 0 [dir, dir, dir]) [] 0) TT.ret = trR5H := by kernel_rfl
theorem trR5H_low : trR5H.low 1000 = true := by kernel_rfl
-- term trR5V: call Tryz.prog ctR5 (Lt.of []) 100 59 (symArgs 0 [sec]) [] 0
def trR5V : TT OpR :=
(.ite (.fn 99 (.i (.var 0) (.i (.var 1) .nil)))
 (.ite (.fn 99 (.i (.var 2) (.i (.var 3) .nil)))
 (.ite (.cmp .geq (.var 4) (.lit 1))
 (.ite (.cmp .leq (.var 4) (.lit 3))
 (.ite (.cmp .geq (.var 5) (.lit 1))
 (.ret ((.v (.one (.z (.bool (.cmp .leq (.var 5) (.lit 3000000)))))), [], 1))
 (.ret ((.v (.one (.z (.bool (.lit false))))), [], 1)))
 (.ret ((.v (.one (.z (.bool (.lit false))))), [], 1)))
 (.ret ((.v (.one (.z (.bool (.lit false))))), [], 1)))
 (.ret ((.v (.one (.z (.bool (.lit false))))), [], 1)))
 (.ret ((.v (.one (.z (.bool (.lit false))))), [], 1)))
-- end trR5V
set_option maxRecDepth 100000 in
theorem trR5V_is : T.norm 0 (call Tryz.prog ctR5 (Lt.of []) 100 59 (symArgs 0 [sec]) [] 0) TT.ret = trR5V := by kernel_rfl
theorem trR5V_low : trR5V.low 1000 = true := by kernel_rfl
end Go.Proofs.YtglepdhapakmbaaGreat
/- Chapter 38: the reference: layer 5's has, valid. -/
namespace Go.Proofs.YtglepdhapakmbaaGreat
open Go.RowKit
theorem KWb99 (W : World) (ds l : List D) : (envOf KW W ds).fb 99 l = dirL l := by simp only [envOf, KW, KV, KU, KT, KR, KG, KF, KE, KD, KC, KB, KA, K9, K8, K7, K6, K5, K]
theorem dir_two (a b : Int) : dirL [.i a, .i b] = dirB a b := rfl
theorem gR5V : Gives Tryz.prog 59 [sec] (fun ds => .bool (secL ds)) := by
  refine GivesIf.all (fn_gives KW (by kernel_rfl) (fun ρ h => ctR5_ok (Sees.of h 101)) (by kernel_rfl) trR5V_is trR5V_low (by decide) (fun W vals ds hr _ => ?_))
  simp only [trR5V, TT.sat_ret, TT.sat_ite, TT.sat_ob, TT.sat_next, TT.sat_stuck, put_i, put_b, put_d, put_fi, put_fb, put_fd, Ob.ok, B.ev, E.ev, X.ev, AL.ev, cmp_t, cmp_f, arEv, V.plain, V2.plain, S.plain, S0.plain, V.val, V2.val, S.val, S0.val, bV, iV, List.all_cons, List.all_nil, Bool.and_true, Bool.and_self, envOf_i, envOf_b, envOf_d, List.map_cons, List.map_nil, true_and, Bool.not_eq_true', Bool.not_eq_false', Bool.not_not, Bool.and_eq_true, and_f, cell_lg, cell_lb, cell_lr, cmpP, val_i, val_b, val_d, aget, Nat.reduceBEq, beq_self_eq_true, Bool.false_eq_true, if_true, if_false, Nat.reduceLT, Nat.reduceSub, Nat.sub_self, Nat.lt_irrefl, KWb99, dir_two]
  simp only [secL, secB, dirB]
  (repeat' (first | (intro h; skip) | (refine And.intro ?_ ?_)))
  all_goals (congr 1; rw [Bool.eq_iff_iff]; try rw [cmp_t])
  all_goals (simp only [cmpP, decide_eq_true_eq, Bool.false_eq_true, false_iff, true_iff, decide_eq_false_iff_not] at *; omega)
theorem dotW_eq {a b c d : Int} (h1 : dirB a b = true) (h2 : dirB c d = true) : IntKind.i64.wrap (IntKind.i64.wrap (a * c) + IntKind.i64.wrap (b * d)) = a * c + b * d := by
  rw [dirB_iff] at h1 h2
  have m1 := mul_abs (a := a) (b := c) (A := 1000000) (B := 1000000) (by omega) (by omega) (by omega) (by omega)
  have m2 := mul_abs (a := b) (b := d) (A := 1000000) (B := 1000000) (by omega) (by omega) (by omega) (by omega)
  rw [wrap_in (a * c) (by omega) (by omega), wrap_in (b * d) (by omega) (by omega), wrap_in _ (by omega) (by omega)]
theorem crsW_eq' {a b c d : Int} (h1 : dirB a b = true) (h2 : dirB c d = true) : IntKind.i64.wrap (IntKind.i64.wrap (a * d) - IntKind.i64.wrap (b * c)) = crs a b c d := crsW_eq h1 h2
theorem gR5H : GivesIf Tryz.prog 60 [dir, dir, dir] (fun ds => (dirB (iAt ds 0) (iAt ds 1) && (dirB (iAt ds 2) (iAt ds 3) && dirB (iAt ds 4) (iAt ds 5))) = true) (fun ds => .bool (hasR6 ds)) := by
  refine fn_gives KW (by kernel_rfl) (fun ρ h => ctR5_ok (Sees.of h 101)) (by kernel_rfl) trR5H_is trR5H_low (by decide) (fun W vals ds hr hok => ?_)
  rw [Bool.and_eq_true, Bool.and_eq_true] at hok
  obtain ⟨h1, h2, h3⟩ := hok
  simp only [trR5H, TT.sat_ret, TT.sat_ite, TT.sat_ob, TT.sat_next, TT.sat_stuck, put_i, put_b, put_d, put_fi, put_fb, put_fd, Ob.ok, B.ev, E.ev, X.ev, AL.ev, cmp_t, cmp_f, arEv, V.plain, V2.plain, S.plain, S0.plain, V.val, V2.val, S.val, S0.val, bV, iV, List.all_cons, List.all_nil, Bool.and_true, Bool.and_self, envOf_i, envOf_b, envOf_d, List.map_cons, List.map_nil, true_and, Bool.not_eq_true', Bool.not_eq_false', Bool.not_not, Bool.and_eq_true, and_f, cell_lg, cell_lb, cell_lr, cmpP, val_i, val_b, val_d, aget, Nat.reduceBEq, beq_self_eq_true, Bool.false_eq_true, if_true, if_false, Nat.reduceLT, Nat.reduceSub, Nat.sub_self, Nat.lt_irrefl]
  simp only [crsW_eq' h1 h2, crsW_eq' h1 h3, crsW_eq' h2 h3, crsW_eq' h3 h2, dotW_eq h1 h2, dotW_eq h1 h3, dotW_eq h2 h3]
  rw [hasR6, has_eq h1 h2 h3]
  (repeat' (first | (intro h; skip) | (refine And.intro ?_ ?_)))
  all_goals (refine congrArg Value.bool ?_; rw [Bool.eq_iff_iff, decide_eq_true_eq]; unfold hasP alikeP; simp only [cmp_t, cmpP, Bool.false_eq_true, false_iff, true_iff])
  all_goals
    generalize crs (iAt ds 0) (iAt ds 1) (iAt ds 2) (iAt ds 3) = u at *
    generalize crs (iAt ds 0) (iAt ds 1) (iAt ds 4) (iAt ds 5) = v at *
    generalize crs (iAt ds 2) (iAt ds 3) (iAt ds 4) (iAt ds 5) = w at *
    generalize crs (iAt ds 4) (iAt ds 5) (iAt ds 2) (iAt ds 3) = z at *
    generalize iAt ds 0 * iAt ds 2 + iAt ds 1 * iAt ds 3 = x1 at *
    generalize iAt ds 0 * iAt ds 4 + iAt ds 1 * iAt ds 5 = x2 at *
    generalize iAt ds 2 * iAt ds 4 + iAt ds 3 * iAt ds 5 = x3 at *
    clear h1 h2 h3 hr
    (repeat' split) <;> omega
end Go.Proofs.YtglepdhapakmbaaGreat
/- Chapter 38: the reference: contracts of layer 5's has, valid. -/
namespace Go.Proofs.YtglepdhapakmbaaGreat
open Go.RowKit
def cR5V := ctD [sec] fun al => .ret (bV (bF 73 secL al))
theorem cR5V_ok {ρ : Env} (h : Sees ρ KG 80) : CtOne Tryz.prog ρ 59 cR5V :=
  ctD_ok gR5V (fun _ => rfl) (fun al => by simp only [iV, bV, V.s0, V.val, V2.val, S.val, S0.val, bF_ev (s := 73) (f := secL) (fun l => by rw [(h 73 l (by decide)).2]; simp only [KG, KF, KE, KD, KC, KB, KA, K9, K8, K7, K6, K5, K])]; try rfl)
def oHasR (al : AL) : T V := match al with
  | .i a (.i b (.i c (.i d (.i x (.i y .nil))))) => T.obs [.tru (.fn 99 (.i a (.i b .nil))), .tru (.fn 99 (.i c (.i d .nil))), .tru (.fn 99 (.i x (.i y .nil)))] (.ret (bV (bF 100 hasR6 al)))
  | _ => .stuck "has"
def cHasR := ctD [dir, dir, dir] oHasR
theorem cHasR_ok {ρ : Env} (h : Sees ρ KW 101) : CtOne Tryz.prog ρ 60 cHasR := by
  refine ctD_if gR5H (fun al v hv => ?_)
  have h99 : ∀ l, ρ.fb 99 l = dirL l := fun l => by rw [(h 99 l (by decide)).2]; simp only [KW]
  unfold oHasR at hv
  split at hv
  · rename_i a b c d x y
    obtain ⟨ho, hv⟩ := T.res_obs hv
    obtain rfl := res_ret hv
    have o1 := ho _ (List.mem_cons_self ..)
    have o2 := ho _ (List.mem_cons_of_mem _ (List.mem_cons_self ..))
    have o3 := ho _ (List.mem_cons_of_mem _ (List.mem_cons_of_mem _ (List.mem_cons_self ..)))
    simp only [Ob.ok, B.ev, AL.ev, h99] at o1 o2 o3
    refine ⟨rfl, ?_, ?_⟩
    · show (dirB (a.ev ρ) (b.ev ρ) && (dirB (c.ev ρ) (d.ev ρ) && dirB (x.ev ρ) (y.ev ρ))) = true
      rw [Bool.and_eq_true, Bool.and_eq_true]
      exact ⟨o1, o2, o3⟩
    · simp only [bV, V.s0, V.val, V2.val, S.val, S0.val, bF_ev (s := 100) (f := hasR6) (fun l => by rw [(h 100 l (by decide)).2]; simp only [KW])]
      try rfl
  · exact hv.elim
def ctR6 : Ct := (59, cR5V) :: (60, cHasR) :: ctR5
theorem ctR6_ok {ρ : Env} (h : Sees ρ KW 101) : CtOk Tryz.prog ρ ctR6 := .cons (cR5V_ok (KW_KG h)) <| .cons (cHasR_ok h) (ctR5_ok h)
end Go.Proofs.YtglepdhapakmbaaGreat
/- Chapter 38: tree of the reference's list of sectors. -/
namespace Go.Proofs.YtglepdhapakmbaaGreat
open Go.RowKit
-- term trR5L: call Tryz.prog ctR6 (Lt.of []) 100 33 (symArgs 0 [secs]) [] 0
def trR5L : TT OpR :=
(.ite (.cmp .gtr (.len (.var 0)) (.lit 12))
 (.ret ((.v (.one (.z (.bool (.lit false))))), [], 0))
 (.loop 0 1000 ⟨[(0, (.lit 0))], [], []⟩
 (.ite (.cmp .lss (.var 1000) (.len (.var 0)))
 (.ob (.tru (.cmp .leq (.lit 0) (.var 1000)))
 (.ob (.tru (.cmp .lss (.var 1000) (.len (.var 0))))
 (.ite (.not (.fn 73 (.i (.rd (.var 0) (.var 1000) 0) (.i (.rd (.var 0) (.var 1000) 1) (.i (.rd (.var 0) (.var 1000) 2) (.i (.rd (.var 0) (.var 1000) 3) (.i (.rd (.var 0) (.var 1000) 4) (.i (.rd (.var 0) (.var 1000) 5) .nil))))))))
 (.ret ((.v (.one (.z (.bool (.lit false))))), [], 2))
 (.loop 1 2000 ⟨[(0, (.lit 0))], [], []⟩
 (.ite (.cmp .lss (.var 2000) (.var 1000))
 (.ob (.tru (.cmp .leq (.lit 0) (.var 1000)))
 (.ob (.tru (.cmp .lss (.var 1000) (.len (.var 0))))
 (.ob (.tru (.cmp .leq (.lit 0) (.var 1000)))
 (.ob (.tru (.cmp .lss (.var 1000) (.len (.var 0))))
 (.ob (.tru (.cmp .leq (.lit 0) (.var 2000)))
 (.ob (.tru (.cmp .lss (.var 2000) (.len (.var 0))))
 (.ob (.tru (.fn 99 (.i (.rd (.var 0) (.var 1000) 0) (.i (.rd (.var 0) (.var 1000) 1) .nil))))
 (.ob (.tru (.fn 99 (.i (.rd (.var 0) (.var 1000) 2) (.i (.rd (.var 0) (.var 1000) 3) .nil))))
 (.ob (.tru (.fn 99 (.i (.rd (.var 0) (.var 2000) 0) (.i (.rd (.var 0) (.var 2000) 1) .nil))))
 (.ite (.fn 100 (.i (.rd (.var 0) (.var 1000) 0) (.i (.rd (.var 0) (.var 1000) 1) (.i (.rd (.var 0) (.var 1000) 2) (.i (.rd (.var 0) (.var 1000) 3) (.i (.rd (.var 0) (.var 2000) 0) (.i (.rd (.var 0) (.var 2000) 1) .nil)))))))
 (.ret ((.v (.one (.z (.bool (.lit false))))), [], 2))
 (.ob (.tru (.cmp .leq (.lit 0) (.var 2000)))
 (.ob (.tru (.cmp .lss (.var 2000) (.len (.var 0))))
 (.ob (.tru (.cmp .leq (.lit 0) (.var 2000)))
 (.ob (.tru (.cmp .lss (.var 2000) (.len (.var 0))))
 (.ob (.tru (.cmp .leq (.lit 0) (.var 1000)))
 (.ob (.tru (.cmp .lss (.var 1000) (.len (.var 0))))
 (.ob (.tru (.fn 99 (.i (.rd (.var 0) (.var 2000) 0) (.i (.rd (.var 0) (.var 2000) 1) .nil))))
 (.ob (.tru (.fn 99 (.i (.rd (.var 0) (.var 2000) 2) (.i (.rd (.var 0) (.var 2000) 3) .nil))))
 (.ob (.tru (.fn 99 (.i (.rd (.var 0) (.var 1000) 0) (.i (.rd (.var 0) (.var 1000) 1) .nil))))
 (.ite (.fn 100 (.i (.rd (.var 0) (.var 2000) 0) (.i (.rd (.var 0) (.var 2000) 1) (.i (.rd (.var 0) (.var 2000) 2) (.i (.rd (.var 0) (.var 2000) 3) (.i (.rd (.var 0) (.var 1000) 0) (.i (.rd (.var 0) (.var 1000) 1) .nil)))))))
 (.ret ((.v (.one (.z (.bool (.lit false))))), [], 2))
 (.next 1 ⟨[(0, (.ar .add .i64 (.var 2000) (.lit 1)))], [], []⟩)))))))))))))))))))))
 (.next 0 ⟨[(0, (.ar .add .i64 (.var 1000) (.lit 1)))], [], []⟩))))))
 (.ret ((.v (.one (.z (.bool (.lit true))))), [], 2)))))
-- end trR5L
set_option maxRecDepth 100000 in
theorem trR5L_is : T.norm 0 (call Tryz.prog ctR6 (Lt.of []) 100 33 (symArgs 0 [secs]) [] 0) TT.ret = trR5L := by kernel_rfl
theorem trR5L_low : trR5L.low 1000 = true := by kernel_rfl
end Go.Proofs.YtglepdhapakmbaaGreat
/- Chapter 38: the reference's list of sectors. -/
namespace Go.Proofs.YtglepdhapakmbaaGreat
open Go.RowKit
theorem KWb73 (W : World) (ds l : List D) : (envOf KW W ds).fb 73 l = secL l := by simp only [envOf, KW, KV, KU, KT, KR, KG, KF, KE, KD, KC, KB, KA, K9, K8, K7, K6, K5, K]
theorem KWb100 (W : World) (ds l : List D) : (envOf KW W ds).fb 100 l = hasR6 l := by simp only [envOf, KW, KV, KU, KT, KR, KG, KF, KE, KD, KC, KB, KA, K9, K8, K7, K6, K5, K]
theorem hasR_six (a b c d x y : Int) : hasR6 [.i a, .i b, .i c, .i d, .i x, .i y] = hasB a b c d x y := rfl
theorem sec_dir {a b c d e f : Int} (h : secB a b c d e f = true) : dirB a b = true ∧ dirB c d = true := by
  unfold secB at h
  rw [decide_eq_true_eq] at h
  rw [dirB_iff, dirB_iff]
  omega
theorem gR5L : Gives Tryz.prog 33 [secs] (fun ds => .bool (secsL ds)) := by
  refine GivesIf.all (fn_gives KW (by kernel_rfl) (fun ρ h => ctR6_ok (Sees.of h 101)) (by kernel_rfl) trR5L_is trR5L_low (by decide) (fun W vals ds hr _ => ?_))
  have hlen := secs_len hr
  simp only [trR5L, TT.sat_ret, TT.sat_ite, TT.sat_ob, TT.sat_next, TT.sat_stuck, put_i, put_b, put_d, put_fi, put_fb, put_fd, Ob.ok, B.ev, E.ev, X.ev, AL.ev, cmp_t, cmp_f, arEv, V.plain, V2.plain, S.plain, S0.plain, V.val, V2.val, S.val, S0.val, bV, iV, List.all_cons, List.all_nil, Bool.and_true, Bool.and_self, envOf_i, envOf_b, envOf_d, List.map_cons, List.map_nil, true_and, Bool.not_eq_true', Bool.not_eq_false', Bool.not_not, Bool.and_eq_true, and_f, cell_lg, cell_lb, cell_lr, cmpP, val_i, val_b, val_d, aget, Nat.reduceBEq, beq_self_eq_true, Bool.false_eq_true, if_true, if_false, Nat.reduceLT, Nat.reduceSub, Nat.sub_self, Nat.lt_irrefl]
  generalize hr0 : rAt ds 0 = r at hlen ⊢
  have hP : secsL ds = secsB r := by rw [secsL, hr0]
  rw [hP]
  refine ⟨fun h => ?_, fun h => ?_⟩
  · rw [secsB, decide_eq_false (by omega), Bool.and_false]
  have h12 : decide (r.length ≤ 12) = true := decide_eq_true (by omega)
  have hS : secsB r = secN r r.length 0 := by rw [secsB, h12, Bool.and_true]
  rw [hS]
  refine TT.sat_loop (fun v => ∃ i : Nat, v.i 0 = i ∧ i ≤ r.length ∧ secN r (r.length - i) i = secN r r.length 0 ∧ ∀ k : Nat, k < i → secRow r k = true) (fun v => r.length - (v.i 0).toNat)
    ⟨0, by simp [val_i, aget, E.ev], by omega, rfl, fun k hk => by omega⟩ (fun v hv => ?_)
  obtain ⟨i, i0, i1, i2, i3⟩ := hv
  simp only [TT.sat_ret, TT.sat_ite, TT.sat_ob, TT.sat_next, TT.sat_stuck, put_i, put_b, put_d, put_fi, put_fb, put_fd, Ob.ok, B.ev, E.ev, X.ev, AL.ev, cmp_t, cmp_f, arEv, V.plain, V2.plain, S.plain, S0.plain, V.val, V2.val, S.val, S0.val, bV, iV, List.all_cons, List.all_nil, Bool.and_true, Bool.and_self, envOf_i, envOf_b, envOf_d, List.map_cons, List.map_nil, true_and, Bool.not_eq_true', Bool.not_eq_false', Bool.not_not, Bool.and_eq_true, and_f, cell_lg, cell_lb, cell_lr, cmpP, val_i, val_b, val_d, aget, Nat.reduceBEq, beq_self_eq_true, Bool.false_eq_true, if_true, if_false, Nat.reduceLT, Nat.reduceSub, Nat.sub_self, Nat.lt_irrefl, i0, hr0, KWb73, KWb99, KWb100, sec_six]
  refine ⟨fun hc => ?_, fun hc => ?_⟩
  · have hi : i < r.length := by omega
    obtain ⟨f, hf⟩ : ∃ f, r.length - i = f + 1 := ⟨r.length - i - 1, by omega⟩
    rw [hf, secN] at i2
    refine ⟨by omega, by omega, fun p => ?_, fun p => ?_⟩
    · rw [← i2, secRow, p]; rfl
    have hd := sec_dir p
    refine TT.sat_loop (fun v => ∃ k : Nat, v.i 0 = k ∧ k ≤ i ∧ (innN r i (i - k) k && secN r f (i + 1)) = secN r r.length 0) (fun v => i - (v.i 0).toNat)
      ⟨0, by simp [val_i, aget, E.ev], by omega, by rw [← i2, secRow, p]; rfl⟩ (fun u hu => ?_)
    obtain ⟨k, k0, k1, k2⟩ := hu
    simp only [TT.sat_ret, TT.sat_ite, TT.sat_ob, TT.sat_next, TT.sat_stuck, put_i, put_b, put_d, put_fi, put_fb, put_fd, Ob.ok, B.ev, E.ev, X.ev, AL.ev, cmp_t, cmp_f, arEv, V.plain, V2.plain, S.plain, S0.plain, V.val, V2.val, S.val, S0.val, bV, iV, List.all_cons, List.all_nil, Bool.and_true, Bool.and_self, envOf_i, envOf_b, envOf_d, List.map_cons, List.map_nil, true_and, Bool.not_eq_true', Bool.not_eq_false', Bool.not_not, Bool.and_eq_true, and_f, cell_lg, cell_lb, cell_lr, cmpP, val_i, val_b, val_d, aget, Nat.reduceBEq, beq_self_eq_true, Bool.false_eq_true, if_true, if_false, Nat.reduceLT, Nat.reduceSub, Nat.sub_self, Nat.lt_irrefl, i0, k0, hr0, KWb73, KWb99, KWb100, sec_six, hasR_six, dir_two]
    refine ⟨fun hk => ?_, fun hk => ?_⟩
    · have hki : k < i := by omega
      have hdk := sec_dir (i3 k hki)
      obtain ⟨g, hg⟩ : ∃ g, i - k = g + 1 := ⟨i - k - 1, by omega⟩
      rw [hg, innN, hasRow] at k2
      refine ⟨by omega, by omega, by omega, by omega, by omega, by omega, hd.1, hd.2, hdk.1, fun q => ?_, fun q => ⟨by omega, by omega, by omega, by omega, by omega, by omega, hdk.1, hdk.2, hd.1, fun q' => ?_, fun q' => ⟨⟨k + 1, ?_, by omega, ?_⟩, ?_⟩⟩⟩
      · rw [← k2, q]; rfl
      · rw [← k2, q, q']; rfl
      · rw [wrap_in _ (by omega) (by omega)]; rfl
      · rw [show i - (k + 1) = g by omega, ← k2, q, q']; rfl
      · rw [wrap_in _ (by omega) (by omega)]; omega
    · have : i - k = 0 := by omega
      rw [this, innN, Bool.true_and] at k2
      refine ⟨⟨i + 1, ?_, by omega, ?_, fun j hj => ?_⟩, ?_⟩
      · rw [wrap_in _ (by omega) (by omega)]; rfl
      · rw [show r.length - (i + 1) = f by omega]; exact k2
      · by_cases e : j = i
        · subst e; exact p
        · exact i3 j (by omega)
      · rw [wrap_in _ (by omega) (by omega)]; omega
  · have : r.length - i = 0 := by omega
    rw [this, secN] at i2
    rw [← i2]
def cR5L := ctD [secs] fun al => .ret (bV (bF 75 secsL al))
theorem cR5L_ok {ρ : Env} (h : Sees ρ KG 80) : CtOne Tryz.prog ρ 33 cR5L :=
  ctD_ok gR5L (fun _ => rfl) (fun al => by simp only [iV, bV, V.s0, V.val, V2.val, S.val, S0.val, bF_ev (s := 75) (f := secsL) (fun l => by rw [(h 75 l (by decide)).2]; simp only [KG, KF, KE, KD, KC, KB, KA, K9, K8, K7, K6, K5, K])]; try rfl)
def ctR7 : Ct := (33, cR5L) :: ctR6
theorem ctR7_ok {ρ : Env} (h : Sees ρ KW 101) : CtOk Tryz.prog ρ ctR7 := .cons (cR5L_ok (KW_KG h)) (ctR6_ok h)
end Go.Proofs.YtglepdhapakmbaaGreat
/- Chapter 38: tree of the reference's valid features. -/
namespace Go.Proofs.YtglepdhapakmbaaGreat
open Go.RowKit
-- term trR7D: call Tryz.prog ctR7 (Lt.of []) 100 28 (symArgs 0 [it]) [] 0
def trR7D : TT OpR :=
(.ite (.cmp .eql (.var 0) (.lit 1))
 (.ret ((.v (.one (.z (.bool (.lit true))))), [], 0))
 (.ite (.cmp .eql (.var 0) (.lit 2))
 (.ret ((.v (.one (.z (.bool (.lit true))))), [], 0))
 (.ret ((.v (.one (.z (.bool (.cmp .eql (.var 0) (.lit 5)))))), [], 0))))
-- end trR7D
set_option maxRecDepth 100000 in
theorem trR7D_is : T.norm 0 (call Tryz.prog ctR7 (Lt.of []) 100 28 (symArgs 0 [it]) [] 0) TT.ret = trR7D := by kernel_rfl
theorem trR7D_low : trR7D.low 1000 = true := by kernel_rfl
-- term trR7V: call Tryz.prog ctR7 (Lt.of []) 100 6 (symArgs 0 [feat]) [] 0
def trR7V : TT OpR :=
(.ite (.cmp .lss (.var 0) (.lit 1))
 (.ret ((.v (.one (.z (.bool (.lit false))))), [], 1))
 (.ite (.cmp .gtr (.var 0) (.lit 100000))
 (.ret ((.v (.one (.z (.bool (.lit false))))), [], 1))
 (.ite (.cmp .lss (.var 7) (.lit 0))
 (.ret ((.v (.one (.z (.bool (.lit false))))), [], 1))
 (.ite (.cmp .gtr (.var 7) (.lit 999))
 (.ret ((.v (.one (.z (.bool (.lit false))))), [], 1))
 (.ite (.cmp .lss (.var 6) (.lit 0))
 (.ret ((.v (.one (.z (.bool (.lit false))))), [], 1))
 (.ite (.cmp .gtr (.var 6) (.lit 100000))
 (.ret ((.v (.one (.z (.bool (.lit false))))), [], 1))
 (.ite (.cmp .lss (.var 4) (.lit 0))
 (.ret ((.v (.one (.z (.bool (.lit false))))), [], 1))
 (.ite (.cmp .gtr (.var 4) (.lit 100000))
 (.ret ((.v (.one (.z (.bool (.lit false))))), [], 1))
 (.ite (.cmp .eql (.var 1) (.lit 1))
 (.ite (.fn 3 (.i (.var 2) (.i (.var 3) .nil)))
 (.ite (.cmp .geq (.ar .sub .i64 (.var 2) (.var 4)) (.lit (-1000000)))
 (.ite (.cmp .leq (.ar .add .i64 (.var 2) (.var 4)) (.lit 1000000))
 (.ite (.cmp .geq (.ar .sub .i64 (.var 3) (.var 4)) (.lit (-1000000)))
 (.ite (.cmp .leq (.ar .add .i64 (.var 3) (.var 4)) (.lit 1000000))
 (.ite (.cmp .eql (.len (.var 5)) (.lit 0))
 (.ret ((.v (.one (.z (.bool (.cmp .eql (.len (.var 8)) (.lit 0)))))), [], 1))
 (.ret ((.v (.one (.z (.bool (.lit false))))), [], 1)))
 (.ret ((.v (.one (.z (.bool (.lit false))))), [], 1)))
 (.ret ((.v (.one (.z (.bool (.lit false))))), [], 1)))
 (.ret ((.v (.one (.z (.bool (.lit false))))), [], 1)))
 (.ret ((.v (.one (.z (.bool (.lit false))))), [], 1)))
 (.ret ((.v (.one (.z (.bool (.lit false))))), [], 1)))
 (.ite (.cmp .eql (.var 1) (.lit 2))
 (.ite (.fn 3 (.i (.var 2) (.i (.var 3) .nil)))
 (.ite (.cmp .geq (.ar .sub .i64 (.var 2) (.var 4)) (.lit (-1000000)))
 (.ite (.cmp .leq (.ar .add .i64 (.var 2) (.var 4)) (.lit 1000000))
 (.ite (.cmp .geq (.ar .sub .i64 (.var 3) (.var 4)) (.lit (-1000000)))
 (.ite (.cmp .leq (.ar .add .i64 (.var 3) (.var 4)) (.lit 1000000))
 (.ite (.cmp .eql (.len (.var 5)) (.lit 0))
 (.ret ((.v (.one (.z (.bool (.cmp .eql (.len (.var 8)) (.lit 0)))))), [], 1))
 (.ret ((.v (.one (.z (.bool (.lit false))))), [], 1)))
 (.ret ((.v (.one (.z (.bool (.lit false))))), [], 1)))
 (.ret ((.v (.one (.z (.bool (.lit false))))), [], 1)))
 (.ret ((.v (.one (.z (.bool (.lit false))))), [], 1)))
 (.ret ((.v (.one (.z (.bool (.lit false))))), [], 1)))
 (.ret ((.v (.one (.z (.bool (.lit false))))), [], 1)))
 (.ite (.cmp .eql (.var 1) (.lit 5))
 (.ite (.fn 3 (.i (.var 2) (.i (.var 3) .nil)))
 (.ite (.cmp .geq (.ar .sub .i64 (.var 2) (.var 4)) (.lit (-1000000)))
 (.ite (.cmp .leq (.ar .add .i64 (.var 2) (.var 4)) (.lit 1000000))
 (.ite (.cmp .geq (.ar .sub .i64 (.var 3) (.var 4)) (.lit (-1000000)))
 (.ite (.cmp .leq (.ar .add .i64 (.var 3) (.var 4)) (.lit 1000000))
 (.ite (.cmp .eql (.len (.var 5)) (.lit 0))
 (.ret ((.v (.one (.z (.bool (.cmp .eql (.len (.var 8)) (.lit 0)))))), [], 1))
 (.ret ((.v (.one (.z (.bool (.lit false))))), [], 1)))
 (.ret ((.v (.one (.z (.bool (.lit false))))), [], 1)))
 (.ret ((.v (.one (.z (.bool (.lit false))))), [], 1)))
 (.ret ((.v (.one (.z (.bool (.lit false))))), [], 1)))
 (.ret ((.v (.one (.z (.bool (.lit false))))), [], 1)))
 (.ret ((.v (.one (.z (.bool (.lit false))))), [], 1)))
 (.ite (.cmp .eql (.var 1) (.lit 3))
 (.ite (.fn 69 (.x (.var 5) .nil))
 (.ite (.and (.cmp .eql (.var 2) (.lit 0)) (.cmp .eql (.var 3) (.lit 0)))
 (.ite (.cmp .eql (.var 4) (.lit 0))
 (.ite (.cmp .eql (.len (.var 8)) (.lit 0))
 (.ite (.cmp .eql (.var 1) (.lit 3))
 (.ret ((.v (.one (.z (.bool (.lit true))))), [], 1))
 (.ret ((.v (.one (.z (.bool (.cmp .eql (.var 6) (.lit 0)))))), [], 1)))
 (.ret ((.v (.one (.z (.bool (.lit false))))), [], 1)))
 (.ret ((.v (.one (.z (.bool (.lit false))))), [], 1)))
 (.ret ((.v (.one (.z (.bool (.lit false))))), [], 1)))
 (.ret ((.v (.one (.z (.bool (.lit false))))), [], 1)))
 (.ite (.cmp .eql (.var 1) (.lit 6))
 (.ite (.fn 69 (.x (.var 5) .nil))
 (.ite (.and (.cmp .eql (.var 2) (.lit 0)) (.cmp .eql (.var 3) (.lit 0)))
 (.ite (.cmp .eql (.var 4) (.lit 0))
 (.ite (.cmp .eql (.len (.var 8)) (.lit 0))
 (.ite (.cmp .eql (.var 1) (.lit 3))
 (.ret ((.v (.one (.z (.bool (.lit true))))), [], 1))
 (.ret ((.v (.one (.z (.bool (.cmp .eql (.var 6) (.lit 0)))))), [], 1)))
 (.ret ((.v (.one (.z (.bool (.lit false))))), [], 1)))
 (.ret ((.v (.one (.z (.bool (.lit false))))), [], 1)))
 (.ret ((.v (.one (.z (.bool (.lit false))))), [], 1)))
 (.ret ((.v (.one (.z (.bool (.lit false))))), [], 1)))
 (.ite (.cmp .eql (.var 1) (.lit 4))
 (.ite (.fn 3 (.i (.var 2) (.i (.var 3) .nil)))
 (.ite (.fn 75 (.x (.var 8) .nil))
 (.ite (.cmp .eql (.var 4) (.lit 0))
 (.ite (.cmp .eql (.var 6) (.lit 0))
 (.ret ((.v (.one (.z (.bool (.cmp .eql (.len (.var 5)) (.lit 0)))))), [], 1))
 (.ret ((.v (.one (.z (.bool (.lit false))))), [], 1)))
 (.ret ((.v (.one (.z (.bool (.lit false))))), [], 1)))
 (.ret ((.v (.one (.z (.bool (.lit false))))), [], 1)))
 (.ret ((.v (.one (.z (.bool (.lit false))))), [], 1)))
 (.ret ((.v (.one (.z (.bool (.lit false))))), [], 1))))))))))))))))
-- end trR7V
set_option maxRecDepth 100000 in
theorem trR7V_is : T.norm 0 (call Tryz.prog ctR7 (Lt.of []) 100 6 (symArgs 0 [feat]) [] 0) TT.ret = trR7V := by kernel_rfl
theorem trR7V_low : trR7V.low 1000 = true := by kernel_rfl
end Go.Proofs.YtglepdhapakmbaaGreat
/- Chapter 38: the reference's valid features. -/
namespace Go.Proofs.YtglepdhapakmbaaGreat
open Go.RowKit
theorem KWb3 (W : World) (ds l : List D) : (envOf KW W ds).fb 3 l = placeL l := by simp only [envOf, KW, KV, KU, KT, KR, KG, KF, KE, KD, KC, KB, KA, K9, K8, K7, K6, K5, K]
theorem KWb69 (W : World) (ds l : List D) : (envOf KW W ds).fb 69 l = polyL l := by simp only [envOf, KW, KV, KU, KT, KR, KG, KF, KE, KD, KC, KB, KA, K9, K8, K7, K6, K5, K]
theorem KWb75 (W : World) (ds l : List D) : (envOf KW W ds).fb 75 l = secsL l := by simp only [envOf, KW, KV, KU, KT, KR, KG, KF, KE, KD, KC, KB, KA, K9, K8, K7, K6, K5, K]
def discL (ds : List D) : Bool := decide (iAt ds 0 = 1 ∨ iAt ds 0 = 2 ∨ iAt ds 0 = 5)
theorem gR7D : Gives Tryz.prog 28 [it] (fun ds => .bool (discL ds)) := by
  refine GivesIf.all (fn_gives KW (by kernel_rfl) (fun ρ h => ctR7_ok (Sees.of h 101)) (by kernel_rfl) trR7D_is trR7D_low (by decide) (fun W vals ds hr _ => ?_))
  simp only [trR7D, TT.sat_ret, TT.sat_ite, TT.sat_ob, TT.sat_next, TT.sat_stuck, put_i, put_b, put_d, put_fi, put_fb, put_fd, Ob.ok, B.ev, E.ev, X.ev, AL.ev, cmp_t, cmp_f, arEv, V.plain, V2.plain, S.plain, S0.plain, V.val, V2.val, S.val, S0.val, bV, iV, List.all_cons, List.all_nil, Bool.and_true, Bool.and_self, envOf_i, envOf_b, envOf_d, List.map_cons, List.map_nil, true_and, Bool.not_eq_true', Bool.not_eq_false', Bool.not_not, Bool.and_eq_true, and_f, cell_lg, cell_lb, cell_lr, cmpP, val_i, val_b, val_d, aget, Nat.reduceBEq, beq_self_eq_true, Bool.false_eq_true, if_true, if_false, Nat.reduceLT, Nat.reduceSub, Nat.sub_self, Nat.lt_irrefl]
  simp only [discL]
  (repeat' (first | (intro h; skip) | (refine And.intro ?_ ?_)))
  all_goals (congr 1; rw [Bool.eq_iff_iff]; try rw [cmp_t])
  all_goals (simp only [cmpP, decide_eq_true_eq, Bool.false_eq_true, false_iff, true_iff]; omega)
set_option maxHeartbeats 4000000 in
theorem gR7V : Gives Tryz.prog 6 [feat] (fun ds => .bool (featL ds)) := by
  refine GivesIf.all (fn_gives KW (by kernel_rfl) (fun ρ h => ctR7_ok (Sees.of h 101)) (by kernel_rfl) trR7V_is trR7V_low (by decide) (fun W vals ds hr _ => ?_))
  simp only [trR7V, TT.sat_ret, TT.sat_ite, TT.sat_ob, TT.sat_next, TT.sat_stuck, put_i, put_b, put_d, put_fi, put_fb, put_fd, Ob.ok, B.ev, E.ev, X.ev, AL.ev, cmp_t, cmp_f, arEv, V.plain, V2.plain, S.plain, S0.plain, V.val, V2.val, S.val, S0.val, bV, iV, List.all_cons, List.all_nil, Bool.and_true, Bool.and_self, envOf_i, envOf_b, envOf_d, List.map_cons, List.map_nil, true_and, Bool.not_eq_true', Bool.not_eq_false', Bool.not_not, Bool.and_eq_true, and_f, cell_lg, cell_lb, cell_lr, cmpP, val_i, val_b, val_d, aget, Nat.reduceBEq, beq_self_eq_true, Bool.false_eq_true, if_true, if_false, Nat.reduceLT, Nat.reduceSub, Nat.sub_self, Nat.lt_irrefl, KWb3, KWb69, KWb75, place_two, poly_one, secs_one]
  simp only [featL, featB]
  generalize iAt ds 0 = id
  generalize iAt ds 1 = kind
  generalize iAt ds 2 = x
  generalize iAt ds 3 = y
  generalize iAt ds 4 = rad
  generalize rAt ds 5 = area
  generalize iAt ds 6 = depth
  generalize iAt ds 7 = sym
  generalize rAt ds 8 = sc
  have E0 := @placeB_iff x y
  have E1 := @placeB_iff (x - rad) (y - rad)
  have E2 := @placeB_iff (x + rad) (y + rad)
  have W1 : placeB x y = true → 0 ≤ rad → rad ≤ 100000 → IntKind.i64.wrap (x - rad) = x - rad ∧ IntKind.i64.wrap (y - rad) = y - rad ∧ IntKind.i64.wrap (x + rad) = x + rad ∧ IntKind.i64.wrap (y + rad) = y + rad := fun h _ _ => by
    rw [placeB_iff] at h
    exact ⟨wrap_in _ (by omega) (by omega), wrap_in _ (by omega) (by omega), wrap_in _ (by omega) (by omega), wrap_in _ (by omega) (by omega)⟩
  (repeat' (first | (intro h; skip) | (refine And.intro ?_ ?_)))
  all_goals (refine congrArg Value.bool ?_; rw [Bool.eq_iff_iff]; simp only [cmp_t, cmpP, decide_eq_true_eq, Bool.false_eq_true, false_iff, featP])
  all_goals clear hr
  all_goals grind
def KX : Interp where
  fi n l := KW.fi n l
  fb n l := match n with | 101 => discL l | n => KW.fb n l
  fd _ _ := []
theorem KX_KW {ρ : Env} (h : Sees ρ KX 102) : Sees ρ KW 101 := h.trans (by decide) fun n l hn => by
  refine ⟨?_, ?_⟩
  ·
    rfl
  ·
    simp only [KX]
    split <;> first | omega | rfl
def cR7V := ctD [feat] fun al => .ret (bV (bF 76 featL al))
theorem cR7V_ok {ρ : Env} (h : Sees ρ KG 80) : CtOne Tryz.prog ρ 6 cR7V :=
  ctD_ok gR7V (fun _ => rfl) (fun al => by simp only [iV, bV, V.s0, V.val, V2.val, S.val, S0.val, bF_ev (s := 76) (f := featL) (fun l => by rw [(h 76 l (by decide)).2]; simp only [KG, KF, KE, KD, KC, KB, KA, K9, K8, K7, K6, K5, K])]; try rfl)
def cR7D := ctD [it] fun al => .ret (bV (bF 101 discL al))
theorem cR7D_ok {ρ : Env} (h : Sees ρ KX 102) : CtOne Tryz.prog ρ 28 cR7D :=
  ctD_ok gR7D (fun _ => rfl) (fun al => by simp only [iV, bV, V.s0, V.val, V2.val, S.val, S0.val, bF_ev (s := 101) (f := discL) (fun l => by rw [(h 101 l (by decide)).2]; simp only [KX, KW, KV, KU, KT, KR, KG, KF, KE, KD, KC, KB, KA, K9, K8, K7, K6, K5, K])]; try rfl)
theorem KX_KG {ρ : Env} (h : Sees ρ KX 102) : Sees ρ KG 80 := KW_KG (KX_KW h)
def ctR8 : Ct := (6, cR7V) :: (28, cR7D) :: ctR7
theorem ctR8_ok {ρ : Env} (h : Sees ρ KX 102) : CtOk Tryz.prog ρ ctR8 := .cons (cR7V_ok (KX_KG h)) <| .cons (cR7D_ok h) (ctR7_ok (KX_KW h))
end Go.Proofs.YtglepdhapakmbaaGreat
