/- MX, merged: TWe, Wh, TWf, Wi, Wj. -/
import Derived.Test.YtglepdhapakmbaaGreatMQ
set_option linter.unusedSimpArgs false
set_option linter.unusedVariables false
/- Chapter 07: tree of the reference's Has. -/
namespace Go.Proofs.YtglepdhapakmbaaGreat
open Go.RowKit
-- term trR7Has: call Tryz.prog ctW4 (Lt.of []) 100 39 (symArgs 0 [feat, pt]) [] 0
def trR7Has : TT OpR :=
(.ite (.fn 101 (.i (.var 1) .nil))
 (.ret ((.v (.one (.z (.bool (.cmp .leq (.ar .add .i64 (.ar .mul .i64 (.ar .sub .i64 (.var 9) (.var 2)) (.ar .sub .i64 (.var 9) (.var 2))) (.ar .mul .i64 (.ar .sub .i64 (.var 10) (.var 3)) (.ar .sub .i64 (.var 10) (.var 3)))) (.ar .mul .i64 (.var 4) (.var 4))))))), [], 12))
 (.ite (.cmp .eql (.var 1) (.lit 3))
 (.ret ((.v (.one (.z (.bool (.cmp .geq (.fn 70 (.i (.var 9) (.i (.var 10) (.x (.var 5) .nil)))) (.lit 0)))))), [], 2))
 (.ite (.cmp .eql (.var 1) (.lit 6))
 (.ret ((.v (.one (.z (.bool (.cmp .geq (.fn 70 (.i (.var 9) (.i (.var 10) (.x (.var 5) .nil)))) (.lit 0)))))), [], 2))
 (.ret ((.v (.one (.z (.bool (.lit false))))), [], 2)))))
-- end trR7Has
set_option maxRecDepth 100000 in
theorem trR7Has_is : T.norm 0 (call Tryz.prog ctW4 (Lt.of []) 100 39 (symArgs 0 [feat, pt]) [] 0) TT.ret = trR7Has := by kernel_rfl
theorem trR7Has_low : trR7Has.low 1000 = true := by kernel_rfl
end Go.Proofs.YtglepdhapakmbaaGreat
/- Chapter 07: the reference's Has. -/
namespace Go.Proofs.YtglepdhapakmbaaGreat
open Go.RowKit
theorem KWdi70 (W : World) (ds l : List D) : (envOf KWd W ds).fi 70 l = pinR l := by simp only [envOf, KWd, KWc, KWb, KWa, KX, KW, KV, KU, KT, KR, KG, KF, KE, KD, KC]
theorem KWdb101 (W : World) (ds l : List D) : (envOf KWd W ds).fb 101 l = discL l := by simp only [envOf, KWd, KWc, KWb, KWa, KX]
theorem disc_one (k : Int) : discL [.i k] = decide (k = 1 ∨ k = 2 ∨ k = 5) := rfl
theorem near_deg (px py x y r : Int) : nearB px py x y x y r = decide (dist2 x y px py ≤ r * r) := by
  have h : dotI x y x y px py = 0 := by unfold dotI; grind
  unfold nearB
  rw [if_pos (by omega)]
theorem feat_kind {id1 k1 x1 y1 r1 d1 s1 : Int} {a1 t1 : Rows} (h : featB id1 k1 x1 y1 r1 a1 d1 s1 t1 = true) : k1 = 1 ∨ k1 = 2 ∨ k1 = 3 ∨ k1 = 4 ∨ k1 = 5 ∨ k1 = 6 := by
  have := (featB_iff.mp h).2.2.2.2
  omega
theorem cov_d7 {id1 k1 x1 y1 r1 d1 s1 px py : Int} {a1 t1 : Rows} (h : featB id1 k1 x1 y1 r1 a1 d1 s1 t1 = true) (hp : placeB px py = true) (hk : k1 = 1 ∨ k1 = 2 ∨ k1 = 5) : covX k1 x1 y1 r1 a1 px py = decide (dist2 x1 y1 px py ≤ r1 * r1) := by
  have hd := feat_disc h (by omega) (by omega)
  have := near_two (x2 := px) (y2 := py) hd.1 hp (r := r1) (by omega)
  unfold covX
  rw [if_neg (by omega), if_neg (by omega), this.1, this.2, near_deg]
  simp
theorem cov_a7 {id1 k1 x1 y1 r1 d1 s1 px py : Int} {a1 t1 : Rows} (h : featB id1 k1 x1 y1 r1 a1 d1 s1 t1 = true) (hp : placeB px py = true) (hk : k1 = 3 ∨ k1 = 6) : covX k1 x1 y1 r1 a1 px py = cmpEv BinOp.geq (pinR [.i px, .i py, .l a1]) 0 := by
  have ha := feat_area h hk
  have hE : pinE [.i px, .i py, .l a1] = 0 := by
    have : pinO [.i px, .i py, .l a1] = true := by show (placeB px py && polyB a1) = true; rw [hp, ha]; rfl
    unfold pinE; rw [this]; rfl
  unfold covX
  rw [if_neg (by omega), if_pos hk, hE, Bool.eq_iff_iff, cmp_t, decide_eq_true_eq]
  simp only [cmpP, ge_iff_le, true_and]
def covXL (ds : List D) : Bool := covX (iAt ds 1) (iAt ds 2) (iAt ds 3) (iAt ds 4) (rAt ds 5) (iAt ds 9) (iAt ds 10)
def hasO7 (ds : List D) : Bool := featB (iAt ds 0) (iAt ds 1) (iAt ds 2) (iAt ds 3) (iAt ds 4) (rAt ds 5) (iAt ds 6) (iAt ds 7) (rAt ds 8) && placeB (iAt ds 9) (iAt ds 10)
theorem gR7Has : GivesIf Tryz.prog 39 [feat, pt] (fun ds => hasO7 ds = true) (fun ds => .bool (covXL ds)) := by
  refine fn_gives KWd (by kernel_rfl) (fun ρ h => ctW4_ok (Sees.of h 140)) (by kernel_rfl) trR7Has_is trR7Has_low (by decide) (fun W vals ds hr hok => ?_)
  rw [hasO7, Bool.and_eq_true] at hok
  obtain ⟨hF, hp⟩ := hok
  simp only [trR7Has, TT.sat_ret, TT.sat_ite, TT.sat_ob, TT.sat_next, TT.sat_stuck, put_i, put_b, put_d, put_fi, put_fb, put_fd, Ob.ok, B.ev, E.ev, X.ev, AL.ev, cmp_t, cmp_f, arEv, V.plain, V2.plain, S.plain, S0.plain, V.val, V2.val, S.val, S0.val, bV, iV, List.all_cons, List.all_nil, Bool.and_true, Bool.and_self, envOf_i, envOf_b, envOf_d, List.map_cons, List.map_nil, true_and, Bool.not_eq_true', Bool.not_eq_false', Bool.not_not, Bool.and_eq_true, and_f, cell_lg, cell_lb, cell_lr, cmpP, val_i, val_b, val_d, aget, Nat.reduceBEq, beq_self_eq_true, Bool.false_eq_true, if_true, if_false, Nat.reduceLT, Nat.reduceSub, Nat.sub_self, Nat.lt_irrefl, KWdb101, KWdi70, disc_one]
  have hk := feat_kind hF
  have HD := cov_d7 hF hp
  have HA := cov_a7 hF hp
  have hd := feat_disc hF
  have hL : covXL ds = covX (iAt ds 1) (iAt ds 2) (iAt ds 3) (iAt ds 4) (rAt ds 5) (iAt ds 9) (iAt ds 10) := rfl
  rw [hL]
  clear hr hL hF
  rw [decide_eq_true_eq, decide_eq_false_iff_not]
  refine ⟨fun h => ?_, fun h => ⟨fun h3 => ?_, fun h3 => ⟨fun h6 => ?_, fun h6 => ?_⟩⟩⟩
  · rw [HD h]
    obtain ⟨q, r0, r1⟩ := hd (by omega) (by omega)
    rw [placeB_iff] at q hp
    have d1 := w_mul hp.1 q.1 hp.1 q.1
    have d2 := w_mul hp.2 q.2 hp.2 q.2
    have d3 := w_sq (d := iAt ds 4) (by omega)
    simp only [w_sub hp.1 q.1, w_sub hp.2 q.2, d1.1, d2.1, w_add hp.1 q.1 hp.1 q.1 hp.2 q.2 hp.2 q.2, d3.1]
    rfl
  · rw [HA (by omega)]
  · rw [HA (by omega)]
  · have h4 : iAt ds 1 = 4 := by omega
    unfold covX
    rw [if_pos h4]
def KWe : Interp where
  fi n l := KWd.fi n l
  fb n l := match n with | 140 => covXL l | 141 => hasO7 l | n => KWd.fb n l
  fd _ _ := []
theorem KWe_KWd {ρ : Env} (h : Sees ρ KWe 150) : Sees ρ KWd 140 := h.trans (by decide) fun n l hn => by
  refine ⟨?_, ?_⟩
  ·
    rfl
  ·
    simp only [KWe]
    split <;> first | omega | rfl
def cR7Has := ctD [feat, pt] fun al => .ob (.tru (bF 141 hasO7 al)) (.ret (bV (bF 140 covXL al)))
theorem cR7Has_ok {ρ : Env} (h : Sees ρ KWe 150) : CtOne Tryz.prog ρ 39 cR7Has := by
  refine ctD_if gR7Has (fun al v hv => ?_)
  obtain ⟨ho, hv⟩ := hv
  obtain rfl := res_ret hv
  refine ⟨rfl, ?_, ?_⟩
  · have h1 : (bF 141 hasO7 al).ev ρ = true := ho
    rw [bF_ev (s := 141) (f := hasO7) (fun l => by rw [(h 141 l (by decide)).2]; simp only [KWe])] at h1
    exact h1
  · simp only [iV, bV, V.s0, V.val, V2.val, S.val, S0.val, bF_ev (s := 140) (f := covXL) (fun l => by rw [(h 140 l (by decide)).2]; simp only [KWe])]; try rfl
def ctW5 : Ct := (39, cR7Has) :: ctW4
theorem ctW5_ok {ρ : Env} (h : Sees ρ KWe 150) : CtOk Tryz.prog ρ ctW5 := .cons (cR7Has_ok h) (ctW4_ok (KWe_KWd h))
end Go.Proofs.YtglepdhapakmbaaGreat
/- Chapter 07: trees of the reference's Contains, Meets, Shown, Box, Covers. -/
namespace Go.Proofs.YtglepdhapakmbaaGreat
open Go.RowKit
-- term trR7Con: call Tryz.prog ctW5 (Lt.of []) 100 40 (symArgs 0 [feat, feat]) [] 0
def trR7Con : TT OpR :=
(.ite (.cmp .eql (.var 10) (.lit 4))
 (.ret ((.v (.one (.z (.bool (.lit true))))), [], 2))
 (.ite (.cmp .eql (.var 1) (.lit 4))
 (.ret ((.v (.one (.z (.bool (.lit false))))), [], 2))
 (.ite (.fn 101 (.i (.var 1) .nil))
 (.ite (.fn 101 (.i (.var 10) .nil))
 (.ite (.cmp .leq (.var 13) (.var 4))
 (.ret ((.v (.one (.z (.bool (.cmp .leq (.ar .add .i64 (.ar .mul .i64 (.ar .sub .i64 (.var 2) (.var 11)) (.ar .sub .i64 (.var 2) (.var 11))) (.ar .mul .i64 (.ar .sub .i64 (.var 3) (.var 12)) (.ar .sub .i64 (.var 3) (.var 12)))) (.ar .mul .i64 (.ar .sub .i64 (.var 4) (.var 13)) (.ar .sub .i64 (.var 4) (.var 13)))))))), [], 14))
 (.ret ((.v (.one (.z (.bool (.lit false))))), [], 4)))
 (.ite (.fn 101 (.i (.var 1) .nil))
 (.loop 0 3000 ⟨[(0, (.lit 0))], [], []⟩
 (.ite (.cmp .lss (.var 3000) (.len (.var 14)))
 (.ob (.tru (.cmp .leq (.lit 0) (.var 3000)))
 (.ob (.tru (.cmp .lss (.var 3000) (.len (.var 14))))
 (.ob (.tru (.fn 141 (.i (.var 0) (.i (.var 1) (.i (.var 2) (.i (.var 3) (.i (.var 4) (.x (.var 5) (.i (.var 6) (.i (.var 7) (.x (.var 8) (.i (.rd (.var 14) (.var 3000) 0) (.i (.rd (.var 14) (.var 3000) 1) .nil)))))))))))))
 (.ite (.not (.fn 140 (.i (.var 0) (.i (.var 1) (.i (.var 2) (.i (.var 3) (.i (.var 4) (.x (.var 5) (.i (.var 6) (.i (.var 7) (.x (.var 8) (.i (.rd (.var 14) (.var 3000) 0) (.i (.rd (.var 14) (.var 3000) 1) .nil)))))))))))))
 (.ret ((.v (.one (.z (.bool (.lit false))))), [], 3))
 (.next 0 ⟨[(0, (.ar .add .i64 (.var 3000) (.lit 1)))], [], []⟩)))))
 (.ret ((.v (.one (.z (.bool (.lit true))))), [], 3))))
 (.ite (.fn 101 (.i (.var 10) .nil))
 (.ret ((.v (.one (.z (.bool (.cmp .eql (.fn 115 (.x (.var 5) (.i (.var 11) (.i (.var 12) (.i (.var 13) .nil))))) (.lit 1)))))), [], 2))
 (.ret ((.v (.one (.z (.bool (.fn 132 (.x (.var 5) (.x (.var 14) .nil))))))), [], 2)))))
 (.ite (.fn 101 (.i (.var 1) .nil))
 (.loop 0 3000 ⟨[(0, (.lit 0))], [], []⟩
 (.ite (.cmp .lss (.var 3000) (.len (.var 14)))
 (.ob (.tru (.cmp .leq (.lit 0) (.var 3000)))
 (.ob (.tru (.cmp .lss (.var 3000) (.len (.var 14))))
 (.ob (.tru (.fn 141 (.i (.var 0) (.i (.var 1) (.i (.var 2) (.i (.var 3) (.i (.var 4) (.x (.var 5) (.i (.var 6) (.i (.var 7) (.x (.var 8) (.i (.rd (.var 14) (.var 3000) 0) (.i (.rd (.var 14) (.var 3000) 1) .nil)))))))))))))
 (.ite (.not (.fn 140 (.i (.var 0) (.i (.var 1) (.i (.var 2) (.i (.var 3) (.i (.var 4) (.x (.var 5) (.i (.var 6) (.i (.var 7) (.x (.var 8) (.i (.rd (.var 14) (.var 3000) 0) (.i (.rd (.var 14) (.var 3000) 1) .nil)))))))))))))
 (.ret ((.v (.one (.z (.bool (.lit false))))), [], 3))
 (.next 0 ⟨[(0, (.ar .add .i64 (.var 3000) (.lit 1)))], [], []⟩)))))
 (.ret ((.v (.one (.z (.bool (.lit true))))), [], 3))))
 (.ite (.fn 101 (.i (.var 10) .nil))
 (.ret ((.v (.one (.z (.bool (.cmp .eql (.fn 115 (.x (.var 5) (.i (.var 11) (.i (.var 12) (.i (.var 13) .nil))))) (.lit 1)))))), [], 2))
 (.ret ((.v (.one (.z (.bool (.fn 132 (.x (.var 5) (.x (.var 14) .nil))))))), [], 2)))))))
-- end trR7Con
def trR7Con_h : List (Nat × St) := [
(2, ⟨(List.append [(.v (.agg [(.z (.int .i64 (.var 0))), (.z (.int .i64 (.var 1))), (.z (.int .i64 (.var 2))), (.z (.int .i64 (.var 3))), (.z (.int .i64 (.var 4))), (.z (.ext [(.int .i64), (.int .i64)] (.var 5) false)), (.z (.int .i64 (.var 6))), (.z (.int .i64 (.var 7))), (.z (.ext [(.int .i64), (.int .i64), (.int .i64), (.int .i64), (.int .i64), (.int .i64)] (.var 8) false))])), (.v (.agg [(.z (.int .i64 (.var 9))), (.z (.int .i64 (.var 10))), (.z (.int .i64 (.var 11))), (.z (.int .i64 (.var 12))), (.z (.int .i64 (.var 13))), (.z (.ext [(.int .i64), (.int .i64)] (.var 14) false)), (.z (.int .i64 (.var 15))), (.z (.int .i64 (.var 16))), (.z (.ext [(.int .i64), (.int .i64), (.int .i64), (.int .i64), (.int .i64), (.int .i64)] (.var 17) false))])), (.v (.one (.z (.ptr 0 0)))), (.v (.one (.z (.ptr 1 0)))), (.v (.one (.z (.bool (.lit false))))), (.v (.one (.z (.int .i64 (.var 3000)))))] (List.append (List.replicate 4 V.any) (List.append [(.v (.one (.z (.ptr 1 1)))), (.v (.one (.z (.int .i64 (.var 10))))), (.v (.one (.z (.bool (.cmp .eql (.var 10) (.lit 4)))))), (.v (.one (.z (.ptr 0 1)))), (.v (.one (.z (.int .i64 (.var 1))))), (.v (.one (.z (.bool (.cmp .eql (.var 1) (.lit 4)))))), (.v (.one (.z (.ptr 0 1)))), (.v (.one (.z (.int .i64 (.var 1))))), (.v (.one (.z (.bool (.fn 101 (.i (.var 1) .nil)))))), (.v (.one (.z (.bool (.lit true))))), (.v (.one (.z (.ptr 1 1)))), (.v (.one (.z (.int .i64 (.var 10))))), (.v (.one (.z (.bool (.fn 101 (.i (.var 10) .nil)))))), (.v (.one (.z (.bool (.fn 101 (.i (.var 10) .nil))))))] (List.append (List.replicate 9 V.any) (List.append [(.v (.one (.z (.ptr 0 1)))), (.v (.one (.z (.int .i64 (.var 1))))), (.v (.one (.z (.bool (.fn 101 (.i (.var 1) .nil))))))] (List.replicate 39 V.any)))))), [(1, (.cells 27 [(.z (.int .i64 (.var 9))), (.z (.int .i64 (.var 10))), (.z (.int .i64 (.var 11))), (.z (.int .i64 (.var 12))), (.z (.int .i64 (.var 13))), (.z (.ext [(.int .i64), (.int .i64)] (.var 14) false)), (.z (.int .i64 (.var 15))), (.z (.int .i64 (.var 16))), (.z (.ext [(.int .i64), (.int .i64), (.int .i64), (.int .i64), (.int .i64), (.int .i64)] (.var 17) false))])), (0, (.cells 27 [(.z (.int .i64 (.var 0))), (.z (.int .i64 (.var 1))), (.z (.int .i64 (.var 2))), (.z (.int .i64 (.var 3))), (.z (.int .i64 (.var 4))), (.z (.ext [(.int .i64), (.int .i64)] (.var 5) false)), (.z (.int .i64 (.var 6))), (.z (.int .i64 (.var 7))), (.z (.ext [(.int .i64), (.int .i64), (.int .i64), (.int .i64), (.int .i64), (.int .i64)] (.var 8) false))]))], 3, []⟩),
(2, ⟨(List.append [(.v (.agg [(.z (.int .i64 (.var 0))), (.z (.int .i64 (.var 1))), (.z (.int .i64 (.var 2))), (.z (.int .i64 (.var 3))), (.z (.int .i64 (.var 4))), (.z (.ext [(.int .i64), (.int .i64)] (.var 5) false)), (.z (.int .i64 (.var 6))), (.z (.int .i64 (.var 7))), (.z (.ext [(.int .i64), (.int .i64), (.int .i64), (.int .i64), (.int .i64), (.int .i64)] (.var 8) false))])), (.v (.agg [(.z (.int .i64 (.var 9))), (.z (.int .i64 (.var 10))), (.z (.int .i64 (.var 11))), (.z (.int .i64 (.var 12))), (.z (.int .i64 (.var 13))), (.z (.ext [(.int .i64), (.int .i64)] (.var 14) false)), (.z (.int .i64 (.var 15))), (.z (.int .i64 (.var 16))), (.z (.ext [(.int .i64), (.int .i64), (.int .i64), (.int .i64), (.int .i64), (.int .i64)] (.var 17) false))])), (.v (.one (.z (.ptr 0 0)))), (.v (.one (.z (.ptr 1 0)))), (.v (.one (.z (.bool (.lit false))))), (.v (.one (.z (.int .i64 (.var 3000)))))] (List.append (List.replicate 4 V.any) (List.append [(.v (.one (.z (.ptr 1 1)))), (.v (.one (.z (.int .i64 (.var 10))))), (.v (.one (.z (.bool (.cmp .eql (.var 10) (.lit 4)))))), (.v (.one (.z (.ptr 0 1)))), (.v (.one (.z (.int .i64 (.var 1))))), (.v (.one (.z (.bool (.cmp .eql (.var 1) (.lit 4)))))), (.v (.one (.z (.ptr 0 1)))), (.v (.one (.z (.int .i64 (.var 1))))), (.v (.one (.z (.bool (.fn 101 (.i (.var 1) .nil)))))), (.v (.one (.z (.bool (.lit false))))), (.v (.one (.z .any))), (.v (.one (.z .any))), (.v (.one (.z .any))), (.v (.one (.z (.bool (.lit false)))))] (List.append (List.replicate 9 V.any) (List.append [(.v (.one (.z (.ptr 0 1)))), (.v (.one (.z (.int .i64 (.var 1))))), (.v (.one (.z (.bool (.fn 101 (.i (.var 1) .nil))))))] (List.replicate 39 V.any)))))), [(1, (.cells 27 [(.z (.int .i64 (.var 9))), (.z (.int .i64 (.var 10))), (.z (.int .i64 (.var 11))), (.z (.int .i64 (.var 12))), (.z (.int .i64 (.var 13))), (.z (.ext [(.int .i64), (.int .i64)] (.var 14) false)), (.z (.int .i64 (.var 15))), (.z (.int .i64 (.var 16))), (.z (.ext [(.int .i64), (.int .i64), (.int .i64), (.int .i64), (.int .i64), (.int .i64)] (.var 17) false))])), (0, (.cells 27 [(.z (.int .i64 (.var 0))), (.z (.int .i64 (.var 1))), (.z (.int .i64 (.var 2))), (.z (.int .i64 (.var 3))), (.z (.int .i64 (.var 4))), (.z (.ext [(.int .i64), (.int .i64)] (.var 5) false)), (.z (.int .i64 (.var 6))), (.z (.int .i64 (.var 7))), (.z (.ext [(.int .i64), (.int .i64), (.int .i64), (.int .i64), (.int .i64), (.int .i64)] (.var 8) false))]))], 3, []⟩)]
def trR7Con_j : List (FuncId × Nat × Nat × St) := [
]
set_option maxRecDepth 100000 in
theorem trR7Con_is : T.norm 0 (call Tryz.prog ctW5 ⟨Lt.un (Lt.of []), trR7Con_h, trR7Con_j⟩ 100 40 (symArgs 0 [feat, feat]) [] 0) TT.ret = trR7Con := by kernel_rfl
theorem trR7Con_low : trR7Con.low 1000 = true := by kernel_rfl
-- term trR7Me: call Tryz.prog ctW5 (Lt.of []) 100 43 (symArgs 0 [feat, feat]) [] 0
def trR7Me : TT OpR :=
(.ite (.cmp .eql (.var 1) (.lit 4))
 (.ret ((.v (.one (.z (.bool (.lit false))))), [], 2))
 (.ite (.cmp .eql (.var 10) (.lit 4))
 (.ret ((.v (.one (.z (.bool (.lit false))))), [], 2))
 (.ite (.fn 101 (.i (.var 1) .nil))
 (.ite (.fn 101 (.i (.var 10) .nil))
 (.ret ((.v (.one (.z (.bool (.cmp .leq (.ar .add .i64 (.ar .mul .i64 (.ar .sub .i64 (.var 11) (.var 2)) (.ar .sub .i64 (.var 11) (.var 2))) (.ar .mul .i64 (.ar .sub .i64 (.var 12) (.var 3)) (.ar .sub .i64 (.var 12) (.var 3)))) (.ar .mul .i64 (.ar .add .i64 (.var 4) (.var 13)) (.ar .add .i64 (.var 4) (.var 13)))))))), [], 12))
 (.ite (.fn 101 (.i (.var 1) .nil))
 (.ret ((.v (.one (.z (.bool (.cmp .geq (.fn 115 (.x (.var 14) (.i (.var 2) (.i (.var 3) (.i (.var 4) .nil))))) (.lit 0)))))), [], 2))
 (.ite (.fn 101 (.i (.var 10) .nil))
 (.ret ((.v (.one (.z (.bool (.cmp .geq (.fn 115 (.x (.var 5) (.i (.var 11) (.i (.var 12) (.i (.var 13) .nil))))) (.lit 0)))))), [], 2))
 (.ret ((.v (.one (.z (.bool (.fn 112 (.x (.var 5) (.x (.var 14) .nil))))))), [], 2)))))
 (.ite (.fn 101 (.i (.var 1) .nil))
 (.ret ((.v (.one (.z (.bool (.cmp .geq (.fn 115 (.x (.var 14) (.i (.var 2) (.i (.var 3) (.i (.var 4) .nil))))) (.lit 0)))))), [], 2))
 (.ite (.fn 101 (.i (.var 10) .nil))
 (.ret ((.v (.one (.z (.bool (.cmp .geq (.fn 115 (.x (.var 5) (.i (.var 11) (.i (.var 12) (.i (.var 13) .nil))))) (.lit 0)))))), [], 2))
 (.ret ((.v (.one (.z (.bool (.fn 112 (.x (.var 5) (.x (.var 14) .nil))))))), [], 2)))))))
-- end trR7Me
set_option maxRecDepth 100000 in
theorem trR7Me_is : T.norm 0 (call Tryz.prog ctW5 (Lt.of []) 100 43 (symArgs 0 [feat, feat]) [] 0) TT.ret = trR7Me := by kernel_rfl
theorem trR7Me_low : trR7Me.low 1000 = true := by kernel_rfl
-- term trR7Sh: call Tryz.prog ctW5 (Lt.of []) 100 20 (symArgs 0 [feats, pt]) [] 0
def trR7Sh : TT OpR :=
(.ite (.not (.fn 133 (.x (.var 0) .nil)))
 (.ret ((.tup [(.one (.z (.int .i64 (.lit 0)))), (.one (.z (.int .i64 (.lit 1))))]), [], 1))
 (.ite (.not (.fn 3 (.i (.var 1) (.i (.var 2) .nil))))
 (.ret ((.tup [(.one (.z (.int .i64 (.lit 0)))), (.one (.z (.int .i64 (.lit 1))))]), [], 1))
 (.loop 0 2000 ⟨[(0, (.lit 100000)), (1, (.lit 0))], [], []⟩
 (.ite (.cmp .lss (.var 2001) (.len (.var 0)))
 (.ob (.tru (.cmp .leq (.lit 0) (.var 2001)))
 (.ob (.tru (.cmp .lss (.var 2001) (.len (.var 0))))
 (.ob (.tru (.fn 141 (.i (.rd (.var 0) (.var 2001) 0) (.i (.rd (.var 0) (.var 2001) 1) (.i (.rd (.var 0) (.var 2001) 2) (.i (.rd (.var 0) (.var 2001) 3) (.i (.rd (.var 0) (.var 2001) 4) (.x (.rd (.var 0) (.var 2001) 5) (.i (.rd (.var 0) (.var 2001) 6) (.i (.rd (.var 0) (.var 2001) 7) (.x (.rd (.var 0) (.var 2001) 8) (.i (.var 1) (.i (.var 2) .nil)))))))))))))
 (.ite (.fn 140 (.i (.rd (.var 0) (.var 2001) 0) (.i (.rd (.var 0) (.var 2001) 1) (.i (.rd (.var 0) (.var 2001) 2) (.i (.rd (.var 0) (.var 2001) 3) (.i (.rd (.var 0) (.var 2001) 4) (.x (.rd (.var 0) (.var 2001) 5) (.i (.rd (.var 0) (.var 2001) 6) (.i (.rd (.var 0) (.var 2001) 7) (.x (.rd (.var 0) (.var 2001) 8) (.i (.var 1) (.i (.var 2) .nil))))))))))))
 (.ob (.tru (.cmp .leq (.lit 0) (.var 2001)))
 (.ob (.tru (.cmp .lss (.var 2001) (.len (.var 0))))
 (.next 0 ⟨[(0, (.mn (.var 2000) (.rd (.var 0) (.var 2001) 6))), (1, (.ar .add .i64 (.var 2001) (.lit 1)))], [], []⟩)))
 (.next 0 ⟨[(0, (.var 2000)), (1, (.ar .add .i64 (.var 2001) (.lit 1)))], [], []⟩)))))
 (.ret ((.tup [(.one (.z (.int .i64 (.var 2000)))), (.one (.z (.int .i64 (.lit 0))))]), [], 2))))))
-- end trR7Sh
def trR7Sh_h : List (Nat × St) := [
(1, ⟨(List.append [(.v (.one (.z (.ext [(.int .i64), (.int .i64), (.int .i64), (.int .i64), (.int .i64), (.sl [(.int .i64), (.int .i64)]), (.int .i64), (.int .i64), (.sl [(.int .i64), (.int .i64), (.int .i64), (.int .i64), (.int .i64), (.int .i64)])] (.var 0) false)))), (.v (.agg [(.z (.int .i64 (.var 1))), (.z (.int .i64 (.var 2)))])), (.v (.one (.z .any))), (.v (.one (.z (.ptr 0 0)))), (.v (.one (.z (.int .i64 (.lit 0))))), (.v (.one (.z (.int .i64 (.lit 0))))), (.v (.one (.z (.int .i64 (.var 2000))))), (.v (.one (.z (.int .i64 (.var 2001))))), (.v (.one (.z (.ext [(.int .i64), (.int .i64), (.int .i64), (.int .i64), (.int .i64), (.sl [(.int .i64), (.int .i64)]), (.int .i64), (.int .i64), (.sl [(.int .i64), (.int .i64), (.int .i64), (.int .i64), (.int .i64), (.int .i64)])] (.var 0) false)))), (.v (.one (.z (.bool (.fn 133 (.x (.var 0) .nil)))))), (.v (.one (.z (.bool (.not (.fn 133 (.x (.var 0) .nil))))))), (.v (.one (.z (.bool (.lit false))))), (.v (.agg [(.z (.int .i64 (.var 1))), (.z (.int .i64 (.var 2)))])), (.v (.one (.z (.bool (.fn 3 (.i (.var 1) (.i (.var 2) .nil))))))), (.v (.one (.z (.bool (.not (.fn 3 (.i (.var 1) (.i (.var 2) .nil)))))))), (.v (.one (.z (.bool (.not (.fn 3 (.i (.var 1) (.i (.var 2) .nil))))))))] (List.replicate 20 V.any)), [(0, (.cells 23 [(.z (.int .i64 (.var 1))), (.z (.int .i64 (.var 2)))]))], 2, []⟩)]
def trR7Sh_j : List (FuncId × Nat × Nat × St) := [
]
set_option maxRecDepth 100000 in
theorem trR7Sh_is : T.norm 0 (call Tryz.prog ctW5 ⟨Lt.un (Lt.of []), trR7Sh_h, trR7Sh_j⟩ 100 20 (symArgs 0 [feats, pt]) [] 0) TT.ret = trR7Sh := by kernel_rfl
theorem trR7Sh_low : trR7Sh.low 1000 = true := by kernel_rfl
-- term trR7Bo: call Tryz.prog ctW5 (Lt.of []) 100 22 (symArgs 0 [feat]) [] 0
def trR7Bo : TT OpR :=
(.ite (.not (.fn 76 (.i (.var 0) (.i (.var 1) (.i (.var 2) (.i (.var 3) (.i (.var 4) (.x (.var 5) (.i (.var 6) (.i (.var 7) (.x (.var 8) .nil)))))))))))
 (.ret ((.tup [(.agg [(.z (.int .i64 (.lit 0))), (.z (.int .i64 (.lit 0))), (.z (.int .i64 (.lit 0))), (.z (.int .i64 (.lit 0)))]), (.one (.z (.int .i64 (.lit 1))))]), [], 2))
 (.ite (.cmp .eql (.var 1) (.lit 3))
 (.ret ((.tup [(.agg [(.z (.int .i64 (.fn 124 (.x (.var 5) .nil)))), (.z (.int .i64 (.fn 125 (.x (.var 5) .nil)))), (.z (.int .i64 (.fn 126 (.x (.var 5) .nil)))), (.z (.int .i64 (.fn 127 (.x (.var 5) .nil))))]), (.one (.z (.int .i64 (.fn 128 (.x (.var 5) .nil)))))]), [], 3))
 (.ite (.cmp .eql (.var 1) (.lit 6))
 (.ret ((.tup [(.agg [(.z (.int .i64 (.fn 124 (.x (.var 5) .nil)))), (.z (.int .i64 (.fn 125 (.x (.var 5) .nil)))), (.z (.int .i64 (.fn 126 (.x (.var 5) .nil)))), (.z (.int .i64 (.fn 127 (.x (.var 5) .nil))))]), (.one (.z (.int .i64 (.fn 128 (.x (.var 5) .nil)))))]), [], 3))
 (.ret ((.tup [(.agg [(.z (.int .i64 (.ar .sub .i64 (.var 2) (.var 4)))), (.z (.int .i64 (.ar .add .i64 (.var 2) (.var 4)))), (.z (.int .i64 (.ar .sub .i64 (.var 3) (.var 4)))), (.z (.int .i64 (.ar .add .i64 (.var 3) (.var 4))))]), (.one (.z (.int .i64 (.lit 0))))]), [], 2)))))
-- end trR7Bo
set_option maxRecDepth 100000 in
theorem trR7Bo_is : T.norm 0 (call Tryz.prog ctW5 (Lt.of []) 100 22 (symArgs 0 [feat]) [] 0) TT.ret = trR7Bo := by kernel_rfl
theorem trR7Bo_low : trR7Bo.low 1000 = true := by kernel_rfl
-- term trR7Co: call Tryz.prog ctW5 (Lt.of []) 100 12 (symArgs 0 [feat, pt]) [] 0
def trR7Co : TT OpR :=
(.ite (.not (.fn 76 (.i (.var 0) (.i (.var 1) (.i (.var 2) (.i (.var 3) (.i (.var 4) (.x (.var 5) (.i (.var 6) (.i (.var 7) (.x (.var 8) .nil)))))))))))
 (.ret ((.tup [(.one (.z (.bool (.lit false)))), (.one (.z (.int .i64 (.lit 1))))]), [], 2))
 (.ite (.not (.fn 3 (.i (.var 9) (.i (.var 10) .nil))))
 (.ret ((.tup [(.one (.z (.bool (.lit false)))), (.one (.z (.int .i64 (.lit 1))))]), [], 2))
 (.ob (.tru (.fn 141 (.i (.var 0) (.i (.var 1) (.i (.var 2) (.i (.var 3) (.i (.var 4) (.x (.var 5) (.i (.var 6) (.i (.var 7) (.x (.var 8) (.i (.var 9) (.i (.var 10) .nil)))))))))))))
 (.ret ((.tup [(.one (.z (.bool (.fn 140 (.i (.var 0) (.i (.var 1) (.i (.var 2) (.i (.var 3) (.i (.var 4) (.x (.var 5) (.i (.var 6) (.i (.var 7) (.x (.var 8) (.i (.var 9) (.i (.var 10) .nil))))))))))))))), (.one (.z (.int .i64 (.lit 0))))]), [], 2)))))
-- end trR7Co
set_option maxRecDepth 100000 in
theorem trR7Co_is : T.norm 0 (call Tryz.prog ctW5 (Lt.of []) 100 12 (symArgs 0 [feat, pt]) [] 0) TT.ret = trR7Co := by kernel_rfl
theorem trR7Co_low : trR7Co.low 1000 = true := by kernel_rfl
end Go.Proofs.YtglepdhapakmbaaGreat
/- Chapter 07: the reference's Contains, Meets, Shown, Box, Covers. -/
namespace Go.Proofs.YtglepdhapakmbaaGreat
open Go.RowKit
theorem KWeb76 (W : World) (ds l : List D) : (envOf KWe W ds).fb 76 l = featL l := by simp only [envOf, KWe, KWd, KWc, KWb, KWa, KX, KW, KV, KU, KT, KR, KG, KF]
theorem KWeb3 (W : World) (ds l : List D) : (envOf KWe W ds).fb 3 l = placeL l := by simp only [envOf, KWe, KWd, KWc, KWb, KWa, KX, KW, KV, KU, KT, KR, KG, KF, KE, KD, KC, KB, KA, K9, K8, K7, K6, K5, K]
theorem KWeb101 (W : World) (ds l : List D) : (envOf KWe W ds).fb 101 l = discL l := by simp only [envOf, KWe, KWd, KWc, KWb, KWa, KX]
theorem KWeb112 (W : World) (ds l : List D) : (envOf KWe W ds).fb 112 l = touR l := by simp only [envOf, KWe, KWd, KWc, KWb]
theorem KWei115 (W : World) (ds l : List D) : (envOf KWe W ds).fi 115 l = disR l := by simp only [envOf, KWe, KWd, KWc, KWb]
theorem KWeb132 (W : World) (ds l : List D) : (envOf KWe W ds).fb 132 l = hoR l := by simp only [envOf, KWe, KWd]
theorem KWeb133 (W : World) (ds l : List D) : (envOf KWe W ds).fb 133 l = listL l := by simp only [envOf, KWe, KWd]
theorem KWeb140 (W : World) (ds l : List D) : (envOf KWe W ds).fb 140 l = covXL l := by simp only [envOf, KWe]
theorem KWeb141 (W : World) (ds l : List D) : (envOf KWe W ds).fb 141 l = hasO7 l := by simp only [envOf, KWe]
theorem KWei124 (W : World) (ds l : List D) : (envOf KWe W ds).fi 124 l = pbA l := by simp only [envOf, KWe, KWd, KWc]
theorem KWei125 (W : World) (ds l : List D) : (envOf KWe W ds).fi 125 l = pbB l := by simp only [envOf, KWe, KWd, KWc]
theorem KWei126 (W : World) (ds l : List D) : (envOf KWe W ds).fi 126 l = pbC l := by simp only [envOf, KWe, KWd, KWc]
theorem KWei127 (W : World) (ds l : List D) : (envOf KWe W ds).fi 127 l = pbD l := by simp only [envOf, KWe, KWd, KWc]
theorem KWei128 (W : World) (ds l : List D) : (envOf KWe W ds).fi 128 l = pbE l := by simp only [envOf, KWe, KWd, KWc]
def holdXL (ds : List D) : Bool := holdX (iAt ds 1) (iAt ds 2) (iAt ds 3) (iAt ds 4) (rAt ds 5) (iAt ds 10) (iAt ds 11) (iAt ds 12) (iAt ds 13) (rAt ds 14)
def touchXL (ds : List D) : Bool := touchX (iAt ds 1) (iAt ds 2) (iAt ds 3) (iAt ds 4) (rAt ds 5) (iAt ds 10) (iAt ds 11) (iAt ds 12) (iAt ds 13) (rAt ds 14)
theorem cov_el (a b c d e : Int) (r : Rows) (f g : Int) (s : Rows) (x y : Int) : covXL [.i a, .i b, .i c, .i d, .i e, .l r, .i f, .i g, .l s, .i x, .i y] = covX b c d e r x y := rfl
theorem hasO_el (a b c d e : Int) (r : Rows) (f g : Int) (s : Rows) (x y : Int) : hasO7 [.i a, .i b, .i c, .i d, .i e, .l r, .i f, .i g, .l s, .i x, .i y] = (featB a b c d e r f g s && placeB x y) := rfl
theorem allD_dist (a : Rows) (x y r : Int) (f i : Nat) : allD a x y r (f + 1) i = (decide (dist2 x y (lg a i 0) (lg a i 1) ≤ r * r) && allD a x y r f (i + 1)) := by
  rw [allD, near_deg]
theorem kind_d {k : Int} (h : k = 1 ∨ k = 2 ∨ k = 5) : k ≠ 3 ∧ k ≠ 6 ∧ k ≠ 4 := by omega
theorem kind_a {k : Int} (q : k = 1 ∨ k = 2 ∨ k = 3 ∨ k = 4 ∨ k = 5 ∨ k = 6) (n4 : ¬ k = 4) (nd : ¬ (k = 1 ∨ k = 2 ∨ k = 5)) : k = 3 ∨ k = 6 := by omega
theorem w_dist2 {x1 y1 x2 y2 : Int} (p1 : placeB x1 y1 = true) (p2 : placeB x2 y2 = true) : IntKind.i64.wrap (IntKind.i64.wrap (IntKind.i64.wrap (x1 - x2) * IntKind.i64.wrap (x1 - x2)) + IntKind.i64.wrap (IntKind.i64.wrap (y1 - y2) * IntKind.i64.wrap (y1 - y2))) = dist2 x2 y2 x1 y1 := by
  rw [placeB_iff] at p1 p2
  have c1 := w_mul p1.1 p2.1 p1.1 p2.1
  have c2 := w_mul p1.2 p2.2 p1.2 p2.2
  rw [w_sub p1.1 p2.1, w_sub p1.2 p2.2, c1.1, c2.1, w_add p1.1 p2.1 p1.1 p2.1 p1.2 p2.2 p1.2 p2.2]
  rfl
theorem w_rad {r1 r2 : Int} (b1 : 0 ≤ r1 ∧ r1 ≤ 100000) (b2 : 0 ≤ r2 ∧ r2 ≤ 100000) : IntKind.i64.wrap (IntKind.i64.wrap (r1 - r2) * IntKind.i64.wrap (r1 - r2)) = (r1 - r2) * (r1 - r2) := by
  have c3 := mul_abs (a := r1 - r2) (b := r1 - r2) (A := 100000) (B := 100000) (by omega) (by omega) (by omega) (by omega)
  rw [wrap_in (r1 - r2) (by omega) (by omega), wrap_in _ (by omega) (by omega)]
set_option maxHeartbeats 400000 in
theorem gR7Con : GivesIf Tryz.prog 40 [feat, feat] (fun ds => two9 ds = true) (fun ds => .bool (holdXL ds)) := by
  refine fn_gives KWe (by kernel_rfl) (fun ρ h => ctW5_ok (Sees.of h 150)) (by kernel_rfl) trR7Con_is trR7Con_low (by decide) (fun W vals ds hr hok => ?_)
  rw [two9, Bool.and_eq_true] at hok
  obtain ⟨f1, f2⟩ := hok
  simp only [trR7Con, TT.sat_ret, TT.sat_ite, TT.sat_ob, TT.sat_next, TT.sat_stuck, put_i, put_b, put_d, put_fi, put_fb, put_fd, Ob.ok, B.ev, E.ev, X.ev, AL.ev, cmp_t, cmp_f, arEv, V.plain, V2.plain, S.plain, S0.plain, V.val, V2.val, S.val, S0.val, bV, iV, List.all_cons, List.all_nil, Bool.and_true, Bool.and_self, envOf_i, envOf_b, envOf_d, List.map_cons, List.map_nil, true_and, Bool.not_eq_true', Bool.not_eq_false', Bool.not_not, Bool.and_eq_true, and_f, cell_lg, cell_lb, cell_lr, cmpP, val_i, val_b, val_d, aget, Nat.reduceBEq, beq_self_eq_true, Bool.false_eq_true, if_true, if_false, Nat.reduceLT, Nat.reduceSub, Nat.sub_self, Nat.lt_irrefl, KWeb101, KWeb132, KWei115, disc_one, decide_eq_true_eq, decide_eq_false_iff_not]
  have hL : holdXL ds = holdX (iAt ds 1) (iAt ds 2) (iAt ds 3) (iAt ds 4) (rAt ds 5) (iAt ds 10) (iAt ds 11) (iAt ds 12) (iAt ds 13) (rAt ds 14) := rfl
  rw [hL]
  clear hr hL
  generalize ei1 : iAt ds 0 = i1 at *
  generalize ek1 : iAt ds 1 = k1 at *
  generalize ex1 : iAt ds 2 = x1 at *
  generalize ey1 : iAt ds 3 = y1 at *
  generalize er1 : iAt ds 4 = r1 at *
  generalize ea1 : rAt ds 5 = a1 at *
  generalize ed1 : iAt ds 6 = d1 at *
  generalize es1 : iAt ds 7 = s1 at *
  generalize et1 : rAt ds 8 = t1 at *
  generalize iAt ds 10 = k2 at *
  generalize iAt ds 11 = x2 at *
  generalize iAt ds 12 = y2 at *
  generalize iAt ds 13 = r2 at *
  generalize ea2 : rAt ds 14 = a2 at *
  have q1 := feat_kind f1
  have q2 := feat_kind f2
  have A1 := feat_area f1
  have A2 := feat_area f2
  have D1 := feat_disc f1
  have D2 := feat_disc f2
  have H44 : k1 = 4 → holdX k1 x1 y1 r1 a1 k2 x2 y2 r2 a2 = decide (k2 = 4) := fun h => by unfold holdX; rw [if_pos h]
  have Hn4 : k1 ≠ 4 → k2 = 4 → holdX k1 x1 y1 r1 a1 k2 x2 y2 r2 a2 = true := fun h h' => by unfold holdX; simp only [if_neg h, if_pos h', ite_self]
  have HAA : (k1 = 3 ∨ k1 = 6) → (k2 = 3 ∨ k2 = 6) → holdX k1 x1 y1 r1 a1 k2 x2 y2 r2 a2 = hoR [.l a1, .l a2] := fun h h' => by rw [(ho_two (A1 h) (A2 h')).1]; unfold holdX; rw [if_neg (by omega), if_pos h, if_neg (by omega), if_pos h']
  have HAD : (k1 = 3 ∨ k1 = 6) → k2 ≠ 3 → k2 ≠ 6 → k2 ≠ 4 → holdX k1 x1 y1 r1 a1 k2 x2 y2 r2 a2 = cmpEv BinOp.eql (disR [.l a1, .i x2, .i y2, .i r2]) 1 := fun h h1 h2 h3 => by
    rw [(dis_two (A1 h) (D2 h1 h2).1 (by have := (D2 h1 h2).2; omega)).1]; unfold holdX; rw [if_neg (by omega), if_pos h, if_neg h3, if_neg (by omega)]; rfl
  have HDA : k1 ≠ 3 → k1 ≠ 6 → k1 ≠ 4 → (k2 = 3 ∨ k2 = 6) → holdX k1 x1 y1 r1 a1 k2 x2 y2 r2 a2 = allD a2 x1 y1 r1 a2.length 0 := fun h1 h2 h3 h => by unfold holdX; rw [if_neg h3, if_neg (by omega), if_neg (by omega), if_pos h]
  have HDD : k1 ≠ 3 → k1 ≠ 6 → k1 ≠ 4 → k2 ≠ 3 → k2 ≠ 6 → k2 ≠ 4 → holdX k1 x1 y1 r1 a1 k2 x2 y2 r2 a2 = liesB x2 y2 r2 x1 y1 r1 := fun h1 h2 h3 h4 h5 h6 => by unfold holdX; rw [if_neg h3, if_neg (by omega), if_neg h6, if_neg (by omega)]
  have CV : (k1 = 1 ∨ k1 = 2 ∨ k1 = 5) → ∀ x y, placeB x y = true → covX k1 x1 y1 r1 a1 x y = decide (dist2 x1 y1 x y ≤ r1 * r1) := fun h x y hp => cov_d7 f1 hp h
  have LA : (k2 = 3 ∨ k2 = 6) → 3 ≤ a2.length ∧ a2.length ≤ 24 := fun h => polyB_len (A2 h)
  have PA : (k2 = 3 ∨ k2 = 6) → ∀ k : Nat, k < a2.length → placeB (lg a2 k 0) (lg a2 k 1) = true := fun h k hk => polyB_pl (A2 h) hk
  clear A1 A2 f2
  refine ⟨fun e2 => ?_, fun n2 => ⟨fun e1 => ?_, fun n1 => ⟨fun kd1 => ⟨fun kd2 => ⟨fun le => ?_, fun nle => ?_⟩, fun nd2 => ⟨fun _ => ?_, fun c => absurd kd1 c⟩⟩, fun nd1 => ⟨fun c => absurd c nd1, fun _ => ⟨fun kd2 => ?_, fun nd2 => ?_⟩⟩⟩⟩⟩
  · rcases Classical.em (k1 = 4) with e1 | e1
    · rw [H44 e1, decide_eq_true e2]
    · rw [Hn4 e1 e2]
  · rw [H44 e1, decide_eq_false n2]
  · obtain ⟨g1, g2, g3⟩ := kind_d kd1
    obtain ⟨g4, g5, g6⟩ := kind_d kd2
    rw [HDD g1 g2 g3 g4 g5 g6, w_dist2 (D1 g1 g2).1 (D2 g4 g5).1, w_rad (D1 g1 g2).2 (D2 g4 g5).2]
    refine congrArg Value.bool ?_
    rw [liesB, Bool.eq_iff_iff, cmp_t, decide_eq_true_eq]
    simp only [cmpP]
    exact ⟨fun g => ⟨le, g⟩, fun g => g.2⟩
  · obtain ⟨g1, g2, g3⟩ := kind_d kd1
    obtain ⟨g4, g5, g6⟩ := kind_d kd2
    rw [HDD g1 g2 g3 g4 g5 g6, liesB, decide_eq_false (fun g => nle g.1)]
  · have ka := kind_a q2 n2 nd2
    obtain ⟨g1, g2, g3⟩ := kind_d kd1
    have hl := LA ka
    have hpa := PA ka
    rw [HDA g1 g2 g3 ka]
    clear HAA HAD HDA HDD H44 Hn4 LA PA D1 D2 q1 q2 ka g1 g2 g3 n1 n2 nd2
    refine TT.sat_loop (fun v => ∃ i : Nat, v.i 0 = i ∧ i ≤ a2.length ∧ allD a2 x1 y1 r1 (a2.length - i) i = allD a2 x1 y1 r1 a2.length 0) (fun v => a2.length - (v.i 0).toNat) ⟨0, by simp [val_i, aget, E.ev], by omega, rfl⟩ (fun v hv => ?_)
    obtain ⟨i, i0, i1', i2⟩ := hv
    simp only [TT.sat_ret, TT.sat_ite, TT.sat_ob, TT.sat_next, TT.sat_stuck, put_i, put_b, put_d, put_fi, put_fb, put_fd, Ob.ok, B.ev, E.ev, X.ev, AL.ev, cmp_t, cmp_f, arEv, V.plain, V2.plain, S.plain, S0.plain, V.val, V2.val, S.val, S0.val, bV, iV, List.all_cons, List.all_nil, Bool.and_true, Bool.and_self, envOf_i, envOf_b, envOf_d, List.map_cons, List.map_nil, true_and, Bool.not_eq_true', Bool.not_eq_false', Bool.not_not, Bool.and_eq_true, and_f, cell_lg, cell_lb, cell_lr, cmpP, val_i, val_b, val_d, aget, Nat.reduceBEq, beq_self_eq_true, Bool.false_eq_true, if_true, if_false, Nat.reduceLT, Nat.reduceSub, Nat.sub_self, Nat.lt_irrefl, i0, ei1, ek1, ex1, ey1, er1, ea1, ed1, es1, et1, ea2, KWeb140, KWeb141, cov_el, hasO_el]
    refine ⟨fun hc => ?_, fun hc => ?_⟩
    · have hi : i < a2.length := by omega
      obtain ⟨f, hf⟩ : ∃ f, a2.length - i = f + 1 := ⟨a2.length - i - 1, by omega⟩
      have hf' : a2.length - (i + 1) = f := by omega
      rw [hf, allD_dist] at i2
      have hpl := hpa i hi
      rw [CV kd1 _ _ hpl, f1, hpl, wrap_in ((i : Int) + 1) (by omega) (by omega)]
      refine ⟨by omega, by omega, by simp, fun b => ?_, fun b => ⟨⟨i + 1, rfl, by omega, by rw [hf', ← i2, b]; rfl⟩, by omega⟩⟩
      rw [← i2, b]; rfl
    · have h0 : a2.length - i = 0 := by omega
      rw [h0, allD] at i2
      rw [← i2]
  · obtain ⟨g4, g5, g6⟩ := kind_d kd2
    rw [HAD (kind_a q1 n1 nd1) g4 g5 g6]
  · rw [HAA (kind_a q1 n1 nd1) (kind_a q2 n2 nd2)]
end Go.Proofs.YtglepdhapakmbaaGreat
/- Chapter 07: the reference's Meets, Shown, Box, Covers. -/
namespace Go.Proofs.YtglepdhapakmbaaGreat
open Go.RowKit
set_option maxHeartbeats 400000 in
theorem gR7Me : GivesIf Tryz.prog 43 [feat, feat] (fun ds => two9 ds = true) (fun ds => .bool (touchXL ds)) := by
  refine fn_gives KWe (by kernel_rfl) (fun ρ h => ctW5_ok (Sees.of h 150)) (by kernel_rfl) trR7Me_is trR7Me_low (by decide) (fun W vals ds hr hok => ?_)
  rw [two9, Bool.and_eq_true] at hok
  obtain ⟨f1, f2⟩ := hok
  simp only [trR7Me, TT.sat_ret, TT.sat_ite, TT.sat_ob, TT.sat_next, TT.sat_stuck, put_i, put_b, put_d, put_fi, put_fb, put_fd, Ob.ok, B.ev, E.ev, X.ev, AL.ev, cmp_t, cmp_f, arEv, V.plain, V2.plain, S.plain, S0.plain, V.val, V2.val, S.val, S0.val, bV, iV, List.all_cons, List.all_nil, Bool.and_true, Bool.and_self, envOf_i, envOf_b, envOf_d, List.map_cons, List.map_nil, true_and, Bool.not_eq_true', Bool.not_eq_false', Bool.not_not, Bool.and_eq_true, and_f, cell_lg, cell_lb, cell_lr, cmpP, val_i, val_b, val_d, aget, Nat.reduceBEq, beq_self_eq_true, Bool.false_eq_true, if_true, if_false, Nat.reduceLT, Nat.reduceSub, Nat.sub_self, Nat.lt_irrefl, KWeb101, KWeb112, KWei115, disc_one, decide_eq_true_eq, decide_eq_false_iff_not]
  have hL : touchXL ds = touchX (iAt ds 1) (iAt ds 2) (iAt ds 3) (iAt ds 4) (rAt ds 5) (iAt ds 10) (iAt ds 11) (iAt ds 12) (iAt ds 13) (rAt ds 14) := rfl
  rw [hL]
  clear hr hL
  generalize iAt ds 1 = k1 at *
  generalize iAt ds 2 = x1 at *
  generalize iAt ds 3 = y1 at *
  generalize iAt ds 4 = r1 at *
  generalize rAt ds 5 = a1 at *
  generalize iAt ds 10 = k2 at *
  generalize iAt ds 11 = x2 at *
  generalize iAt ds 12 = y2 at *
  generalize iAt ds 13 = r2 at *
  generalize rAt ds 14 = a2 at *
  have q1 := feat_kind f1
  have q2 := feat_kind f2
  have A1 := feat_area f1
  have A2 := feat_area f2
  have D1 := feat_disc f1
  have D2 := feat_disc f2
  have H4 : (k1 = 4 ∨ k2 = 4) → touchX k1 x1 y1 r1 a1 k2 x2 y2 r2 a2 = false := fun h => by unfold touchX; rw [if_pos h]
  have HAA : (k1 = 3 ∨ k1 = 6) → (k2 = 3 ∨ k2 = 6) → touchX k1 x1 y1 r1 a1 k2 x2 y2 r2 a2 = touR [.l a1, .l a2] := fun h h' => by rw [(ho_two (A1 h) (A2 h')).2.1]; unfold touchX; rw [if_neg (by omega), if_pos h, if_pos h']
  have HAD : (k1 = 3 ∨ k1 = 6) → k2 ≠ 3 → k2 ≠ 6 → k2 ≠ 4 → touchX k1 x1 y1 r1 a1 k2 x2 y2 r2 a2 = cmpEv BinOp.geq (disR [.l a1, .i x2, .i y2, .i r2]) 0 := fun h h1 h2 h3 => by
    rw [(dis_two (A1 h) (D2 h1 h2).1 (by have := (D2 h1 h2).2; omega)).1]; unfold touchX; rw [if_neg (by omega), if_pos h, if_neg (by omega), Bool.eq_iff_iff, cmp_t]; simp only [cmpP, decide_eq_true_eq, ge_iff_le]
  have HDA : k1 ≠ 3 → k1 ≠ 6 → k1 ≠ 4 → (k2 = 3 ∨ k2 = 6) → touchX k1 x1 y1 r1 a1 k2 x2 y2 r2 a2 = cmpEv BinOp.geq (disR [.l a2, .i x1, .i y1, .i r1]) 0 := fun h1 h2 h3 h => by
    rw [(dis_two (A2 h) (D1 h1 h2).1 (by have := (D1 h1 h2).2; omega)).1]; unfold touchX; rw [if_neg (by omega), if_neg (by omega), if_pos h, Bool.eq_iff_iff, cmp_t]; simp only [cmpP, decide_eq_true_eq, ge_iff_le]
  have HDD : k1 ≠ 3 → k1 ≠ 6 → k1 ≠ 4 → k2 ≠ 3 → k2 ≠ 6 → k2 ≠ 4 → touchX k1 x1 y1 r1 a1 k2 x2 y2 r2 a2 = cmpEv BinOp.leq (IntKind.i64.wrap (IntKind.i64.wrap (IntKind.i64.wrap (x2 - x1) * IntKind.i64.wrap (x2 - x1)) + IntKind.i64.wrap (IntKind.i64.wrap (y2 - y1) * IntKind.i64.wrap (y2 - y1)))) (IntKind.i64.wrap (IntKind.i64.wrap (r1 + r2) * IntKind.i64.wrap (r1 + r2))) := fun h1 h2 h3 h4 h5 h6 => by
    have p1 := (D1 h1 h2).1
    have p2 := (D2 h4 h5).1
    have b1 := (D1 h1 h2).2
    have b2 := (D2 h4 h5).2
    rw [placeB_iff] at p1 p2
    have c1 := w_mul p2.1 p1.1 p2.1 p1.1
    have c2 := w_mul p2.2 p1.2 p2.2 p1.2
    have c3 := mul_abs (a := r1 + r2) (b := r1 + r2) (A := 200000) (B := 200000) (by omega) (by omega) (by omega) (by omega)
    rw [w_sub p2.1 p1.1, w_sub p2.2 p1.2, c1.1, c2.1, w_add p2.1 p1.1 p2.1 p1.1 p2.2 p1.2 p2.2 p1.2, wrap_in (r1 + r2) (by omega) (by omega), wrap_in _ (by omega) (by omega)]
    unfold touchX
    rw [if_neg (by omega), if_neg (by omega), if_neg (by omega), near_deg, Int.add_comm r2 r1, Bool.eq_iff_iff, cmp_t, decide_eq_true_eq]
    simp only [cmpP]
    exact Iff.rfl
  clear A1 A2 D1 D2 f1 f2
  refine ⟨fun e1 => ?_, fun n1 => ⟨fun e2 => ?_, fun n2 => ⟨fun kd1 => ⟨fun kd2 => ?_, fun nd2 => ⟨fun _ => ?_, fun c => absurd kd1 c⟩⟩, fun nd1 => ⟨fun c => absurd c nd1, fun _ => ⟨fun kd2 => ?_, fun nd2 => ?_⟩⟩⟩⟩⟩
  · rw [H4 (.inl e1)]
  · rw [H4 (.inr e2)]
  · obtain ⟨g1, g2, g3⟩ := kind_d kd1
    obtain ⟨g4, g5, g6⟩ := kind_d kd2
    rw [HDD g1 g2 g3 g4 g5 g6]
  · obtain ⟨g1, g2, g3⟩ := kind_d kd1
    rw [HDA g1 g2 g3 (kind_a q2 n2 nd2)]
  · obtain ⟨g4, g5, g6⟩ := kind_d kd2
    rw [HAD (kind_a q1 n1 nd1) g4 g5 g6]
  · rw [HAA (kind_a q1 n1 nd1) (kind_a q2 n2 nd2)]
theorem lisN_row {r : Rows} : ∀ (f i : Nat) (last : Int), lisN r f i last = true → ∀ k, i ≤ k → k < i + f → featRow r k = true
  | 0, _, _, _, k, h1, h2 => by omega
  | f + 1, i, last, h, k, h1, h2 => by
    rw [lisN, Bool.and_eq_true, Bool.and_eq_true] at h
    by_cases e : k = i
    · subst e; exact h.1.1
    · exact lisN_row f (i + 1) _ h.2 k (by omega) (by omega)
theorem gR7Sh : Gives Tryz.prog 20 [feats, pt] (fun ds => .tuple #[.int .i64 (shownR ds), .int .i64 (shownE ds)]) := by
  refine GivesIf.all (fn_gives KWe (by kernel_rfl) (fun ρ h => ctW5_ok (Sees.of h 150)) (by kernel_rfl) trR7Sh_is trR7Sh_low (by decide) (fun W vals ds hr _ => ?_))
  have hlen := feats_len hr
  simp only [trR7Sh, TT.sat_ret, TT.sat_ite, TT.sat_ob, TT.sat_next, TT.sat_stuck, put_i, put_b, put_d, put_fi, put_fb, put_fd, Ob.ok, B.ev, E.ev, X.ev, AL.ev, cmp_t, cmp_f, arEv, V.plain, V2.plain, S.plain, S0.plain, V.val, V2.val, S.val, S0.val, bV, iV, List.all_cons, List.all_nil, Bool.and_true, Bool.and_self, envOf_i, envOf_b, envOf_d, List.map_cons, List.map_nil, true_and, Bool.not_eq_true', Bool.not_eq_false', Bool.not_not, Bool.and_eq_true, and_f, cell_lg, cell_lb, cell_lr, cmpP, val_i, val_b, val_d, aget, Nat.reduceBEq, beq_self_eq_true, Bool.false_eq_true, if_true, if_false, Nat.reduceLT, Nat.reduceSub, Nat.sub_self, Nat.lt_irrefl, KWeb133, KWeb3, place_two]
  have F : shownO ds = false → Value.tuple #[.int .i64 0, .int .i64 1] = Value.tuple #[.int .i64 (shownR ds), .int .i64 (shownE ds)] := fun h => by simp [shownR, shownE, h]
  refine ⟨fun h => F (by rw [shownO, show listB (rAt ds 0) = false from h]; rfl), fun hl => ⟨fun h => F (by rw [shownO, h, Bool.and_false]), fun hp => ?_⟩⟩
  have hl : listB (rAt ds 0) = true := hl
  have hO : shownO ds = true := by rw [shownO, hl, hp]; rfl
  have T : ∀ m, shoN (rAt ds 0) (iAt ds 1) (iAt ds 2) (rAt ds 0).length 0 100000 = m → Value.tuple #[.int .i64 m, .int .i64 0] = Value.tuple #[.int .i64 (shownR ds), .int .i64 (shownE ds)] := fun m h' => by simp [shownR, shownE, hO, h']
  have hrow : ∀ k, k < (rAt ds 0).length → featRow (rAt ds 0) k = true := fun k hk => by
    unfold listB at hl
    rw [Bool.and_eq_true] at hl
    exact lisN_row _ _ _ hl.1 k (by omega) (by omega)
  clear F hr hO hl
  generalize e0 : rAt ds 0 = r at *
  generalize e1 : iAt ds 1 = px at *
  generalize e2 : iAt ds 2 = py at *
  refine TT.sat_loop (fun v => ∃ i : Nat, v.i 1 = i ∧ i ≤ r.length ∧ shoN r px py (r.length - i) i (v.i 0) = shoN r px py r.length 0 100000) (fun v => r.length - (v.i 1).toNat)
    ⟨0, by simp [val_i, aget, E.ev], by omega, rfl⟩ (fun v hv => ?_)
  obtain ⟨i, i0, i1, i2⟩ := hv
  simp only [TT.sat_ret, TT.sat_ite, TT.sat_ob, TT.sat_next, TT.sat_stuck, put_i, put_b, put_d, put_fi, put_fb, put_fd, Ob.ok, B.ev, E.ev, X.ev, AL.ev, cmp_t, cmp_f, arEv, V.plain, V2.plain, S.plain, S0.plain, V.val, V2.val, S.val, S0.val, bV, iV, List.all_cons, List.all_nil, Bool.and_true, Bool.and_self, envOf_i, envOf_b, envOf_d, List.map_cons, List.map_nil, true_and, Bool.not_eq_true', Bool.not_eq_false', Bool.not_not, Bool.and_eq_true, and_f, cell_lg, cell_lb, cell_lr, cmpP, val_i, val_b, val_d, aget, Nat.reduceBEq, beq_self_eq_true, Bool.false_eq_true, if_true, if_false, Nat.reduceLT, Nat.reduceSub, Nat.sub_self, Nat.lt_irrefl, i0, e0, e1, e2, KWeb140, KWeb141, cov_el, hasO_el]
  refine ⟨fun hc => ?_, fun hc => ?_⟩
  · have hi : i < r.length := by omega
    obtain ⟨f, hf⟩ : ∃ f, r.length - i = f + 1 := ⟨r.length - i - 1, by omega⟩
    have hf' : r.length - (i + 1) = f := by omega
    rw [hf, shoN] at i2
    rw [wrap_in ((i : Int) + 1) (by omega) (by omega)]
    have hfr : featB (lg r i 0) (lg r i 1) (lg r i 2) (lg r i 3) (lg r i 4) (lr r i 5) (lg r i 6) (lg r i 7) (lr r i 8) = true := hrow i hi
    have N : ∀ m, (if lg r i 6 < v.i 0 ∧ covRow r i px py = true then lg r i 6 else v.i 0) = m → (∃ j : Nat, (i : Int) + 1 = j ∧ j ≤ r.length ∧ shoN r px py (r.length - j) j m = shoN r px py r.length 0 100000) ∧ r.length - ((i : Int) + 1).toNat < r.length - (i : Int).toNat :=
      fun m h => ⟨⟨i + 1, rfl, by omega, by rw [hf', ← i2, h]⟩, by omega⟩
    rw [hfr, hp]
    refine ⟨by omega, by omega, by simp, fun c => ⟨by omega, by omega, N _ ?_⟩, fun c => N _ ?_⟩
    · have hcv : covRow r i px py = true := c
      rw [hcv]
      simp only [and_true]
      have m1 := Int.min_def (v.i 0) (lg r i 6)
      rw [m1]
      split <;> split <;> omega
    · have hcv : covRow r i px py = false := c
      rw [hcv]
      simp
  · have h0 : r.length - i = 0 := by omega
    rw [h0, shoN] at i2
    exact T _ i2.symm
theorem gR7Co : Gives Tryz.prog 12 [feat, pt] (fun ds => .tuple #[.bool (covR ds), .int .i64 (covE ds)]) := by
  refine GivesIf.all (fn_gives KWe (by kernel_rfl) (fun ρ h => ctW5_ok (Sees.of h 150)) (by kernel_rfl) trR7Co_is trR7Co_low (by decide) (fun W vals ds hr _ => ?_))
  simp only [trR7Co, TT.sat_ret, TT.sat_ite, TT.sat_ob, TT.sat_next, TT.sat_stuck, put_i, put_b, put_d, put_fi, put_fb, put_fd, Ob.ok, B.ev, E.ev, X.ev, AL.ev, cmp_t, cmp_f, arEv, V.plain, V2.plain, S.plain, S0.plain, V.val, V2.val, S.val, S0.val, bV, iV, List.all_cons, List.all_nil, Bool.and_true, Bool.and_self, envOf_i, envOf_b, envOf_d, List.map_cons, List.map_nil, true_and, Bool.not_eq_true', Bool.not_eq_false', Bool.not_not, Bool.and_eq_true, and_f, cell_lg, cell_lb, cell_lr, cmpP, val_i, val_b, val_d, aget, Nat.reduceBEq, beq_self_eq_true, Bool.false_eq_true, if_true, if_false, Nat.reduceLT, Nat.reduceSub, Nat.sub_self, Nat.lt_irrefl, KWeb76, KWeb3, KWeb140, KWeb141, place_two, feat_nine, cov_el, hasO_el]
  refine ⟨fun h => ?_, fun h1 => ⟨fun h => ?_, fun h2 => ⟨by rw [h1, h2]; exact ⟨rfl, rfl⟩, ?_⟩⟩⟩
  · simp [covR, covE, covO, h]
  · simp [covR, covE, covO, h]
  · simp [covR, covE, covO, h1, h2]
theorem gR7Bo : Gives Tryz.prog 22 [feat] (fun ds => .tuple #[.agg #[.int .i64 (fbA ds), .int .i64 (fbB ds), .int .i64 (fbC ds), .int .i64 (fbD ds)], .int .i64 (fbE ds)]) := by
  refine GivesIf.all (fn_gives KWe (by kernel_rfl) (fun ρ h => ctW5_ok (Sees.of h 150)) (by kernel_rfl) trR7Bo_is trR7Bo_low (by decide) (fun W vals ds hr _ => ?_))
  simp only [trR7Bo, TT.sat_ret, TT.sat_ite, TT.sat_ob, TT.sat_next, TT.sat_stuck, put_i, put_b, put_d, put_fi, put_fb, put_fd, Ob.ok, B.ev, E.ev, X.ev, AL.ev, cmp_t, cmp_f, arEv, V.plain, V2.plain, S.plain, S0.plain, V.val, V2.val, S.val, S0.val, bV, iV, List.all_cons, List.all_nil, Bool.and_true, Bool.and_self, envOf_i, envOf_b, envOf_d, List.map_cons, List.map_nil, true_and, Bool.not_eq_true', Bool.not_eq_false', Bool.not_not, Bool.and_eq_true, and_f, cell_lg, cell_lb, cell_lr, cmpP, val_i, val_b, val_d, aget, Nat.reduceBEq, beq_self_eq_true, Bool.false_eq_true, if_true, if_false, Nat.reduceLT, Nat.reduceSub, Nat.sub_self, Nat.lt_irrefl, KWeb76, KWei124, KWei125, KWei126, KWei127, KWei128, feat_nine, featL_eq]
  simp only [fbA, fbB, fbC, fbD, fbE]
  refine ⟨fun h => by simp [h], fun h => ?_⟩
  have hk := feat_kind h
  have hA := feat_area h
  obtain ⟨_, _, _, hr, hkk⟩ := featB_iff.mp h
  have hE : (iAt ds 1 = 3 ∨ iAt ds 1 = 6) → pbE [.l (rAt ds 5)] = 0 := fun g => by unfold pbE; rw [show rAt [.l (rAt ds 5)] 0 = rAt ds 5 from rfl, hA g]; rfl
  simp only [h, if_true, fbox]
  refine ⟨fun k3 => ?_, fun n3 => ⟨fun k6 => ?_, fun n6 => ?_⟩⟩
  · rw [hE (.inl k3)]; simp [k3]
  · rw [hE (.inr k6)]; simp [k6]
  · have hp : placeB (iAt ds 2) (iAt ds 3) = true := by
      rcases hkk with q | q | q
      · exact q.2.1
      · omega
      · exact q.2.1
    rw [placeB_iff] at hp
    rw [wrap_in (iAt ds 2 - iAt ds 4) (by omega) (by omega), wrap_in (iAt ds 2 + iAt ds 4) (by omega) (by omega), wrap_in (iAt ds 3 - iAt ds 4) (by omega) (by omega), wrap_in (iAt ds 3 + iAt ds 4) (by omega) (by omega)]
    by_cases n4 : iAt ds 1 = 4
    · have h0 : iAt ds 4 = 0 := by
        rcases hkk with q | q | q
        · omega
        · omega
        · omega
      simp [n4, h0]
    · simp only [if_neg n4, if_neg (show ¬ (iAt ds 1 = 3 ∨ iAt ds 1 = 6) by omega)]
      rw [show iAt ds 2 + -1 * iAt ds 4 = iAt ds 2 - iAt ds 4 by omega, show iAt ds 2 + 1 * iAt ds 4 = iAt ds 2 + iAt ds 4 by omega, show iAt ds 3 + -1 * iAt ds 4 = iAt ds 3 - iAt ds 4 by omega, show iAt ds 3 + 1 * iAt ds 4 = iAt ds 3 + iAt ds 4 by omega]
def KWf : Interp where
  fi n l := KWe.fi n l
  fb n l := match n with | 150 => holdXL l | 151 => touchXL l | 152 => two9 l | n => KWe.fb n l
  fd _ _ := []
theorem KWf_KWe {ρ : Env} (h : Sees ρ KWf 160) : Sees ρ KWe 150 := h.trans (by decide) fun n l hn => by
  refine ⟨?_, ?_⟩
  ·
    rfl
  ·
    simp only [KWf]
    split <;> first | omega | rfl
def cR7Con := ctD [feat, feat] fun al => .ob (.tru (bF 152 two9 al)) (.ret (bV (bF 150 holdXL al)))
theorem cR7Con_ok {ρ : Env} (h : Sees ρ KWf 160) : CtOne Tryz.prog ρ 40 cR7Con := by
  refine ctD_if gR7Con (fun al v hv => ?_)
  obtain ⟨ho, hv⟩ := hv
  obtain rfl := res_ret hv
  refine ⟨rfl, ?_, ?_⟩
  · have h1 : (bF 152 two9 al).ev ρ = true := ho
    rw [bF_ev (s := 152) (f := two9) (fun l => by rw [(h 152 l (by decide)).2]; simp only [KWf])] at h1
    exact h1
  · simp only [iV, bV, V.s0, V.val, V2.val, S.val, S0.val, bF_ev (s := 150) (f := holdXL) (fun l => by rw [(h 150 l (by decide)).2]; simp only [KWf])]; try rfl
def cR7Me := ctD [feat, feat] fun al => .ob (.tru (bF 152 two9 al)) (.ret (bV (bF 151 touchXL al)))
theorem cR7Me_ok {ρ : Env} (h : Sees ρ KWf 160) : CtOne Tryz.prog ρ 43 cR7Me := by
  refine ctD_if gR7Me (fun al v hv => ?_)
  obtain ⟨ho, hv⟩ := hv
  obtain rfl := res_ret hv
  refine ⟨rfl, ?_, ?_⟩
  · have h1 : (bF 152 two9 al).ev ρ = true := ho
    rw [bF_ev (s := 152) (f := two9) (fun l => by rw [(h 152 l (by decide)).2]; simp only [KWf])] at h1
    exact h1
  · simp only [iV, bV, V.s0, V.val, V2.val, S.val, S0.val, bF_ev (s := 151) (f := touchXL) (fun l => by rw [(h 151 l (by decide)).2]; simp only [KWf])]; try rfl
def ctW6 : Ct := (40, cR7Con) :: (43, cR7Me) :: ctW5
theorem ctW6_ok {ρ : Env} (h : Sees ρ KWf 160) : CtOk Tryz.prog ρ ctW6 := .cons (cR7Con_ok h) <| .cons (cR7Me_ok h) (ctW5_ok (KWf_KWe h))
end Go.Proofs.YtglepdhapakmbaaGreat
