/- MF, merged: Co0, TCo, Co, TCp, Cq, Cr, Cs, TCu, Cu, TCt, Ct, TCv, Cv, TCw, Cw, TCx, Cx, TCy, Cy, TCz, Cz. -/
import Derived.Test.YtcjaembdcfppfaaGreatMC
set_option linter.unusedSimpArgs false
set_option linter.unusedVariables false
/- Chapter 38: contracts for plane.On and plane.Meet. -/
namespace Go.Proofs.YtcjaembdcfppfaaGreat
open Go.RowKit
def I8 : Interp := { fi := fun _ _ => 0, fb := fun n l => match n with | 1 => six6 l | 3 => placeL l | 4 => onL l | 5 => eight l | 6 => meetL l | _ => false, fd := fun _ _ => [] }
def ct8 : Ct := [(53, cPlace1), (132, cMeet1), (137, cOn1)]
theorem ct8_ok {ρ : Env} (h : ρ.has I8) : CtOk Tryz.prog ρ ct8 :=
  .cons (cPlace1_ok (fun l => by rw [h.2.1]; rfl)) <| .cons (cMeet1_ok (fun l => by rw [h.2.1]; rfl) (fun l => by rw [h.2.1]; rfl)) <| .cons (cOn1_ok (fun l => by rw [h.2.1]; rfl) (fun l => by rw [h.2.1]; rfl)) .nil
end Go.Proofs.YtcjaembdcfppfaaGreat
/- Chapter 38: the trees of plane.On, plane.Meet. -/
namespace Go.Proofs.YtcjaembdcfppfaaGreat
open Go.RowKit
-- term trOnX: call Tryz.prog ct8 lt1 100 173 (symArgs 0 [pt, pt, pt]) [] 0
def trOnX : TT OpR :=
(.ite (.not (.fn 3 (.i (.var 0) (.i (.var 1) .nil))))
 (.ret ((.tup [(.one (.z (.bool (.lit false)))), (.one (.z (.int .i64 (.lit 1))))]), [], 5))
 (.ite (.not (.fn 3 (.i (.var 2) (.i (.var 3) .nil))))
 (.ret ((.tup [(.one (.z (.bool (.lit false)))), (.one (.z (.int .i64 (.lit 1))))]), [], 6))
 (.ite (.not (.fn 3 (.i (.var 4) (.i (.var 5) .nil))))
 (.ret ((.tup [(.one (.z (.bool (.lit false)))), (.one (.z (.int .i64 (.lit 1))))]), [], 7))
 (.ob (.tru (.fn 1 (.i (.var 0) (.i (.var 1) (.i (.var 2) (.i (.var 3) (.i (.var 4) (.i (.var 5) .nil))))))))
 (.ret ((.tup [(.one (.z (.bool (.fn 4 (.i (.var 0) (.i (.var 1) (.i (.var 2) (.i (.var 3) (.i (.var 4) (.i (.var 5) .nil)))))))))), (.one (.z (.int .i64 (.lit 0))))]), [], 7))))))
-- end trOnX
set_option maxRecDepth 100000 in
theorem trOnX_is : T.norm 0 (call Tryz.prog ct8 lt1 100 173 (symArgs 0 [pt, pt, pt]) [] 0) TT.ret = trOnX := by kernel_rfl
theorem trOnX_low : trOnX.low 1000 = true := by kernel_rfl
-- term trMeetX: call Tryz.prog ct8 lt1 100 122 (symArgs 0 [pt, pt, pt, pt]) [] 0
def trMeetX : TT OpR :=
(.ite (.not (.fn 3 (.i (.var 0) (.i (.var 1) .nil))))
 (.ret ((.tup [(.one (.z (.bool (.lit false)))), (.one (.z (.int .i64 (.lit 1))))]), [], 6))
 (.ite (.not (.fn 3 (.i (.var 2) (.i (.var 3) .nil))))
 (.ret ((.tup [(.one (.z (.bool (.lit false)))), (.one (.z (.int .i64 (.lit 1))))]), [], 7))
 (.ite (.not (.fn 3 (.i (.var 4) (.i (.var 5) .nil))))
 (.ret ((.tup [(.one (.z (.bool (.lit false)))), (.one (.z (.int .i64 (.lit 1))))]), [], 8))
 (.ite (.not (.fn 3 (.i (.var 6) (.i (.var 7) .nil))))
 (.ret ((.tup [(.one (.z (.bool (.lit false)))), (.one (.z (.int .i64 (.lit 1))))]), [], 9))
 (.ob (.tru (.fn 5 (.i (.var 0) (.i (.var 1) (.i (.var 2) (.i (.var 3) (.i (.var 4) (.i (.var 5) (.i (.var 6) (.i (.var 7) .nil))))))))))
 (.ret ((.tup [(.one (.z (.bool (.fn 6 (.i (.var 0) (.i (.var 1) (.i (.var 2) (.i (.var 3) (.i (.var 4) (.i (.var 5) (.i (.var 6) (.i (.var 7) .nil)))))))))))), (.one (.z (.int .i64 (.lit 0))))]), [], 9)))))))
-- end trMeetX
set_option maxRecDepth 100000 in
theorem trMeetX_is : T.norm 0 (call Tryz.prog ct8 lt1 100 122 (symArgs 0 [pt, pt, pt, pt]) [] 0) TT.ret = trMeetX := by kernel_rfl
theorem trMeetX_low : trMeetX.low 1000 = true := by kernel_rfl
end Go.Proofs.YtcjaembdcfppfaaGreat
/- Chapter 38: what plane.On and plane.Meet answer. -/
namespace Go.Proofs.YtcjaembdcfppfaaGreat
open Go.RowKit
theorem I8_1 (W : World) (ds l : List D) : (envOf I8 W ds).fb 1 l = six6 l := by simp only [envOf, I8]
theorem I8_3 (W : World) (ds l : List D) : (envOf I8 W ds).fb 3 l = placeL l := by simp only [envOf, I8]
theorem I8_4 (W : World) (ds l : List D) : (envOf I8 W ds).fb 4 l = onL l := by simp only [envOf, I8]
theorem I8_5 (W : World) (ds l : List D) : (envOf I8 W ds).fb 5 l = eight l := by simp only [envOf, I8]
theorem I8_6 (W : World) (ds l : List D) : (envOf I8 W ds).fb 6 l = meetL l := by simp only [envOf, I8]
theorem gOn : Gives Tryz.prog 173 [pt, pt, pt] (fun ds => errV (six6 ds) (onL ds)) := by
  refine GivesIf.all (fn_gives I8 (by kernel_rfl) (fun ρ h => ct8_ok h) (by kernel_rfl) trOnX_is trOnX_low (by decide) (fun W vals ds _ _ => ?_))
  simp only [trOnX, TT.sat_ret, TT.sat_ite, TT.sat_ob, TT.sat_next, TT.sat_stuck, put_i, put_b, put_d, put_fi, put_fb, put_fd, Ob.ok, B.ev, E.ev, X.ev, AL.ev, cmp_t, cmp_f, arEv, V.plain, V2.plain, S.plain, S0.plain, V.val, V2.val, S.val, S0.val, bV, iV, List.all_cons, List.all_nil, Bool.and_true, Bool.and_self, envOf_i, envOf_b, envOf_d, List.map_cons, List.map_nil, true_and, Bool.not_eq_true', Bool.not_eq_false', Bool.not_not, Bool.and_eq_true, and_f, cell_lg, cell_lb, cell_lr, cmpP, val_i, val_b, val_d, aget, Nat.reduceBEq, beq_self_eq_true, Bool.false_eq_true, if_true, if_false, Nat.reduceLT, Nat.reduceSub, Nat.sub_self, Nat.lt_irrefl, I8_1, I8_3, I8_4, I8_5, I8_6, placeL_two, six_six, on_six]
  simp only [errV, six6, onL]
  refine ⟨fun h => ?_, fun h => ⟨fun h' => ?_, fun h' => ⟨fun h'' => ?_, fun h'' => ?_⟩⟩⟩ <;> simp [*]
theorem gMeet : Gives Tryz.prog 122 [pt, pt, pt, pt] (fun ds => errV (eight ds) (meetL ds)) := by
  refine GivesIf.all (fn_gives I8 (by kernel_rfl) (fun ρ h => ct8_ok h) (by kernel_rfl) trMeetX_is trMeetX_low (by decide) (fun W vals ds _ _ => ?_))
  simp only [trMeetX, TT.sat_ret, TT.sat_ite, TT.sat_ob, TT.sat_next, TT.sat_stuck, put_i, put_b, put_d, put_fi, put_fb, put_fd, Ob.ok, B.ev, E.ev, X.ev, AL.ev, cmp_t, cmp_f, arEv, V.plain, V2.plain, S.plain, S0.plain, V.val, V2.val, S.val, S0.val, bV, iV, List.all_cons, List.all_nil, Bool.and_true, Bool.and_self, envOf_i, envOf_b, envOf_d, List.map_cons, List.map_nil, true_and, Bool.not_eq_true', Bool.not_eq_false', Bool.not_not, Bool.and_eq_true, and_f, cell_lg, cell_lb, cell_lr, cmpP, val_i, val_b, val_d, aget, Nat.reduceBEq, beq_self_eq_true, Bool.false_eq_true, if_true, if_false, Nat.reduceLT, Nat.reduceSub, Nat.sub_self, Nat.lt_irrefl, I8_1, I8_3, I8_4, I8_5, I8_6, placeL_two, six_six, eight_eight, meet_eight]
  simp only [errV, eight, meetL]
  refine ⟨fun h => ?_, fun h => ⟨fun h' => ?_, fun h' => ⟨fun h'' => ?_, fun h'' => ⟨fun h3 => ?_, fun h3 => ?_⟩⟩⟩⟩ <;> simp [*]
def onR (ds : List D) : Bool := six6 ds && onL ds
def meetR (ds : List D) : Bool := eight ds && meetL ds
def meetRE (ds : List D) : Int := if eight ds then 0 else 1
def K8 : Interp where
  fi n l := match n with | 64 => meetRE l | n => K7.fi n l
  fb n l := match n with | 61 => onR l | 62 => meetR l | n => K7.fb n l
  fd _ _ := []
def cOnA := ctD [pt, pt, pt] fun al => .ret (.tup [.one (sBF 61 onR al), .one (sIF 16 turnE al)])
def cMeetA := ctD [pt, pt, pt, pt] fun al => .ret (.tup [.one (sBF 62 meetR al), .one (sIF 64 meetRE al)])
section
variable {ρ : Env} (h : Sees ρ K8 65)
include h
theorem cOnA_ok : CtOne Tryz.prog ρ 173 cOnA :=
  ctD_ok gOn (fun _ => rfl) (fun al => by
    simp only [V.val, V2.val, S.val, S0.val, sIF, sBF, List.map_cons, List.map_nil, bF_ev (s := 61) (f := onR) (fun l => by rw [(h 61 l (by decide)).2]; simp only [K8]), iF_ev (s := 16) (f := turnE) (fun l => by rw [(h 16 l (by decide)).1]; simp only [K8, K7, K6, K5, K])]; rfl)
theorem cMeetA_ok : CtOne Tryz.prog ρ 122 cMeetA :=
  ctD_ok gMeet (fun _ => rfl) (fun al => by
    simp only [V.val, V2.val, S.val, S0.val, sIF, sBF, List.map_cons, List.map_nil, bF_ev (s := 62) (f := meetR) (fun l => by rw [(h 62 l (by decide)).2]; simp only [K8]), iF_ev (s := 64) (f := meetRE) (fun l => by rw [(h 64 l (by decide)).1]; simp only [K8])]; rfl)
theorem cPl8_ok : CtOne Tryz.prog ρ 53 cPlace1 := cPlace1_ok (fun l => by rw [(h 3 l (by decide)).2]; simp only [K8, K7, K6, K5, K])
theorem cTurn8_ok : CtOne Tryz.prog ρ 120 cTurnA :=
  ctD_ok gTurn (fun _ => rfl) (fun al => by
    simp only [V.val, V2.val, S.val, S0.val, sIF, sBF, List.map_cons, List.map_nil, iF_ev (s := 15) (f := turnR) (fun l => by rw [(h 15 l (by decide)).1]; simp only [K8, K7, K6, K5, K]), iF_ev (s := 16) (f := turnE) (fun l => by rw [(h 16 l (by decide)).1]; simp only [K8, K7, K6, K5, K]), turnV, turnR, turnE]
    split <;> rfl)
end
def ctPo : Ct := [(53, cPlace1), (173, cOnA), (122, cMeetA), (120, cTurnA)]
theorem ctPo_ok {ρ : Env} (h : Sees ρ K8 65) : CtOk Tryz.prog ρ ctPo := .cons (cPl8_ok h) <| .cons (cOnA_ok h) <| .cons (cMeetA_ok h) <| .cons (cTurn8_ok h) .nil
end Go.Proofs.YtcjaembdcfppfaaGreat
/- Chapter 38: the trees of package poly. -/
namespace Go.Proofs.YtcjaembdcfppfaaGreat
open Go.RowKit
def ptK : List CK := [.int .i64, .int .i64]
def pts : Sh := .one (.sl ptK)
-- term trSimple: call Tryz.prog ctPo (Lt.of []) 100 100 (symArgs 0 [pts]) [] 0
def trSimple : TT OpR :=
(.loop 0 7000 ⟨[(0, (.lit 0))], [], []⟩
 (.ite (.cmp .lss (.var 7000) (.len (.var 0)))
 (.ob (.tru (.cmp .leq (.lit 0) (.var 7000)))
 (.ob (.tru (.cmp .lss (.var 7000) (.len (.var 0))))
 (.ob (.tru (.cmp .neq (.len (.var 0)) (.lit 0)))
 (.ob (.tru (.cmp .leq (.lit 0) (.ar .rem .i64 (.ar .add .i64 (.ar .add .i64 (.var 7000) (.lit 1)) (.len (.var 0))) (.len (.var 0)))))
 (.ob (.tru (.cmp .lss (.ar .rem .i64 (.ar .add .i64 (.ar .add .i64 (.var 7000) (.lit 1)) (.len (.var 0))) (.len (.var 0))) (.len (.var 0))))
 (.loop 1 14000 ⟨[(0, (.lit 0))], [], []⟩
 (.ite (.cmp .lss (.var 14000) (.len (.var 0)))
 (.ob (.tru (.cmp .leq (.lit 0) (.var 14000)))
 (.ob (.tru (.cmp .lss (.var 14000) (.len (.var 0))))
 (.ob (.tru (.cmp .neq (.len (.var 0)) (.lit 0)))
 (.ob (.tru (.cmp .leq (.lit 0) (.ar .rem .i64 (.ar .add .i64 (.ar .add .i64 (.var 14000) (.lit 1)) (.len (.var 0))) (.len (.var 0)))))
 (.ob (.tru (.cmp .lss (.ar .rem .i64 (.ar .add .i64 (.ar .add .i64 (.var 14000) (.lit 1)) (.len (.var 0))) (.len (.var 0))) (.len (.var 0))))
 (.ite (.cmp .leq (.var 14000) (.ar .add .i64 (.var 7000) (.lit 1)))
 (.next 1 ⟨[(0, (.ar .add .i64 (.var 14000) (.lit 1)))], [], []⟩)
 (.ite (.cmp .eql (.var 7000) (.lit 0))
 (.ite (.cmp .eql (.var 14000) (.ar .sub .i64 (.len (.var 0)) (.lit 1)))
 (.next 1 ⟨[(0, (.ar .add .i64 (.var 14000) (.lit 1)))], [], []⟩)
 (.ite (.fn 62 (.i (.rd (.var 0) (.var 7000) 0) (.i (.rd (.var 0) (.var 7000) 1) (.i (.rd (.var 0) (.ar .rem .i64 (.ar .add .i64 (.ar .add .i64 (.var 7000) (.lit 1)) (.len (.var 0))) (.len (.var 0))) 0) (.i (.rd (.var 0) (.ar .rem .i64 (.ar .add .i64 (.ar .add .i64 (.var 7000) (.lit 1)) (.len (.var 0))) (.len (.var 0))) 1) (.i (.rd (.var 0) (.var 14000) 0) (.i (.rd (.var 0) (.var 14000) 1) (.i (.rd (.var 0) (.ar .rem .i64 (.ar .add .i64 (.ar .add .i64 (.var 14000) (.lit 1)) (.len (.var 0))) (.len (.var 0))) 0) (.i (.rd (.var 0) (.ar .rem .i64 (.ar .add .i64 (.ar .add .i64 (.var 14000) (.lit 1)) (.len (.var 0))) (.len (.var 0))) 1) .nil)))))))))
 (.ret ((.v (.one (.z (.bool (.lit false))))), [], 17))
 (.next 1 ⟨[(0, (.ar .add .i64 (.var 14000) (.lit 1)))], [], []⟩)))
 (.ite (.fn 62 (.i (.rd (.var 0) (.var 7000) 0) (.i (.rd (.var 0) (.var 7000) 1) (.i (.rd (.var 0) (.ar .rem .i64 (.ar .add .i64 (.ar .add .i64 (.var 7000) (.lit 1)) (.len (.var 0))) (.len (.var 0))) 0) (.i (.rd (.var 0) (.ar .rem .i64 (.ar .add .i64 (.ar .add .i64 (.var 7000) (.lit 1)) (.len (.var 0))) (.len (.var 0))) 1) (.i (.rd (.var 0) (.var 14000) 0) (.i (.rd (.var 0) (.var 14000) 1) (.i (.rd (.var 0) (.ar .rem .i64 (.ar .add .i64 (.ar .add .i64 (.var 14000) (.lit 1)) (.len (.var 0))) (.len (.var 0))) 0) (.i (.rd (.var 0) (.ar .rem .i64 (.ar .add .i64 (.ar .add .i64 (.var 14000) (.lit 1)) (.len (.var 0))) (.len (.var 0))) 1) .nil)))))))))
 (.ret ((.v (.one (.z (.bool (.lit false))))), [], 17))
 (.next 1 ⟨[(0, (.ar .add .i64 (.var 14000) (.lit 1)))], [], []⟩)))))))))
 (.next 0 ⟨[(0, (.ar .add .i64 (.var 7000) (.lit 1)))], [], []⟩))))))))
 (.ret ((.v (.one (.z (.bool (.lit true))))), [], 17))))
-- end trSimple
set_option maxRecDepth 100000 in
theorem trSimple_is : T.norm 0 (call Tryz.prog ctPo (Lt.of []) 100 100 (symArgs 0 [pts]) [] 0) TT.ret = trSimple := by kernel_rfl
theorem trSimple_low : trSimple.low 1000 = true := by kernel_rfl
-- term trTwice: call Tryz.prog ctPo (Lt.of []) 100 101 (symArgs 0 [pts]) [] 0
def trTwice : TT OpR :=
(.loop 0 5000 ⟨[(0, (.lit 0)), (1, (.lit 0))], [], []⟩
 (.ite (.cmp .lss (.var 5000) (.len (.var 0)))
 (.ob (.tru (.cmp .leq (.lit 0) (.var 5000)))
 (.ob (.tru (.cmp .lss (.var 5000) (.len (.var 0))))
 (.ob (.tru (.cmp .neq (.len (.var 0)) (.lit 0)))
 (.ob (.tru (.cmp .leq (.lit 0) (.ar .rem .i64 (.ar .add .i64 (.ar .add .i64 (.var 5000) (.lit 1)) (.len (.var 0))) (.len (.var 0)))))
 (.ob (.tru (.cmp .lss (.ar .rem .i64 (.ar .add .i64 (.ar .add .i64 (.var 5000) (.lit 1)) (.len (.var 0))) (.len (.var 0))) (.len (.var 0))))
 (.next 0 ⟨[(0, (.ar .add .i64 (.var 5000) (.lit 1))), (1, (.ar .add .i64 (.var 5001) (.ar .sub .i64 (.ar .mul .i64 (.rd (.var 0) (.var 5000) 0) (.rd (.var 0) (.ar .rem .i64 (.ar .add .i64 (.ar .add .i64 (.var 5000) (.lit 1)) (.len (.var 0))) (.len (.var 0))) 1)) (.ar .mul .i64 (.rd (.var 0) (.var 5000) 1) (.rd (.var 0) (.ar .rem .i64 (.ar .add .i64 (.ar .add .i64 (.var 5000) (.lit 1)) (.len (.var 0))) (.len (.var 0))) 0)))))], [], []⟩))))))
 (.ret ((.v (.one (.z (.int .i64 (.var 5001))))), [], 8))))
-- end trTwice
set_option maxRecDepth 100000 in
theorem trTwice_is : T.norm 0 (call Tryz.prog ctPo (Lt.of []) 100 101 (symArgs 0 [pts]) [] 0) TT.ret = trTwice := by kernel_rfl
theorem trTwice_low : trTwice.low 1000 = true := by kernel_rfl
-- term trPlace: call Tryz.prog ctPo (Lt.of []) 100 165 (symArgs 0 [pts, pt]) [] 0
def trPlace : TT OpR :=
(.loop 0 7000 ⟨[(0, (.lit 0))], [(1, (.lit false))], []⟩
 (.ite (.cmp .lss (.var 7000) (.len (.var 0)))
 (.ob (.tru (.cmp .leq (.lit 0) (.var 7000)))
 (.ob (.tru (.cmp .lss (.var 7000) (.len (.var 0))))
 (.ob (.tru (.cmp .neq (.len (.var 0)) (.lit 0)))
 (.ob (.tru (.cmp .leq (.lit 0) (.ar .rem .i64 (.ar .add .i64 (.ar .add .i64 (.var 7000) (.lit 1)) (.len (.var 0))) (.len (.var 0)))))
 (.ob (.tru (.cmp .lss (.ar .rem .i64 (.ar .add .i64 (.ar .add .i64 (.var 7000) (.lit 1)) (.len (.var 0))) (.len (.var 0))) (.len (.var 0))))
 (.ite (.fn 61 (.i (.var 1) (.i (.var 2) (.i (.rd (.var 0) (.var 7000) 0) (.i (.rd (.var 0) (.var 7000) 1) (.i (.rd (.var 0) (.ar .rem .i64 (.ar .add .i64 (.ar .add .i64 (.var 7000) (.lit 1)) (.len (.var 0))) (.len (.var 0))) 0) (.i (.rd (.var 0) (.ar .rem .i64 (.ar .add .i64 (.ar .add .i64 (.var 7000) (.lit 1)) (.len (.var 0))) (.len (.var 0))) 1) .nil)))))))
 (.ret ((.v (.one (.z (.int .i64 (.lit 0))))), [], 18))
 (.ite (.cmp .gtr (.rd (.var 0) (.var 7000) 1) (.rd (.var 0) (.ar .rem .i64 (.ar .add .i64 (.ar .add .i64 (.var 7000) (.lit 1)) (.len (.var 0))) (.len (.var 0))) 1))
 (.ite (.cmp .leq (.rd (.var 0) (.ar .rem .i64 (.ar .add .i64 (.ar .add .i64 (.var 7000) (.lit 1)) (.len (.var 0))) (.len (.var 0))) 1) (.var 2))
 (.ite (.cmp .lss (.var 2) (.rd (.var 0) (.var 7000) 1))
 (.ite (.cmp .gtr (.fn 15 (.i (.rd (.var 0) (.ar .rem .i64 (.ar .add .i64 (.ar .add .i64 (.var 7000) (.lit 1)) (.len (.var 0))) (.len (.var 0))) 0) (.i (.rd (.var 0) (.ar .rem .i64 (.ar .add .i64 (.ar .add .i64 (.var 7000) (.lit 1)) (.len (.var 0))) (.len (.var 0))) 1) (.i (.rd (.var 0) (.var 7000) 0) (.i (.rd (.var 0) (.var 7000) 1) (.i (.var 1) (.i (.var 2) .nil))))))) (.lit 0))
 (.next 0 ⟨[(0, (.ar .add .i64 (.var 7000) (.lit 1)))], [(1, (.not (.var 7001)))], []⟩)
 (.next 0 ⟨[(0, (.ar .add .i64 (.var 7000) (.lit 1)))], [(1, (.var 7001))], []⟩))
 (.next 0 ⟨[(0, (.ar .add .i64 (.var 7000) (.lit 1)))], [(1, (.var 7001))], []⟩))
 (.next 0 ⟨[(0, (.ar .add .i64 (.var 7000) (.lit 1)))], [(1, (.var 7001))], []⟩))
 (.ite (.cmp .leq (.rd (.var 0) (.var 7000) 1) (.var 2))
 (.ite (.cmp .lss (.var 2) (.rd (.var 0) (.ar .rem .i64 (.ar .add .i64 (.ar .add .i64 (.var 7000) (.lit 1)) (.len (.var 0))) (.len (.var 0))) 1))
 (.ite (.cmp .gtr (.fn 15 (.i (.rd (.var 0) (.var 7000) 0) (.i (.rd (.var 0) (.var 7000) 1) (.i (.rd (.var 0) (.ar .rem .i64 (.ar .add .i64 (.ar .add .i64 (.var 7000) (.lit 1)) (.len (.var 0))) (.len (.var 0))) 0) (.i (.rd (.var 0) (.ar .rem .i64 (.ar .add .i64 (.ar .add .i64 (.var 7000) (.lit 1)) (.len (.var 0))) (.len (.var 0))) 1) (.i (.var 1) (.i (.var 2) .nil))))))) (.lit 0))
 (.next 0 ⟨[(0, (.ar .add .i64 (.var 7000) (.lit 1)))], [(1, (.not (.var 7001)))], []⟩)
 (.next 0 ⟨[(0, (.ar .add .i64 (.var 7000) (.lit 1)))], [(1, (.var 7001))], []⟩))
 (.next 0 ⟨[(0, (.ar .add .i64 (.var 7000) (.lit 1)))], [(1, (.var 7001))], []⟩))
 (.next 0 ⟨[(0, (.ar .add .i64 (.var 7000) (.lit 1)))], [(1, (.var 7001))], []⟩)))))))))
 (.ite (.var 7001)
 (.ret ((.v (.one (.z (.int .i64 (.lit 1))))), [], 18))
 (.ret ((.v (.one (.z (.int .i64 (.lit (-1)))))), [], 18)))))
-- end trPlace
set_option maxRecDepth 100000 in
theorem trPlace_is : T.norm 0 (call Tryz.prog ctPo (Lt.of []) 100 165 (symArgs 0 [pts, pt]) [] 0) TT.ret = trPlace := by kernel_rfl
theorem trPlace_low : trPlace.low 1000 = true := by kernel_rfl
end Go.Proofs.YtcjaembdcfppfaaGreat
/- Chapter 38: what poly's twice, place answer. -/
namespace Go.Proofs.YtcjaembdcfppfaaGreat
open Go.RowKit
def nxt (n i : Nat) : Nat := if i + 1 = n then 0 else i + 1
theorem nxt_lt {n i : Nat} (h : i < n) : nxt n i < n := by unfold nxt; split <;> omega
theorem rem_next {n i : Nat} (h : i < n) (hn : n ≤ 281474976710656) : (IntKind.i64.wrap (IntKind.i64.wrap ((i : Int) + 1) + (n : Int))).tmod (n : Int) = (nxt n i : Int) := by
  rw [wrap_in ((i : Int) + 1) (by omega) (by omega), wrap_in _ (by omega) (by omega)]
  rw [Int.tmod_eq_emod_of_nonneg (by omega)]
  unfold nxt
  split
  · rename_i h1
    have : ((i : Int) + 1 + n) = n * 2 := by omega
    rw [this, Int.mul_emod_right]
    rfl
  · rw [Int.add_emod_right, Int.emod_eq_of_lt (by omega) (by omega)]
    rfl
def crossB (r : Rows) (qx qy : Int) (i : Nat) : Bool :=
  if lg r (nxt r.length i) 1 < lg r i 1 then decide (lg r (nxt r.length i) 1 ≤ qy ∧ qy < lg r i 1 ∧ 0 < turnR [.i (lg r (nxt r.length i) 0), .i (lg r (nxt r.length i) 1), .i (lg r i 0), .i (lg r i 1), .i qx, .i qy])
  else decide (lg r i 1 ≤ qy ∧ qy < lg r (nxt r.length i) 1 ∧ 0 < turnR [.i (lg r i 0), .i (lg r i 1), .i (lg r (nxt r.length i) 0), .i (lg r (nxt r.length i) 1), .i qx, .i qy])
def onE (r : Rows) (qx qy : Int) (i : Nat) : Bool := onR [.i qx, .i qy, .i (lg r i 0), .i (lg r i 1), .i (lg r (nxt r.length i) 0), .i (lg r (nxt r.length i) 1)]
def placeN (r : Rows) (qx qy : Int) : Nat → Nat → Bool → Int
  | 0, _, b => if b then 1 else -1
  | f + 1, i, b => if onE r qx qy i then 0 else placeN r qx qy f (i + 1) (b ^^ crossB r qx qy i)
section
variable (W : World) (ds l : List D)
theorem K8b3 : (envOf K8 W ds).fb 3 l = placeL l := by simp only [envOf, K8, K7, K6, K5, K]
theorem K8b61 : (envOf K8 W ds).fb 61 l = onR l := by simp only [envOf, K8]
theorem K8b62 : (envOf K8 W ds).fb 62 l = meetR l := by simp only [envOf, K8]
theorem K8i15 : (envOf K8 W ds).fi 15 l = turnR l := by simp only [envOf, K8, K7, K6, K5, K]
end
theorem pts_len {W : World} {vals : List Value} {ds : List D} {sh : List Sh} (h : repSh W (pts :: sh) vals ds) : (rAt ds 0).length ≤ 281474976710656 := by
  obtain ⟨v, vs', d, ds', rfl, rfl, ⟨d, rfl, h⟩, _⟩ := h
  rw [rep_sl] at h
  obtain ⟨r, rfl, a, n, c, _, hs, _⟩ := h
  have e1 := hs.len
  have e2 := hs.big
  show r.length ≤ _
  omega
theorem gPlace : Gives Tryz.prog 165 [pts, pt] (fun ds => .int .i64 (placeN (rAt ds 0) (iAt ds 1) (iAt ds 2) (rAt ds 0).length 0 false)) := by
  refine GivesIf.all (fn_gives K8 (by kernel_rfl) (fun ρ h => ctPo_ok (Sees.of h 65)) (by kernel_rfl) trPlace_is trPlace_low (by decide) (fun W vals ds hr _ => ?_))
  have hlen := pts_len hr
  simp only [trPlace]
  refine TT.sat_loop (fun v => ∃ i : Nat, v.i 0 = i ∧ i ≤ (rAt ds 0).length ∧ placeN (rAt ds 0) (iAt ds 1) (iAt ds 2) ((rAt ds 0).length - i) i (v.b 1) = placeN (rAt ds 0) (iAt ds 1) (iAt ds 2) (rAt ds 0).length 0 false) (fun v => (rAt ds 0).length - (v.i 0).toNat)
    ⟨0, by simp [val_i, aget, E.ev], by omega, by simp [val_b, aget, B.ev]⟩ (fun v hv => ?_)
  obtain ⟨i, i0, i1, i2⟩ := hv
  simp only [TT.sat_ret, TT.sat_ite, TT.sat_ob, TT.sat_next, TT.sat_stuck, put_i, put_b, put_d, put_fi, put_fb, put_fd, Ob.ok, B.ev, E.ev, X.ev, AL.ev, cmp_t, cmp_f, arEv, V.plain, V2.plain, S.plain, S0.plain, V.val, V2.val, S.val, S0.val, bV, iV, List.all_cons, List.all_nil, Bool.and_true, Bool.and_self, envOf_i, envOf_b, envOf_d, List.map_cons, List.map_nil, true_and, Bool.not_eq_true', Bool.not_eq_false', Bool.not_not, Bool.and_eq_true, and_f, cell_lg, cell_lb, cell_lr, cmpP, val_i, val_b, val_d, aget, Nat.reduceBEq, beq_self_eq_true, Bool.false_eq_true, if_true, if_false, Nat.reduceLT, Nat.reduceSub, Nat.sub_self, Nat.lt_irrefl, K8b3, K8b61, K8b62, K8i15, i0]
  refine ⟨fun hc => ?_, fun hc => ?_⟩
  · have hi : i < (rAt ds 0).length := by omega
    have hn := nxt_lt hi
    obtain ⟨f, hf⟩ : ∃ f, (rAt ds 0).length - i = f + 1 := ⟨(rAt ds 0).length - i - 1, by omega⟩
    rw [rem_next hi hlen, wrap_in ((i : Int) + 1) (by omega) (by omega)]
    rw [hf, placeN] at i2
    have hf' : (rAt ds 0).length - (i + 1) = f := by omega
    have N : ∀ b : Bool, placeN (rAt ds 0) (iAt ds 1) (iAt ds 2) f (i + 1) b = placeN (rAt ds 0) (iAt ds 1) (iAt ds 2) (rAt ds 0).length 0 false → (∃ j : Nat, (i : Int) + 1 = j ∧ j ≤ (rAt ds 0).length ∧ placeN (rAt ds 0) (iAt ds 1) (iAt ds 2) ((rAt ds 0).length - j) j b = placeN (rAt ds 0) (iAt ds 1) (iAt ds 2) (rAt ds 0).length 0 false) :=
      fun b hb => ⟨i + 1, rfl, by omega, by rw [hf']; exact hb⟩
    refine ⟨by omega, by omega, by omega, by omega, by omega, fun h1 => ?_, fun h1 => ?_⟩
    · rw [if_pos (show onE (rAt ds 0) (iAt ds 1) (iAt ds 2) i = true from h1)] at i2
      rw [← i2]
    · rw [if_neg (by rw [onE, h1]; decide)] at i2
      unfold crossB at i2
      have M : (rAt ds 0).length - ((i : Int) + 1).toNat < (rAt ds 0).length - (i : Int).toNat := by omega
      refine ⟨fun a => ⟨fun b => ⟨fun c => ⟨fun d => ⟨N _ ?_, M⟩, fun d => ⟨N _ ?_, M⟩⟩, fun c => ⟨N _ ?_, M⟩⟩, fun b => ⟨N _ ?_, M⟩⟩, fun a => ⟨fun b => ⟨fun c => ⟨fun d => ⟨N _ ?_, M⟩, fun d => ⟨N _ ?_, M⟩⟩, fun c => ⟨N _ ?_, M⟩⟩, fun b => ⟨N _ ?_, M⟩⟩⟩
      all_goals (rw [← i2]; clear i2 N M; simp [*])
  · have : (rAt ds 0).length - i = 0 := by omega
    rw [this, placeN] at i2
    rw [← i2]
    exact ⟨fun h => by rw [h]; rfl, fun h => by rw [h]; rfl⟩
def twiceN (r : Rows) : Nat → Nat → Int → Int
  | 0, _, n => n
  | f + 1, i, n => twiceN r f (i + 1) (IntKind.i64.wrap (n + IntKind.i64.wrap (IntKind.i64.wrap (lg r i 0 * lg r (nxt r.length i) 1) - IntKind.i64.wrap (lg r i 1 * lg r (nxt r.length i) 0))))
theorem gTwice : Gives Tryz.prog 101 [pts] (fun ds => .int .i64 (twiceN (rAt ds 0) (rAt ds 0).length 0 0)) := by
  refine GivesIf.all (fn_gives K8 (by kernel_rfl) (fun ρ h => ctPo_ok (Sees.of h 65)) (by kernel_rfl) trTwice_is trTwice_low (by decide) (fun W vals ds hr _ => ?_))
  have hlen := pts_len hr
  simp only [trTwice]
  refine TT.sat_loop (fun v => ∃ i : Nat, v.i 0 = i ∧ i ≤ (rAt ds 0).length ∧ twiceN (rAt ds 0) ((rAt ds 0).length - i) i (v.i 1) = twiceN (rAt ds 0) (rAt ds 0).length 0 0) (fun v => (rAt ds 0).length - (v.i 0).toNat)
    ⟨0, by simp [val_i, aget, E.ev], by omega, by simp [val_i, aget, E.ev]⟩ (fun v hv => ?_)
  obtain ⟨i, i0, i1, i2⟩ := hv
  simp only [TT.sat_ret, TT.sat_ite, TT.sat_ob, TT.sat_next, TT.sat_stuck, put_i, put_b, put_d, put_fi, put_fb, put_fd, Ob.ok, B.ev, E.ev, X.ev, AL.ev, cmp_t, cmp_f, arEv, V.plain, V2.plain, S.plain, S0.plain, V.val, V2.val, S.val, S0.val, bV, iV, List.all_cons, List.all_nil, Bool.and_true, Bool.and_self, envOf_i, envOf_b, envOf_d, List.map_cons, List.map_nil, true_and, Bool.not_eq_true', Bool.not_eq_false', Bool.not_not, Bool.and_eq_true, and_f, cell_lg, cell_lb, cell_lr, cmpP, val_i, val_b, val_d, aget, Nat.reduceBEq, beq_self_eq_true, Bool.false_eq_true, if_true, if_false, Nat.reduceLT, Nat.reduceSub, Nat.sub_self, Nat.lt_irrefl, i0]
  refine ⟨fun hc => ?_, fun hc => ?_⟩
  · have hi : i < (rAt ds 0).length := by omega
    have hn := nxt_lt hi
    obtain ⟨f, hf⟩ : ∃ f, (rAt ds 0).length - i = f + 1 := ⟨(rAt ds 0).length - i - 1, by omega⟩
    rw [rem_next hi hlen, wrap_in ((i : Int) + 1) (by omega) (by omega)]
    rw [hf, twiceN] at i2
    have hf' : (rAt ds 0).length - (i + 1) = f := by omega
    exact ⟨by omega, by omega, by omega, by omega, by omega, ⟨i + 1, rfl, by omega, by rw [hf']; exact i2⟩, by omega⟩
  · have : (rAt ds 0).length - i = 0 := by omega
    rw [this, twiceN] at i2
    rw [← i2]
end Go.Proofs.YtcjaembdcfppfaaGreat
/- Chapter 38: what poly's simple answers. -/
namespace Go.Proofs.YtcjaembdcfppfaaGreat
open Go.RowKit
def meetE2 (r : Rows) (i k : Nat) : Bool := meetR [.i (lg r i 0), .i (lg r i 1), .i (lg r (nxt r.length i) 0), .i (lg r (nxt r.length i) 1), .i (lg r k 0), .i (lg r k 1), .i (lg r (nxt r.length k) 0), .i (lg r (nxt r.length k) 1)]
def pairOk (r : Rows) (i k : Nat) : Bool := decide (k ≤ i + 1 ∨ (i = 0 ∧ k + 1 = r.length)) || !meetE2 r i k
def rowN (r : Rows) (i : Nat) : Nat → Nat → Bool
  | 0, _ => true
  | f + 1, k => pairOk r i k && rowN r i f (k + 1)
def simpleN (r : Rows) : Nat → Nat → Bool
  | 0, _ => true
  | f + 1, i => rowN r i r.length 0 && simpleN r f (i + 1)
theorem gSimple : Gives Tryz.prog 100 [pts] (fun ds => .bool (simpleN (rAt ds 0) (rAt ds 0).length 0)) := by
  refine GivesIf.all (fn_gives K8 (by kernel_rfl) (fun ρ h => ctPo_ok (Sees.of h 65)) (by kernel_rfl) trSimple_is trSimple_low (by decide) (fun W vals ds hr _ => ?_))
  have hlen := pts_len hr
  simp only [trSimple]
  refine TT.sat_loop (fun v => ∃ i : Nat, v.i 0 = i ∧ i ≤ (rAt ds 0).length ∧ simpleN (rAt ds 0) ((rAt ds 0).length - i) i = simpleN (rAt ds 0) (rAt ds 0).length 0) (fun v => (rAt ds 0).length - (v.i 0).toNat)
    ⟨0, by simp [val_i, aget, E.ev], by omega, rfl⟩ (fun v hv => ?_)
  obtain ⟨i, i0, i1, i2⟩ := hv
  simp only [TT.sat_ret, TT.sat_ite, TT.sat_ob, TT.sat_next, TT.sat_stuck, put_i, put_b, put_d, put_fi, put_fb, put_fd, Ob.ok, B.ev, E.ev, X.ev, AL.ev, cmp_t, cmp_f, arEv, V.plain, V2.plain, S.plain, S0.plain, V.val, V2.val, S.val, S0.val, bV, iV, List.all_cons, List.all_nil, Bool.and_true, Bool.and_self, envOf_i, envOf_b, envOf_d, List.map_cons, List.map_nil, true_and, Bool.not_eq_true', Bool.not_eq_false', Bool.not_not, Bool.and_eq_true, and_f, cell_lg, cell_lb, cell_lr, cmpP, val_i, val_b, val_d, aget, Nat.reduceBEq, beq_self_eq_true, Bool.false_eq_true, if_true, if_false, Nat.reduceLT, Nat.reduceSub, Nat.sub_self, Nat.lt_irrefl, i0]
  refine ⟨fun hc => ?_, fun hc => ?_⟩
  · have hi : i < (rAt ds 0).length := by omega
    have hn := nxt_lt hi
    obtain ⟨f, hf⟩ : ∃ f, (rAt ds 0).length - i = f + 1 := ⟨(rAt ds 0).length - i - 1, by omega⟩
    rw [rem_next hi hlen]
    rw [hf, simpleN] at i2
    have hf' : (rAt ds 0).length - (i + 1) = f := by omega
    refine ⟨by omega, by omega, by omega, by omega, by omega, ?_⟩
    refine TT.sat_loop (fun u => ∃ k : Nat, u.i 0 = k ∧ k ≤ (rAt ds 0).length ∧ (rowN (rAt ds 0) i ((rAt ds 0).length - k) k && simpleN (rAt ds 0) f (i + 1)) = simpleN (rAt ds 0) (rAt ds 0).length 0) (fun u => (rAt ds 0).length - (u.i 0).toNat)
      ⟨0, by simp [val_i, aget, E.ev], by omega, i2⟩ (fun u hu => ?_)
    obtain ⟨k, k0, k1, k2⟩ := hu
    simp only [TT.sat_ret, TT.sat_ite, TT.sat_ob, TT.sat_next, TT.sat_stuck, put_i, put_b, put_d, put_fi, put_fb, put_fd, Ob.ok, B.ev, E.ev, X.ev, AL.ev, cmp_t, cmp_f, arEv, V.plain, V2.plain, S.plain, S0.plain, V.val, V2.val, S.val, S0.val, bV, iV, List.all_cons, List.all_nil, Bool.and_true, Bool.and_self, envOf_i, envOf_b, envOf_d, List.map_cons, List.map_nil, true_and, Bool.not_eq_true', Bool.not_eq_false', Bool.not_not, Bool.and_eq_true, and_f, cell_lg, cell_lb, cell_lr, cmpP, val_i, val_b, val_d, aget, Nat.reduceBEq, beq_self_eq_true, Bool.false_eq_true, if_true, if_false, Nat.reduceLT, Nat.reduceSub, Nat.sub_self, Nat.lt_irrefl, i0, k0, K8b62]
    refine ⟨fun hk => ?_, fun hk => ?_⟩
    · have hkn : k < (rAt ds 0).length := by omega
      have hn' := nxt_lt hkn
      obtain ⟨g, hg⟩ : ∃ g, (rAt ds 0).length - k = g + 1 := ⟨(rAt ds 0).length - k - 1, by omega⟩
      rw [rem_next hkn hlen, rem_next hi hlen, wrap_in ((i : Int) + 1) (by omega) (by omega), wrap_in ((k : Int) + 1) (by omega) (by omega), wrap_in (((rAt ds 0).length : Int) - 1) (by omega) (by omega)]
      rw [hg, rowN] at k2
      have hg' : (rAt ds 0).length - (k + 1) = g := by omega
      have N : pairOk (rAt ds 0) i k = true → (∃ j : Nat, (k : Int) + 1 = j ∧ j ≤ (rAt ds 0).length ∧ (rowN (rAt ds 0) i ((rAt ds 0).length - j) j && simpleN (rAt ds 0) f (i + 1)) = simpleN (rAt ds 0) (rAt ds 0).length 0) ∧ (rAt ds 0).length - ((k : Int) + 1).toNat < (rAt ds 0).length - (k : Int).toNat :=
        fun h => ⟨⟨k + 1, rfl, by omega, by rw [hg', ← k2, h]; rfl⟩, by omega⟩
      have B : pairOk (rAt ds 0) i k = false → Value.bool false = Value.bool (simpleN (rAt ds 0) (rAt ds 0).length 0) := fun h => by rw [← k2, h]; rfl
      have P1 : (k ≤ i + 1 ∨ (i = 0 ∧ k + 1 = (rAt ds 0).length)) → pairOk (rAt ds 0) i k = true := fun h => by unfold pairOk; rw [decide_eq_true h]; rfl
      have P2 : ¬ (k ≤ i + 1 ∨ (i = 0 ∧ k + 1 = (rAt ds 0).length)) → pairOk (rAt ds 0) i k = !meetE2 (rAt ds 0) i k := fun h => by unfold pairOk; rw [decide_eq_false h]; rfl
      refine ⟨by omega, by omega, by omega, by omega, by omega, fun a => N (P1 (by omega)), fun a => ⟨fun b => ⟨fun c => N (P1 (by omega)), fun c => ⟨fun d => B ?_, fun d => N ?_⟩⟩, fun b => ⟨fun d => B ?_, fun d => N ?_⟩⟩⟩
      all_goals (rw [P2 (by omega)]; unfold meetE2; rw [d]; rfl)
    · rw [if_neg (by decide)]
      have : (rAt ds 0).length - k = 0 := by omega
      rw [this, rowN, Bool.true_and] at k2
      rw [wrap_in ((i : Int) + 1) (by omega) (by omega)]
      exact ⟨⟨i + 1, rfl, by omega, by rw [hf']; exact k2⟩, by omega⟩
  · have : (rAt ds 0).length - i = 0 := by omega
    rw [this, simpleN] at i2
    rw [← i2]
end Go.Proofs.YtcjaembdcfppfaaGreat
/- Chapter 38: contracts of poly's simple, twice, place. -/
namespace Go.Proofs.YtcjaembdcfppfaaGreat
open Go.RowKit
def simpleL (ds : List D) : Bool := simpleN (rAt ds 0) (rAt ds 0).length 0
def twiceL (ds : List D) : Int := twiceN (rAt ds 0) (rAt ds 0).length 0 0
def placeI (ds : List D) : Int := placeN (rAt ds 0) (iAt ds 1) (iAt ds 2) (rAt ds 0).length 0 false
def K9 : Interp where
  fi n l := match n with | 65 => twiceL l | 67 => placeI l | n => K8.fi n l
  fb n l := match n with | 66 => simpleL l | n => K8.fb n l
  fd _ _ := []
def cSimple := ctD [pts] fun al => .ret (bV (bF 66 simpleL al))
def cTwice := ctD [pts] fun al => .ret (iV .i64 (iF 65 twiceL al))
def cPlaceP := ctD [pts, pt] fun al => .ret (iV .i64 (iF 67 placeI al))
section
variable {ρ : Env} (h : Sees ρ K9 68)
include h
theorem cSimple_ok : CtOne Tryz.prog ρ 100 cSimple :=
  ctD_ok gSimple (fun _ => rfl) (fun al => by simp only [bV, V.s0, V.val, V2.val, S.val, S0.val, bF_ev (s := 66) (f := simpleL) (fun l => by rw [(h 66 l (by decide)).2]; simp only [K9])]; rfl)
theorem cTwice_ok : CtOne Tryz.prog ρ 101 cTwice :=
  ctD_ok gTwice (fun _ => rfl) (fun al => by simp only [iV, V.s0, V.val, V2.val, S.val, S0.val, iF_ev (s := 65) (f := twiceL) (fun l => by rw [(h 65 l (by decide)).1]; simp only [K9])]; rfl)
theorem cPlaceP_ok : CtOne Tryz.prog ρ 165 cPlaceP :=
  ctD_ok gPlace (fun _ => rfl) (fun al => by simp only [iV, V.s0, V.val, V2.val, S.val, S0.val, iF_ev (s := 67) (f := placeI) (fun l => by rw [(h 67 l (by decide)).1]; simp only [K9])]; rfl)
theorem K9_K8 : Sees ρ K8 65 := h.trans (by decide) fun n l hn => by
  constructor
  · simp only [K9]
    split <;> first | omega | rfl
  · simp only [K9]
    split <;> first | omega | rfl
end
end Go.Proofs.YtcjaembdcfppfaaGreat
/- Chapter 38: the tree of poly.order. -/
namespace Go.Proofs.YtcjaembdcfppfaaGreat
open Go.RowKit
def ct9 : Ct := (100, cSimple) :: (101, cTwice) :: (165, cPlaceP) :: ctPo
-- term trOrder: call Tryz.prog ctPo (Lt.of []) 100 97 (symArgs 0 [pt, pt]) [] 0
def trOrder : TT OpR :=
(.ite (.cmp .lss (.var 0) (.var 2))
 (.ite (.cmp .lss (.var 1) (.var 3))
 (.ret ((.v (.one (.z (.int .i64 (.lit (-1)))))), [], 3))
 (.ite (.cmp .gtr (.var 1) (.var 3))
 (.ret ((.v (.one (.z (.int .i64 (.lit (-1)))))), [], 3))
 (.ret ((.v (.one (.z (.int .i64 (.lit (-1)))))), [], 3))))
 (.ite (.cmp .gtr (.var 0) (.var 2))
 (.ite (.cmp .lss (.var 1) (.var 3))
 (.ret ((.v (.one (.z (.int .i64 (.lit 1))))), [], 3))
 (.ite (.cmp .gtr (.var 1) (.var 3))
 (.ret ((.v (.one (.z (.int .i64 (.lit 1))))), [], 3))
 (.ret ((.v (.one (.z (.int .i64 (.lit 1))))), [], 3))))
 (.ite (.cmp .lss (.var 1) (.var 3))
 (.ret ((.v (.one (.z (.int .i64 (.lit (-1)))))), [], 3))
 (.ite (.cmp .gtr (.var 1) (.var 3))
 (.ret ((.v (.one (.z (.int .i64 (.lit 1))))), [], 3))
 (.ret ((.v (.one (.z (.int .i64 (.lit 0))))), [], 3))))))
-- end trOrder
set_option maxRecDepth 100000 in
theorem trOrder_is : T.norm 0 (call Tryz.prog ctPo (Lt.of []) 100 97 (symArgs 0 [pt, pt]) [] 0) TT.ret = trOrder := by kernel_rfl
theorem trOrder_low : trOrder.low 1000 = true := by kernel_rfl
end Go.Proofs.YtcjaembdcfppfaaGreat
/- Chapter 38: poly.order. -/
namespace Go.Proofs.YtcjaembdcfppfaaGreat
open Go.RowKit
def orderI (ax ay bx by' : Int) : Int := if ax < bx then -1 else if bx < ax then 1 else if ay < by' then -1 else if by' < ay then 1 else 0
def orderL (ds : List D) : Int := orderI (iAt ds 0) (iAt ds 1) (iAt ds 2) (iAt ds 3)
theorem gOrder : Gives Tryz.prog 97 [pt, pt] (fun ds => .int .i64 (orderL ds)) := by
  refine GivesIf.all (fn_gives K8 (by kernel_rfl) (fun ρ h => ctPo_ok (Sees.of h 65)) (by kernel_rfl) trOrder_is trOrder_low (by decide) (fun W vals ds hr _ => ?_))
  simp only [trOrder, TT.sat_ret, TT.sat_ite, TT.sat_ob, TT.sat_next, TT.sat_stuck, put_i, put_b, put_d, put_fi, put_fb, put_fd, Ob.ok, B.ev, E.ev, X.ev, AL.ev, cmp_t, cmp_f, arEv, V.plain, V2.plain, S.plain, S0.plain, V.val, V2.val, S.val, S0.val, bV, iV, List.all_cons, List.all_nil, Bool.and_true, Bool.and_self, envOf_i, envOf_b, envOf_d, List.map_cons, List.map_nil, true_and, Bool.not_eq_true', Bool.not_eq_false', Bool.not_not, Bool.and_eq_true, and_f, cell_lg, cell_lb, cell_lr, cmpP, val_i, val_b, val_d, aget, Nat.reduceBEq, beq_self_eq_true, Bool.false_eq_true, if_true, if_false, Nat.reduceLT, Nat.reduceSub, Nat.sub_self, Nat.lt_irrefl]
  simp only [orderL, orderI]
  refine ⟨fun h => ⟨fun h' => ?_, fun h' => ⟨fun h'' => ?_, fun h'' => ?_⟩⟩, fun h => ⟨fun a => ⟨fun h' => ?_, fun h' => ⟨fun h'' => ?_, fun h'' => ?_⟩⟩, fun a => ⟨fun h' => ?_, fun h' => ⟨fun h'' => ?_, fun h'' => ?_⟩⟩⟩⟩
  all_goals (congr 1; (repeat' split) <;> omega)
def KA : Interp where
  fi n l := match n with | 68 => orderL l | n => K9.fi n l
  fb n l := K9.fb n l
  fd _ _ := []
def cOrder := ctD [pt, pt] fun al => .ret (iV .i64 (iF 68 orderL al))
section
variable {ρ : Env} (h : Sees ρ KA 69)
include h
theorem cOrder_ok : CtOne Tryz.prog ρ 97 cOrder :=
  ctD_ok gOrder (fun _ => rfl) (fun al => by simp only [iV, V.s0, V.val, V2.val, S.val, S0.val, iF_ev (s := 68) (f := orderL) (fun l => by rw [(h 68 l (by decide)).1]; simp only [KA])])
theorem KA_K9 : Sees ρ K9 68 := h.trans (by decide) fun n l hn => by
  constructor
  · simp only [KA]
    split <;> first | omega | rfl
  · rfl
end
def ctA : Ct := (97, cOrder) :: ct9
theorem ctA_ok {ρ : Env} (h : Sees ρ KA 69) : CtOk Tryz.prog ρ ctA := .cons (cOrder_ok h) <| .cons (cSimple_ok (KA_K9 h)) <| .cons (cTwice_ok (KA_K9 h)) <| .cons (cPlaceP_ok (KA_K9 h)) (ctPo_ok (K9_K8 (KA_K9 h)))
end Go.Proofs.YtcjaembdcfppfaaGreat
/- Chapter 38: the trees of poly.Valid, poly.In. -/
namespace Go.Proofs.YtcjaembdcfppfaaGreat
open Go.RowKit
-- term trPoV: call Tryz.prog ctA (Lt.of []) 100 75 (symArgs 0 [pts]) [] 0
def trPoV : TT OpR :=
(.ite (.cmp .lss (.len (.var 0)) (.lit 3))
 (.ret ((.v (.one (.z (.bool (.lit false))))), [], 0))
 (.ite (.cmp .gtr (.len (.var 0)) (.lit 24))
 (.ret ((.v (.one (.z (.bool (.lit false))))), [], 0))
 (.loop 0 1000 ⟨[(0, (.lit 0))], [], []⟩
 (.ite (.cmp .lss (.var 1000) (.len (.var 0)))
 (.ob (.tru (.cmp .leq (.lit 0) (.var 1000)))
 (.ob (.tru (.cmp .lss (.var 1000) (.len (.var 0))))
 (.ite (.not (.fn 3 (.i (.rd (.var 0) (.var 1000) 0) (.i (.rd (.var 0) (.var 1000) 1) .nil))))
 (.ite (.cmp .geq (.var 1000) (.lit 0))
 (.ret ((.v (.one (.z (.bool (.lit false))))), [], 2))
 (.loop 1 3000 ⟨[(0, (.lit 0))], [], []⟩
 (.ite (.cmp .lss (.var 3000) (.len (.var 0)))
 (.ite (.cmp .gtr (.var 3000) (.lit 0))
 (.ob (.tru (.lit true))
 (.ob (.tru (.cmp .lss (.lit 0) (.len (.var 0))))
 (.ob (.tru (.cmp .leq (.lit 0) (.var 3000)))
 (.ob (.tru (.cmp .lss (.var 3000) (.len (.var 0))))
 (.ite (.cmp .geq (.fn 68 (.i (.rd (.var 0) (.lit 0) 0) (.i (.rd (.var 0) (.lit 0) 1) (.i (.rd (.var 0) (.var 3000) 0) (.i (.rd (.var 0) (.var 3000) 1) .nil))))) (.lit 0))
 (.ret ((.v (.one (.z (.bool (.lit false))))), [], 8))
 (.ob (.tru (.cmp .neq (.len (.var 0)) (.lit 0)))
 (.ob (.tru (.cmp .leq (.lit 0) (.ar .rem .i64 (.ar .add .i64 (.ar .sub .i64 (.var 3000) (.lit 1)) (.len (.var 0))) (.len (.var 0)))))
 (.ob (.tru (.cmp .lss (.ar .rem .i64 (.ar .add .i64 (.ar .sub .i64 (.var 3000) (.lit 1)) (.len (.var 0))) (.len (.var 0))) (.len (.var 0))))
 (.ob (.tru (.cmp .leq (.lit 0) (.var 3000)))
 (.ob (.tru (.cmp .lss (.var 3000) (.len (.var 0))))
 (.ob (.tru (.cmp .neq (.len (.var 0)) (.lit 0)))
 (.ob (.tru (.cmp .leq (.lit 0) (.ar .rem .i64 (.ar .add .i64 (.ar .add .i64 (.var 3000) (.lit 1)) (.len (.var 0))) (.len (.var 0)))))
 (.ob (.tru (.cmp .lss (.ar .rem .i64 (.ar .add .i64 (.ar .add .i64 (.var 3000) (.lit 1)) (.len (.var 0))) (.len (.var 0))) (.len (.var 0))))
 (.ite (.cmp .eql (.fn 15 (.i (.rd (.var 0) (.ar .rem .i64 (.ar .add .i64 (.ar .sub .i64 (.var 3000) (.lit 1)) (.len (.var 0))) (.len (.var 0))) 0) (.i (.rd (.var 0) (.ar .rem .i64 (.ar .add .i64 (.ar .sub .i64 (.var 3000) (.lit 1)) (.len (.var 0))) (.len (.var 0))) 1) (.i (.rd (.var 0) (.var 3000) 0) (.i (.rd (.var 0) (.var 3000) 1) (.i (.rd (.var 0) (.ar .rem .i64 (.ar .add .i64 (.ar .add .i64 (.var 3000) (.lit 1)) (.len (.var 0))) (.len (.var 0))) 0) (.i (.rd (.var 0) (.ar .rem .i64 (.ar .add .i64 (.ar .add .i64 (.var 3000) (.lit 1)) (.len (.var 0))) (.len (.var 0))) 1) .nil))))))) (.lit 0))
 (.ret ((.v (.one (.z (.bool (.lit false))))), [], 8))
 (.next 1 ⟨[(0, (.ar .add .i64 (.var 3000) (.lit 1)))], [], []⟩)))))))))))))))
 (.ob (.tru (.cmp .neq (.len (.var 0)) (.lit 0)))
 (.ob (.tru (.cmp .leq (.lit 0) (.ar .rem .i64 (.ar .add .i64 (.ar .sub .i64 (.var 3000) (.lit 1)) (.len (.var 0))) (.len (.var 0)))))
 (.ob (.tru (.cmp .lss (.ar .rem .i64 (.ar .add .i64 (.ar .sub .i64 (.var 3000) (.lit 1)) (.len (.var 0))) (.len (.var 0))) (.len (.var 0))))
 (.ob (.tru (.cmp .leq (.lit 0) (.var 3000)))
 (.ob (.tru (.cmp .lss (.var 3000) (.len (.var 0))))
 (.ob (.tru (.cmp .neq (.len (.var 0)) (.lit 0)))
 (.ob (.tru (.cmp .leq (.lit 0) (.ar .rem .i64 (.ar .add .i64 (.ar .add .i64 (.var 3000) (.lit 1)) (.len (.var 0))) (.len (.var 0)))))
 (.ob (.tru (.cmp .lss (.ar .rem .i64 (.ar .add .i64 (.ar .add .i64 (.var 3000) (.lit 1)) (.len (.var 0))) (.len (.var 0))) (.len (.var 0))))
 (.ite (.cmp .eql (.fn 15 (.i (.rd (.var 0) (.ar .rem .i64 (.ar .add .i64 (.ar .sub .i64 (.var 3000) (.lit 1)) (.len (.var 0))) (.len (.var 0))) 0) (.i (.rd (.var 0) (.ar .rem .i64 (.ar .add .i64 (.ar .sub .i64 (.var 3000) (.lit 1)) (.len (.var 0))) (.len (.var 0))) 1) (.i (.rd (.var 0) (.var 3000) 0) (.i (.rd (.var 0) (.var 3000) 1) (.i (.rd (.var 0) (.ar .rem .i64 (.ar .add .i64 (.ar .add .i64 (.var 3000) (.lit 1)) (.len (.var 0))) (.len (.var 0))) 0) (.i (.rd (.var 0) (.ar .rem .i64 (.ar .add .i64 (.ar .add .i64 (.var 3000) (.lit 1)) (.len (.var 0))) (.len (.var 0))) 1) .nil))))))) (.lit 0))
 (.ret ((.v (.one (.z (.bool (.lit false))))), [], 8))
 (.next 1 ⟨[(0, (.ar .add .i64 (.var 3000) (.lit 1)))], [], []⟩)))))))))))
 (.ite (.fn 66 (.x (.var 0) .nil))
 (.ret ((.v (.one (.z (.bool (.cmp .gtr (.fn 65 (.x (.var 0) .nil)) (.lit 0)))))), [], 8))
 (.ret ((.v (.one (.z (.bool (.lit false))))), [], 8))))))
 (.next 0 ⟨[(0, (.ar .add .i64 (.var 1000) (.lit 1)))], [], []⟩))))
 (.loop 1 3000 ⟨[(0, (.lit 0))], [], []⟩
 (.ite (.cmp .lss (.var 3000) (.len (.var 0)))
 (.ite (.cmp .gtr (.var 3000) (.lit 0))
 (.ob (.tru (.lit true))
 (.ob (.tru (.cmp .lss (.lit 0) (.len (.var 0))))
 (.ob (.tru (.cmp .leq (.lit 0) (.var 3000)))
 (.ob (.tru (.cmp .lss (.var 3000) (.len (.var 0))))
 (.ite (.cmp .geq (.fn 68 (.i (.rd (.var 0) (.lit 0) 0) (.i (.rd (.var 0) (.lit 0) 1) (.i (.rd (.var 0) (.var 3000) 0) (.i (.rd (.var 0) (.var 3000) 1) .nil))))) (.lit 0))
 (.ret ((.v (.one (.z (.bool (.lit false))))), [], 8))
 (.ob (.tru (.cmp .neq (.len (.var 0)) (.lit 0)))
 (.ob (.tru (.cmp .leq (.lit 0) (.ar .rem .i64 (.ar .add .i64 (.ar .sub .i64 (.var 3000) (.lit 1)) (.len (.var 0))) (.len (.var 0)))))
 (.ob (.tru (.cmp .lss (.ar .rem .i64 (.ar .add .i64 (.ar .sub .i64 (.var 3000) (.lit 1)) (.len (.var 0))) (.len (.var 0))) (.len (.var 0))))
 (.ob (.tru (.cmp .leq (.lit 0) (.var 3000)))
 (.ob (.tru (.cmp .lss (.var 3000) (.len (.var 0))))
 (.ob (.tru (.cmp .neq (.len (.var 0)) (.lit 0)))
 (.ob (.tru (.cmp .leq (.lit 0) (.ar .rem .i64 (.ar .add .i64 (.ar .add .i64 (.var 3000) (.lit 1)) (.len (.var 0))) (.len (.var 0)))))
 (.ob (.tru (.cmp .lss (.ar .rem .i64 (.ar .add .i64 (.ar .add .i64 (.var 3000) (.lit 1)) (.len (.var 0))) (.len (.var 0))) (.len (.var 0))))
 (.ite (.cmp .eql (.fn 15 (.i (.rd (.var 0) (.ar .rem .i64 (.ar .add .i64 (.ar .sub .i64 (.var 3000) (.lit 1)) (.len (.var 0))) (.len (.var 0))) 0) (.i (.rd (.var 0) (.ar .rem .i64 (.ar .add .i64 (.ar .sub .i64 (.var 3000) (.lit 1)) (.len (.var 0))) (.len (.var 0))) 1) (.i (.rd (.var 0) (.var 3000) 0) (.i (.rd (.var 0) (.var 3000) 1) (.i (.rd (.var 0) (.ar .rem .i64 (.ar .add .i64 (.ar .add .i64 (.var 3000) (.lit 1)) (.len (.var 0))) (.len (.var 0))) 0) (.i (.rd (.var 0) (.ar .rem .i64 (.ar .add .i64 (.ar .add .i64 (.var 3000) (.lit 1)) (.len (.var 0))) (.len (.var 0))) 1) .nil))))))) (.lit 0))
 (.ret ((.v (.one (.z (.bool (.lit false))))), [], 8))
 (.next 1 ⟨[(0, (.ar .add .i64 (.var 3000) (.lit 1)))], [], []⟩)))))))))))))))
 (.ob (.tru (.cmp .neq (.len (.var 0)) (.lit 0)))
 (.ob (.tru (.cmp .leq (.lit 0) (.ar .rem .i64 (.ar .add .i64 (.ar .sub .i64 (.var 3000) (.lit 1)) (.len (.var 0))) (.len (.var 0)))))
 (.ob (.tru (.cmp .lss (.ar .rem .i64 (.ar .add .i64 (.ar .sub .i64 (.var 3000) (.lit 1)) (.len (.var 0))) (.len (.var 0))) (.len (.var 0))))
 (.ob (.tru (.cmp .leq (.lit 0) (.var 3000)))
 (.ob (.tru (.cmp .lss (.var 3000) (.len (.var 0))))
 (.ob (.tru (.cmp .neq (.len (.var 0)) (.lit 0)))
 (.ob (.tru (.cmp .leq (.lit 0) (.ar .rem .i64 (.ar .add .i64 (.ar .add .i64 (.var 3000) (.lit 1)) (.len (.var 0))) (.len (.var 0)))))
 (.ob (.tru (.cmp .lss (.ar .rem .i64 (.ar .add .i64 (.ar .add .i64 (.var 3000) (.lit 1)) (.len (.var 0))) (.len (.var 0))) (.len (.var 0))))
 (.ite (.cmp .eql (.fn 15 (.i (.rd (.var 0) (.ar .rem .i64 (.ar .add .i64 (.ar .sub .i64 (.var 3000) (.lit 1)) (.len (.var 0))) (.len (.var 0))) 0) (.i (.rd (.var 0) (.ar .rem .i64 (.ar .add .i64 (.ar .sub .i64 (.var 3000) (.lit 1)) (.len (.var 0))) (.len (.var 0))) 1) (.i (.rd (.var 0) (.var 3000) 0) (.i (.rd (.var 0) (.var 3000) 1) (.i (.rd (.var 0) (.ar .rem .i64 (.ar .add .i64 (.ar .add .i64 (.var 3000) (.lit 1)) (.len (.var 0))) (.len (.var 0))) 0) (.i (.rd (.var 0) (.ar .rem .i64 (.ar .add .i64 (.ar .add .i64 (.var 3000) (.lit 1)) (.len (.var 0))) (.len (.var 0))) 1) .nil))))))) (.lit 0))
 (.ret ((.v (.one (.z (.bool (.lit false))))), [], 8))
 (.next 1 ⟨[(0, (.ar .add .i64 (.var 3000) (.lit 1)))], [], []⟩)))))))))))
 (.ite (.fn 66 (.x (.var 0) .nil))
 (.ret ((.v (.one (.z (.bool (.cmp .gtr (.fn 65 (.x (.var 0) .nil)) (.lit 0)))))), [], 8))
 (.ret ((.v (.one (.z (.bool (.lit false))))), [], 8)))))))))
-- end trPoV
set_option maxRecDepth 100000 in
theorem trPoV_is : T.norm 0 (call Tryz.prog ctA (Lt.of []) 100 75 (symArgs 0 [pts]) [] 0) TT.ret = trPoV := by kernel_rfl
theorem trPoV_low : trPoV.low 1000 = true := by kernel_rfl
end Go.Proofs.YtcjaembdcfppfaaGreat
/- Chapter 38: what poly.Valid answers. -/
namespace Go.Proofs.YtcjaembdcfppfaaGreat
open Go.RowKit
def prv (n i : Nat) : Nat := if i = 0 then n - 1 else i - 1
theorem prv_lt {n i : Nat} (h : i < n) : prv n i < n := by unfold prv; split <;> omega
theorem rem_prev {n i : Nat} (h : i < n) (hn : n ≤ 281474976710656) : (IntKind.i64.wrap (IntKind.i64.wrap ((i : Int) - 1) + (n : Int))).tmod (n : Int) = (prv n i : Int) := by
  rw [wrap_in ((i : Int) - 1) (by omega) (by omega), wrap_in _ (by omega) (by omega)]
  rw [Int.tmod_eq_emod_of_nonneg (by omega)]
  unfold prv
  split
  · rename_i h1
    rw [Int.emod_eq_of_lt (by omega) (by omega)]
    omega
  · rw [Int.add_emod_right, Int.emod_eq_of_lt (by omega) (by omega)]
    omega
def plN (r : Rows) : Nat → Nat → Bool
  | 0, _ => true
  | f + 1, i => placeB (lg r i 0) (lg r i 1) && plN r f (i + 1)
def cornOk (r : Rows) (i : Nat) : Bool :=
  !(decide (0 < i) && decide (0 ≤ orderI (lg r 0 0) (lg r 0 1) (lg r i 0) (lg r i 1))) &&
  !decide (turnR [.i (lg r (prv r.length i) 0), .i (lg r (prv r.length i) 1), .i (lg r i 0), .i (lg r i 1), .i (lg r (nxt r.length i) 0), .i (lg r (nxt r.length i) 1)] = 0)
def cornN (r : Rows) : Nat → Nat → Bool
  | 0, _ => true
  | f + 1, i => cornOk r i && cornN r f (i + 1)
def polyB (r : Rows) : Bool := decide (3 ≤ r.length ∧ r.length ≤ 24) && (plN r r.length 0 && (cornN r r.length 0 && (simpleN r r.length 0 && decide (0 < twiceN r r.length 0 0))))
def polyL (ds : List D) : Bool := polyB (rAt ds 0)
section
variable (W : World) (ds l : List D)
theorem KAb3 : (envOf KA W ds).fb 3 l = placeL l := by simp only [envOf, KA, K9, K8, K7, K6, K5, K]
theorem KAi15 : (envOf KA W ds).fi 15 l = turnR l := by simp only [envOf, KA, K9, K8, K7, K6, K5, K]
theorem KAi68 : (envOf KA W ds).fi 68 l = orderL l := by simp only [envOf, KA]
theorem KAb66 : (envOf KA W ds).fb 66 l = simpleL l := by simp only [envOf, KA, K9]
theorem KAi65 : (envOf KA W ds).fi 65 l = twiceL l := by simp only [envOf, KA, K9]
end
theorem order_four (a b c d : Int) : orderL [.i a, .i b, .i c, .i d] = orderI a b c d := rfl
theorem simple_one (r : Rows) : simpleL [.l r] = simpleN r r.length 0 := rfl
theorem twice_one (r : Rows) : twiceL [.l r] = twiceN r r.length 0 0 := rfl
theorem place_two (a b : Int) : placeL [.i a, .i b] = placeB a b := rfl
theorem gPoV : Gives Tryz.prog 75 [pts] (fun ds => .bool (polyL ds)) := by
  refine GivesIf.all (fn_gives KA (by kernel_rfl) (fun ρ h => ctA_ok (Sees.of h 69)) (by kernel_rfl) trPoV_is trPoV_low (by decide) (fun W vals ds hr _ => ?_))
  have hlen := pts_len hr
  simp only [trPoV, TT.sat_ret, TT.sat_ite, TT.sat_ob, TT.sat_next, TT.sat_stuck, put_i, put_b, put_d, put_fi, put_fb, put_fd, Ob.ok, B.ev, E.ev, X.ev, AL.ev, cmp_t, cmp_f, arEv, V.plain, V2.plain, S.plain, S0.plain, V.val, V2.val, S.val, S0.val, bV, iV, List.all_cons, List.all_nil, Bool.and_true, Bool.and_self, envOf_i, envOf_b, envOf_d, List.map_cons, List.map_nil, true_and, Bool.not_eq_true', Bool.not_eq_false', Bool.not_not, Bool.and_eq_true, and_f, cell_lg, cell_lb, cell_lr, cmpP, val_i, val_b, val_d, aget, Nat.reduceBEq, beq_self_eq_true, Bool.false_eq_true, if_true, if_false, Nat.reduceLT, Nat.reduceSub, Nat.sub_self, Nat.lt_irrefl]
  generalize hr0 : rAt ds 0 = r at hlen ⊢
  have hP : polyL ds = polyB r := by rw [polyL, hr0]
  rw [hP]
  refine ⟨fun h => ?_, fun h1 => ⟨fun h => ?_, fun h2 => ?_⟩⟩
  · rw [polyB, decide_eq_false (by omega)]; rfl
  · rw [polyB, decide_eq_false (by omega)]; rfl
  have hd : decide (3 ≤ r.length ∧ r.length ≤ 24) = true := decide_eq_true (by omega)
  refine TT.sat_loop (fun v => ∃ i : Nat, v.i 0 = i ∧ i ≤ r.length ∧ (plN r (r.length - i) i && (cornN r r.length 0 && (simpleN r r.length 0 && decide (0 < twiceN r r.length 0 0)))) = polyB r) (fun v => r.length - (v.i 0).toNat)
    ⟨0, by simp [val_i, aget, E.ev], by omega, by rw [polyB, hd]; rfl⟩ (fun v hv => ?_)
  obtain ⟨i, i0, i1, i2⟩ := hv
  simp only [TT.sat_ret, TT.sat_ite, TT.sat_ob, TT.sat_next, TT.sat_stuck, put_i, put_b, put_d, put_fi, put_fb, put_fd, Ob.ok, B.ev, E.ev, X.ev, AL.ev, cmp_t, cmp_f, arEv, V.plain, V2.plain, S.plain, S0.plain, V.val, V2.val, S.val, S0.val, bV, iV, List.all_cons, List.all_nil, Bool.and_true, Bool.and_self, envOf_i, envOf_b, envOf_d, List.map_cons, List.map_nil, true_and, Bool.not_eq_true', Bool.not_eq_false', Bool.not_not, Bool.and_eq_true, and_f, cell_lg, cell_lb, cell_lr, cmpP, val_i, val_b, val_d, aget, Nat.reduceBEq, beq_self_eq_true, Bool.false_eq_true, if_true, if_false, Nat.reduceLT, Nat.reduceSub, Nat.sub_self, Nat.lt_irrefl, i0, hr0, KAb3, KAi15, KAi68, KAb66, KAi65, order_four, place_two, simple_one, twice_one]
  refine ⟨fun hc => ?_, fun hc => ?_⟩
  · have hi : i < r.length := by omega
    obtain ⟨f, hf⟩ : ∃ f, r.length - i = f + 1 := ⟨r.length - i - 1, by omega⟩
    rw [hf, plN] at i2
    refine ⟨by omega, by omega, fun p => ⟨fun q => ?_, fun q => absurd (show (0 : Int) ≤ i by omega) q⟩, fun p => ⟨⟨i + 1, ?_, by omega, ?_⟩, ?_⟩⟩
    · rw [← i2, p]; rfl
    · rw [wrap_in _ (by omega) (by omega)]; rfl
    · rw [show r.length - (i + 1) = f by omega, ← i2, p]; rfl
    · rw [wrap_in _ (by omega) (by omega)]; omega
  · have : r.length - i = 0 := by omega
    rw [this, plN, Bool.true_and] at i2
    refine TT.sat_loop (fun v => ∃ j : Nat, v.i 0 = j ∧ j ≤ r.length ∧ (cornN r (r.length - j) j && (simpleN r r.length 0 && decide (0 < twiceN r r.length 0 0))) = polyB r) (fun v => r.length - (v.i 0).toNat)
      ⟨0, by simp [val_i, aget, E.ev], by omega, i2⟩ (fun u hu => ?_)
    obtain ⟨j, j0, j1, j2⟩ := hu
    simp only [TT.sat_ret, TT.sat_ite, TT.sat_ob, TT.sat_next, TT.sat_stuck, put_i, put_b, put_d, put_fi, put_fb, put_fd, Ob.ok, B.ev, E.ev, X.ev, AL.ev, cmp_t, cmp_f, arEv, V.plain, V2.plain, S.plain, S0.plain, V.val, V2.val, S.val, S0.val, bV, iV, List.all_cons, List.all_nil, Bool.and_true, Bool.and_self, envOf_i, envOf_b, envOf_d, List.map_cons, List.map_nil, true_and, Bool.not_eq_true', Bool.not_eq_false', Bool.not_not, Bool.and_eq_true, and_f, cell_lg, cell_lb, cell_lr, cmpP, val_i, val_b, val_d, aget, Nat.reduceBEq, beq_self_eq_true, Bool.false_eq_true, if_true, if_false, Nat.reduceLT, Nat.reduceSub, Nat.sub_self, Nat.lt_irrefl, j0, hr0, KAb3, KAi15, KAi68, KAb66, KAi65, order_four, place_two, simple_one, twice_one]
    refine ⟨fun hc => ?_, fun hc => ?_⟩
    · have hj : j < r.length := by omega
      have hn := nxt_lt hj
      have hp := prv_lt hj
      obtain ⟨f, hf⟩ : ∃ f, r.length - j = f + 1 := ⟨r.length - j - 1, by omega⟩
      rw [hf, cornN] at j2
      have M : r.length - (IntKind.i64.wrap ((j : Int) + 1)).toNat < r.length - (j : Int).toNat := by rw [wrap_in _ (by omega) (by omega)]; omega
      have N : cornOk r j = true → (∃ k : Nat, IntKind.i64.wrap ((j : Int) + 1) = k ∧ k ≤ r.length ∧ (cornN r (r.length - k) k && (simpleN r r.length 0 && decide (0 < twiceN r r.length 0 0))) = polyB r) :=
        fun h => ⟨j + 1, by rw [wrap_in _ (by omega) (by omega)]; rfl, by omega, by rw [show r.length - (j + 1) = f by omega, ← j2, h]; rfl⟩
      have F : cornOk r j = false → Value.bool false = Value.bool (polyB r) := fun h => by rw [← j2, h]; rfl
      simp only [rem_prev hj hlen, rem_next hj hlen]
      refine ⟨fun a => ⟨by omega, by omega, by omega, fun b => F ?_, fun b => ⟨by omega, by omega, by omega, by omega, by omega, by omega, by omega, by omega, fun c => F ?_, fun c => ⟨N ?_, M⟩⟩⟩, fun a => ⟨by omega, by omega, by omega, by omega, by omega, by omega, by omega, by omega, fun c => F ?_, fun c => ⟨N ?_, M⟩⟩⟩
      · rw [cornOk, decide_eq_true (p := 0 < j) (by omega), decide_eq_true b]; rfl
      · rw [cornOk, decide_eq_true c]; simp
      · rw [cornOk, decide_eq_false c, decide_eq_false b]; simp
      · rw [cornOk, decide_eq_true c]; simp
      · rw [cornOk, decide_eq_false c, decide_eq_false (p := 0 < j) (by omega)]; rfl
    · have : r.length - j = 0 := by omega
      rw [this, cornN, Bool.true_and] at j2
      refine ⟨fun h => ?_, fun h => ?_⟩
      · rw [← j2, h, Bool.true_and]
        congr 1
      · rw [← j2, h]; rfl
def KB : Interp where
  fi n l := KA.fi n l
  fb n l := match n with | 69 => polyL l | n => KA.fb n l
  fd _ _ := []
theorem KB_KA {ρ : Env} (h : Sees ρ KB 70) : Sees ρ KA 69 := h.trans (by decide) fun n l hn => by
  refine ⟨?_, ?_⟩
  ·
    rfl
  ·
    simp only [KB]
    split <;> first | omega | rfl
def cPoV := ctD [pts] fun al => .ret (bV (bF 69 polyL al))
theorem cPoV_ok {ρ : Env} (h : Sees ρ KB 70) : CtOne Tryz.prog ρ 75 cPoV :=
  ctD_ok gPoV (fun _ => rfl) (fun al => by simp only [iV, bV, V.s0, V.val, V2.val, S.val, S0.val, bF_ev (s := 69) (f := polyL) (fun l => by rw [(h 69 l (by decide)).2]; simp only [KB])]; try rfl)
def ctB : Ct := (75, cPoV) :: ctA
theorem ctB_ok {ρ : Env} (h : Sees ρ KB 70) : CtOk Tryz.prog ρ ctB := .cons (cPoV_ok h) (ctA_ok (KB_KA h))
end Go.Proofs.YtcjaembdcfppfaaGreat
/- Chapter 38: the trees of poly.In, of sector. -/
namespace Go.Proofs.YtcjaembdcfppfaaGreat
open Go.RowKit
def dir : Sh := .agg [.int .i64, .int .i64]
def secK : List CK := [.int .i64, .int .i64, .int .i64, .int .i64, .int .i64, .int .i64]
def sec : Sh := .agg secK
-- term trPoIn: call Tryz.prog ctB (Lt.of []) 100 162 (symArgs 0 [pt, pts]) [] 0
def trPoIn : TT OpR :=
(.ite (.not (.fn 3 (.i (.var 0) (.i (.var 1) .nil))))
 (.ret ((.tup [(.one (.z (.int .i64 (.lit 0)))), (.one (.z (.int .i64 (.lit 1))))]), [], 1))
 (.ite (.not (.fn 69 (.x (.var 2) .nil)))
 (.ret ((.tup [(.one (.z (.int .i64 (.lit 0)))), (.one (.z (.int .i64 (.lit 1))))]), [], 1))
 (.ret ((.tup [(.one (.z (.int .i64 (.fn 67 (.x (.var 2) (.i (.var 0) (.i (.var 1) .nil))))))), (.one (.z (.int .i64 (.lit 0))))]), [], 1))))
-- end trPoIn
set_option maxRecDepth 100000 in
theorem trPoIn_is : T.norm 0 (call Tryz.prog ctB (Lt.of []) 100 162 (symArgs 0 [pt, pts]) [] 0) TT.ret = trPoIn := by kernel_rfl
theorem trPoIn_low : trPoIn.low 1000 = true := by kernel_rfl
-- term trCompare: call Tryz.prog ctB (Lt.of []) 100 124 (symArgs 0 [dir, dir]) [] 0
def trCompare : TT OpR :=
(.ite (.cmp .gtr (.var 1) (.lit 0))
 (.ite (.cmp .gtr (.var 3) (.lit 0))
 (.ite (.cmp .gtr (.ar .sub .i64 (.ar .mul .i64 (.var 0) (.var 3)) (.ar .mul .i64 (.var 1) (.var 2))) (.lit 0))
 (.ret ((.v (.one (.z (.int .i64 (.lit (-1)))))), [], 6))
 (.ite (.cmp .lss (.ar .sub .i64 (.ar .mul .i64 (.var 0) (.var 3)) (.ar .mul .i64 (.var 1) (.var 2))) (.lit 0))
 (.ret ((.v (.one (.z (.int .i64 (.lit 1))))), [], 8))
 (.ret ((.v (.one (.z (.int .i64 (.lit 0))))), [], 8))))
 (.ite (.cmp .eql (.var 3) (.lit 0))
 (.ite (.not (.cmp .gtr (.var 2) (.lit 0)))
 (.ite (.cmp .gtr (.var 1) (.lit 0))
 (.ret ((.v (.one (.z (.int .i64 (.lit (-1)))))), [], 5))
 (.ite (.cmp .eql (.var 1) (.lit 0))
 (.ite (.cmp .gtr (.var 0) (.lit 0))
 (.ret ((.v (.one (.z (.int .i64 (.lit (-1)))))), [], 5))
 (.ret ((.v (.one (.z (.int .i64 (.lit 1))))), [], 5)))
 (.ret ((.v (.one (.z (.int .i64 (.lit 1))))), [], 5))))
 (.ite (.cmp .gtr (.ar .sub .i64 (.ar .mul .i64 (.var 0) (.var 3)) (.ar .mul .i64 (.var 1) (.var 2))) (.lit 0))
 (.ret ((.v (.one (.z (.int .i64 (.lit (-1)))))), [], 6))
 (.ite (.cmp .lss (.ar .sub .i64 (.ar .mul .i64 (.var 0) (.var 3)) (.ar .mul .i64 (.var 1) (.var 2))) (.lit 0))
 (.ret ((.v (.one (.z (.int .i64 (.lit 1))))), [], 8))
 (.ret ((.v (.one (.z (.int .i64 (.lit 0))))), [], 8)))))
 (.ite (.cmp .gtr (.var 1) (.lit 0))
 (.ret ((.v (.one (.z (.int .i64 (.lit (-1)))))), [], 5))
 (.ite (.cmp .eql (.var 1) (.lit 0))
 (.ite (.cmp .gtr (.var 0) (.lit 0))
 (.ret ((.v (.one (.z (.int .i64 (.lit (-1)))))), [], 5))
 (.ret ((.v (.one (.z (.int .i64 (.lit 1))))), [], 5)))
 (.ret ((.v (.one (.z (.int .i64 (.lit 1))))), [], 5))))))
 (.ite (.cmp .eql (.var 1) (.lit 0))
 (.ite (.cmp .gtr (.var 3) (.lit 0))
 (.ite (.not (.cmp .gtr (.var 0) (.lit 0)))
 (.ite (.cmp .gtr (.var 1) (.lit 0))
 (.ret ((.v (.one (.z (.int .i64 (.lit (-1)))))), [], 5))
 (.ite (.cmp .eql (.var 1) (.lit 0))
 (.ite (.cmp .gtr (.var 0) (.lit 0))
 (.ret ((.v (.one (.z (.int .i64 (.lit (-1)))))), [], 5))
 (.ret ((.v (.one (.z (.int .i64 (.lit 1))))), [], 5)))
 (.ret ((.v (.one (.z (.int .i64 (.lit 1))))), [], 5))))
 (.ite (.cmp .gtr (.ar .sub .i64 (.ar .mul .i64 (.var 0) (.var 3)) (.ar .mul .i64 (.var 1) (.var 2))) (.lit 0))
 (.ret ((.v (.one (.z (.int .i64 (.lit (-1)))))), [], 6))
 (.ite (.cmp .lss (.ar .sub .i64 (.ar .mul .i64 (.var 0) (.var 3)) (.ar .mul .i64 (.var 1) (.var 2))) (.lit 0))
 (.ret ((.v (.one (.z (.int .i64 (.lit 1))))), [], 8))
 (.ret ((.v (.one (.z (.int .i64 (.lit 0))))), [], 8)))))
 (.ite (.cmp .eql (.var 3) (.lit 0))
 (.ite (.not (.eqb (.cmp .gtr (.var 0) (.lit 0)) (.cmp .gtr (.var 2) (.lit 0))))
 (.ite (.cmp .gtr (.var 1) (.lit 0))
 (.ret ((.v (.one (.z (.int .i64 (.lit (-1)))))), [], 5))
 (.ite (.cmp .eql (.var 1) (.lit 0))
 (.ite (.cmp .gtr (.var 0) (.lit 0))
 (.ret ((.v (.one (.z (.int .i64 (.lit (-1)))))), [], 5))
 (.ret ((.v (.one (.z (.int .i64 (.lit 1))))), [], 5)))
 (.ret ((.v (.one (.z (.int .i64 (.lit 1))))), [], 5))))
 (.ite (.cmp .gtr (.ar .sub .i64 (.ar .mul .i64 (.var 0) (.var 3)) (.ar .mul .i64 (.var 1) (.var 2))) (.lit 0))
 (.ret ((.v (.one (.z (.int .i64 (.lit (-1)))))), [], 6))
 (.ite (.cmp .lss (.ar .sub .i64 (.ar .mul .i64 (.var 0) (.var 3)) (.ar .mul .i64 (.var 1) (.var 2))) (.lit 0))
 (.ret ((.v (.one (.z (.int .i64 (.lit 1))))), [], 8))
 (.ret ((.v (.one (.z (.int .i64 (.lit 0))))), [], 8)))))
 (.ite (.cmp .gtr (.var 0) (.lit 0))
 (.ite (.cmp .gtr (.var 1) (.lit 0))
 (.ret ((.v (.one (.z (.int .i64 (.lit (-1)))))), [], 5))
 (.ite (.cmp .eql (.var 1) (.lit 0))
 (.ite (.cmp .gtr (.var 0) (.lit 0))
 (.ret ((.v (.one (.z (.int .i64 (.lit (-1)))))), [], 5))
 (.ret ((.v (.one (.z (.int .i64 (.lit 1))))), [], 5)))
 (.ret ((.v (.one (.z (.int .i64 (.lit 1))))), [], 5))))
 (.ite (.cmp .gtr (.ar .sub .i64 (.ar .mul .i64 (.var 0) (.var 3)) (.ar .mul .i64 (.var 1) (.var 2))) (.lit 0))
 (.ret ((.v (.one (.z (.int .i64 (.lit (-1)))))), [], 6))
 (.ite (.cmp .lss (.ar .sub .i64 (.ar .mul .i64 (.var 0) (.var 3)) (.ar .mul .i64 (.var 1) (.var 2))) (.lit 0))
 (.ret ((.v (.one (.z (.int .i64 (.lit 1))))), [], 8))
 (.ret ((.v (.one (.z (.int .i64 (.lit 0))))), [], 8)))))))
 (.ite (.cmp .gtr (.var 3) (.lit 0))
 (.ite (.cmp .gtr (.var 1) (.lit 0))
 (.ret ((.v (.one (.z (.int .i64 (.lit (-1)))))), [], 5))
 (.ite (.cmp .eql (.var 1) (.lit 0))
 (.ite (.cmp .gtr (.var 0) (.lit 0))
 (.ret ((.v (.one (.z (.int .i64 (.lit (-1)))))), [], 5))
 (.ret ((.v (.one (.z (.int .i64 (.lit 1))))), [], 5)))
 (.ret ((.v (.one (.z (.int .i64 (.lit 1))))), [], 5))))
 (.ite (.cmp .eql (.var 3) (.lit 0))
 (.ite (.cmp .gtr (.var 2) (.lit 0))
 (.ite (.cmp .gtr (.var 1) (.lit 0))
 (.ret ((.v (.one (.z (.int .i64 (.lit (-1)))))), [], 5))
 (.ite (.cmp .eql (.var 1) (.lit 0))
 (.ite (.cmp .gtr (.var 0) (.lit 0))
 (.ret ((.v (.one (.z (.int .i64 (.lit (-1)))))), [], 5))
 (.ret ((.v (.one (.z (.int .i64 (.lit 1))))), [], 5)))
 (.ret ((.v (.one (.z (.int .i64 (.lit 1))))), [], 5))))
 (.ite (.cmp .gtr (.ar .sub .i64 (.ar .mul .i64 (.var 0) (.var 3)) (.ar .mul .i64 (.var 1) (.var 2))) (.lit 0))
 (.ret ((.v (.one (.z (.int .i64 (.lit (-1)))))), [], 6))
 (.ite (.cmp .lss (.ar .sub .i64 (.ar .mul .i64 (.var 0) (.var 3)) (.ar .mul .i64 (.var 1) (.var 2))) (.lit 0))
 (.ret ((.v (.one (.z (.int .i64 (.lit 1))))), [], 8))
 (.ret ((.v (.one (.z (.int .i64 (.lit 0))))), [], 8)))))
 (.ite (.cmp .gtr (.ar .sub .i64 (.ar .mul .i64 (.var 0) (.var 3)) (.ar .mul .i64 (.var 1) (.var 2))) (.lit 0))
 (.ret ((.v (.one (.z (.int .i64 (.lit (-1)))))), [], 6))
 (.ite (.cmp .lss (.ar .sub .i64 (.ar .mul .i64 (.var 0) (.var 3)) (.ar .mul .i64 (.var 1) (.var 2))) (.lit 0))
 (.ret ((.v (.one (.z (.int .i64 (.lit 1))))), [], 8))
 (.ret ((.v (.one (.z (.int .i64 (.lit 0))))), [], 8))))))))
-- end trCompare
set_option maxRecDepth 100000 in
theorem trCompare_is : T.norm 0 (call Tryz.prog ctB (Lt.of []) 100 124 (symArgs 0 [dir, dir]) [] 0) TT.ret = trCompare := by kernel_rfl
theorem trCompare_low : trCompare.low 1000 = true := by kernel_rfl
-- term trSecV: call Tryz.prog ctB (Lt.of []) 100 102 (symArgs 0 [sec]) [] 0
def trSecV : TT OpR :=
(.ite (.not (.and (.cmp .eql (.var 0) (.lit 0)) (.cmp .eql (.var 1) (.lit 0))))
 (.ite (.cmp .leq (.mx (.var 0) (.var 1)) (.lit 1000000))
 (.ite (.cmp .geq (.mn (.var 0) (.var 1)) (.lit (-1000000)))
 (.ite (.not (.and (.cmp .eql (.var 2) (.lit 0)) (.cmp .eql (.var 3) (.lit 0))))
 (.ite (.cmp .leq (.mx (.var 2) (.var 3)) (.lit 1000000))
 (.ite (.cmp .geq (.mn (.var 2) (.var 3)) (.lit (-1000000)))
 (.ite (.cmp .geq (.var 4) (.lit 1))
 (.ite (.cmp .leq (.var 4) (.lit 3))
 (.ite (.cmp .geq (.var 5) (.lit 1))
 (.ret ((.v (.one (.z (.bool (.cmp .leq (.var 5) (.lit 3000000)))))), [], 3))
 (.ret ((.v (.one (.z (.bool (.lit false))))), [], 3)))
 (.ret ((.v (.one (.z (.bool (.lit false))))), [], 3)))
 (.ret ((.v (.one (.z (.bool (.lit false))))), [], 3)))
 (.ret ((.v (.one (.z (.bool (.lit false))))), [], 3)))
 (.ret ((.v (.one (.z (.bool (.lit false))))), [], 3)))
 (.ret ((.v (.one (.z (.bool (.lit false))))), [], 3)))
 (.ret ((.v (.one (.z (.bool (.lit false))))), [], 2)))
 (.ret ((.v (.one (.z (.bool (.lit false))))), [], 2)))
 (.ret ((.v (.one (.z (.bool (.lit false))))), [], 2)))
-- end trSecV
set_option maxRecDepth 100000 in
theorem trSecV_is : T.norm 0 (call Tryz.prog ctB (Lt.of []) 100 102 (symArgs 0 [sec]) [] 0) TT.ret = trSecV := by kernel_rfl
theorem trSecV_low : trSecV.low 1000 = true := by kernel_rfl
end Go.Proofs.YtcjaembdcfppfaaGreat
/- Chapter 38: poly.In; sector's compare, valid. -/
namespace Go.Proofs.YtcjaembdcfppfaaGreat
open Go.RowKit
def pinO (ds : List D) : Bool := placeB (iAt ds 0) (iAt ds 1) && polyB (rAt ds 2)
def pinR (ds : List D) : Int := if pinO ds then placeN (rAt ds 2) (iAt ds 0) (iAt ds 1) (rAt ds 2).length 0 false else 0
def pinE (ds : List D) : Int := if pinO ds then 0 else 1
theorem KBb3 (W : World) (ds l : List D) : (envOf KB W ds).fb 3 l = placeL l := by simp only [envOf, KB, KA, K9, K8, K7, K6, K5, K]
theorem KBb69 (W : World) (ds l : List D) : (envOf KB W ds).fb 69 l = polyL l := by simp only [envOf, KB]
theorem KBi67 (W : World) (ds l : List D) : (envOf KB W ds).fi 67 l = placeI l := by simp only [envOf, KB, KA, K9, K8, K7, K6, K5, K]
theorem poly_one (r : Rows) : polyL [.l r] = polyB r := rfl
theorem placeI_three (r : Rows) (x y : Int) : placeI [.l r, .i x, .i y] = placeN r x y r.length 0 false := rfl
theorem gPoIn : Gives Tryz.prog 162 [pt, pts] (fun ds => .tuple #[.int .i64 (pinR ds), .int .i64 (pinE ds)]) := by
  refine GivesIf.all (fn_gives KB (by kernel_rfl) (fun ρ h => ctB_ok (Sees.of h 70)) (by kernel_rfl) trPoIn_is trPoIn_low (by decide) (fun W vals ds hr _ => ?_))
  simp only [trPoIn, TT.sat_ret, TT.sat_ite, TT.sat_ob, TT.sat_next, TT.sat_stuck, put_i, put_b, put_d, put_fi, put_fb, put_fd, Ob.ok, B.ev, E.ev, X.ev, AL.ev, cmp_t, cmp_f, arEv, V.plain, V2.plain, S.plain, S0.plain, V.val, V2.val, S.val, S0.val, bV, iV, List.all_cons, List.all_nil, Bool.and_true, Bool.and_self, envOf_i, envOf_b, envOf_d, List.map_cons, List.map_nil, true_and, Bool.not_eq_true', Bool.not_eq_false', Bool.not_not, Bool.and_eq_true, and_f, cell_lg, cell_lb, cell_lr, cmpP, val_i, val_b, val_d, aget, Nat.reduceBEq, beq_self_eq_true, Bool.false_eq_true, if_true, if_false, Nat.reduceLT, Nat.reduceSub, Nat.sub_self, Nat.lt_irrefl, KBb3, KBb69, KBi67, place_two, poly_one, placeI_three]
  refine ⟨fun h => ?_, fun h => ⟨fun h' => ?_, fun h' => ?_⟩⟩
  · simp [pinR, pinE, pinO, h]
  · simp [pinR, pinE, pinO, h']
  · simp [pinR, pinE, pinO, h, h']
theorem beq_cmp (o o' : BinOp) (a b c d : Int) : (cmpEv o a b = cmpEv o' c d) = (cmpP o a b ↔ cmpP o' c d) := by rw [Bool.eq_iff_iff, cmp_t, cmp_t]
def crsW (a b c d : Int) : Int := IntKind.i64.wrap (IntKind.i64.wrap (a * d) - IntKind.i64.wrap (b * c))
def compI (a b c d : Int) : Int := if 0 < b ∨ (b = 0 ∧ 0 < a) then (if 0 < d ∨ (d = 0 ∧ 0 < c) then (if 0 < crsW a b c d then -1 else if crsW a b c d < 0 then 1 else 0) else -1)
  else (if 0 < d ∨ (d = 0 ∧ 0 < c) then 1 else (if 0 < crsW a b c d then -1 else if crsW a b c d < 0 then 1 else 0))
def compL (ds : List D) : Int := compI (iAt ds 0) (iAt ds 1) (iAt ds 2) (iAt ds 3)
set_option maxHeartbeats 1000000 in
theorem gCompare : Gives Tryz.prog 124 [dir, dir] (fun ds => .int .i64 (compL ds)) := by
  refine GivesIf.all (fn_gives KB (by kernel_rfl) (fun ρ h => ctB_ok (Sees.of h 70)) (by kernel_rfl) trCompare_is trCompare_low (by decide) (fun W vals ds hr _ => ?_))
  simp only [trCompare, TT.sat_ret, TT.sat_ite, TT.sat_ob, TT.sat_next, TT.sat_stuck, put_i, put_b, put_d, put_fi, put_fb, put_fd, Ob.ok, B.ev, E.ev, X.ev, AL.ev, cmp_t, cmp_f, arEv, V.plain, V2.plain, S.plain, S0.plain, V.val, V2.val, S.val, S0.val, bV, iV, List.all_cons, List.all_nil, Bool.and_true, Bool.and_self, envOf_i, envOf_b, envOf_d, List.map_cons, List.map_nil, true_and, Bool.not_eq_true', Bool.not_eq_false', Bool.not_not, Bool.and_eq_true, and_f, cell_lg, cell_lb, cell_lr, cmpP, val_i, val_b, val_d, aget, Nat.reduceBEq, beq_self_eq_true, Bool.false_eq_true, if_true, if_false, Nat.reduceLT, Nat.reduceSub, Nat.sub_self, Nat.lt_irrefl]
  simp only [compL, compI]
  rw [show IntKind.i64.wrap (IntKind.i64.wrap (iAt ds 0 * iAt ds 3) - IntKind.i64.wrap (iAt ds 1 * iAt ds 2)) = crsW (iAt ds 0) (iAt ds 1) (iAt ds 2) (iAt ds 3) from rfl]
  generalize crsW (iAt ds 0) (iAt ds 1) (iAt ds 2) (iAt ds 3) = z
  generalize iAt ds 0 = a
  generalize iAt ds 1 = b
  generalize iAt ds 2 = c
  generalize iAt ds 3 = d
  repeat' (first | (intro h; skip) | (refine And.intro ?_ ?_))
  all_goals (congr 1; (try simp only [Bool.not_eq_true', Bool.not_eq_false', beq_iff_eq, beq_eq_false_iff_ne, ne_eq, beq_cmp, cmpP] at *); (repeat' split) <;> omega)
def secB (a b c d e f : Int) : Bool := decide (¬ (a = 0 ∧ b = 0) ∧ (-1000000 ≤ a ∧ a ≤ 1000000) ∧ (-1000000 ≤ b ∧ b ≤ 1000000) ∧ ¬ (c = 0 ∧ d = 0) ∧ (-1000000 ≤ c ∧ c ≤ 1000000) ∧ (-1000000 ≤ d ∧ d ≤ 1000000) ∧ (1 ≤ e ∧ e ≤ 3) ∧ 1 ≤ f ∧ f ≤ 3000000)
def secL (ds : List D) : Bool := secB (iAt ds 0) (iAt ds 1) (iAt ds 2) (iAt ds 3) (iAt ds 4) (iAt ds 5)
theorem gSecV1 : Gives Tryz.prog 102 [sec] (fun ds => .bool (secL ds)) := by
  refine GivesIf.all (fn_gives KB (by kernel_rfl) (fun ρ h => ctB_ok (Sees.of h 70)) (by kernel_rfl) trSecV_is trSecV_low (by decide) (fun W vals ds hr _ => ?_))
  simp only [trSecV, TT.sat_ret, TT.sat_ite, TT.sat_ob, TT.sat_next, TT.sat_stuck, put_i, put_b, put_d, put_fi, put_fb, put_fd, Ob.ok, B.ev, E.ev, X.ev, AL.ev, cmp_t, cmp_f, arEv, V.plain, V2.plain, S.plain, S0.plain, V.val, V2.val, S.val, S0.val, bV, iV, List.all_cons, List.all_nil, Bool.and_true, Bool.and_self, envOf_i, envOf_b, envOf_d, List.map_cons, List.map_nil, true_and, Bool.not_eq_true', Bool.not_eq_false', Bool.not_not, Bool.and_eq_true, and_f, cell_lg, cell_lb, cell_lr, cmpP, val_i, val_b, val_d, aget, Nat.reduceBEq, beq_self_eq_true, Bool.false_eq_true, if_true, if_false, Nat.reduceLT, Nat.reduceSub, Nat.sub_self, Nat.lt_irrefl]
  simp only [secL, secB]
  repeat' (first | (intro h; skip) | (refine And.intro ?_ ?_))
  all_goals (congr 1; rw [Bool.eq_iff_iff]; try rw [cmp_t])
  all_goals (simp only [cmpP, decide_eq_true_eq, Bool.false_eq_true, false_iff]; omega)
def KC : Interp where
  fi n l := match n with | 70 => pinR l | 71 => pinE l | 72 => compL l | n => KB.fi n l
  fb n l := match n with | 73 => secL l | n => KB.fb n l
  fd _ _ := []
theorem KC_KB {ρ : Env} (h : Sees ρ KC 74) : Sees ρ KB 70 := h.trans (by decide) fun n l hn => by
  refine ⟨?_, ?_⟩
  ·
    simp only [KC]
    split <;> first | omega | rfl
  ·
    simp only [KC]
    split <;> first | omega | rfl
def cPoIn := ctD [pt, pts] fun al => .ret (.tup [.one (sIF 70 pinR al), .one (sIF 71 pinE al)])
theorem cPoIn_ok {ρ : Env} (h : Sees ρ KC 74) : CtOne Tryz.prog ρ 162 cPoIn :=
  ctD_ok gPoIn (fun _ => rfl) (fun al => by simp only [V.val, V2.val, S.val, S0.val, sIF, sBF, List.map_cons, List.map_nil, iF_ev (s := 70) (f := pinR) (fun l => by rw [(h 70 l (by decide)).1]; simp only [KC]), iF_ev (s := 71) (f := pinE) (fun l => by rw [(h 71 l (by decide)).1]; simp only [KC])]; try rfl)
def cCompare := ctD [dir, dir] fun al => .ret (iV .i64 (iF 72 compL al))
theorem cCompare_ok {ρ : Env} (h : Sees ρ KC 74) : CtOne Tryz.prog ρ 124 cCompare :=
  ctD_ok gCompare (fun _ => rfl) (fun al => by simp only [iV, bV, V.s0, V.val, V2.val, S.val, S0.val, iF_ev (s := 72) (f := compL) (fun l => by rw [(h 72 l (by decide)).1]; simp only [KC])]; try rfl)
def cSecV1 := ctD [sec] fun al => .ret (bV (bF 73 secL al))
theorem cSecV1_ok {ρ : Env} (h : Sees ρ KC 74) : CtOne Tryz.prog ρ 102 cSecV1 :=
  ctD_ok gSecV1 (fun _ => rfl) (fun al => by simp only [iV, bV, V.s0, V.val, V2.val, S.val, S0.val, bF_ev (s := 73) (f := secL) (fun l => by rw [(h 73 l (by decide)).2]; simp only [KC])]; try rfl)
def ctC : Ct := (162, cPoIn) :: (124, cCompare) :: (102, cSecV1) :: ctB
theorem ctC_ok {ρ : Env} (h : Sees ρ KC 74) : CtOk Tryz.prog ρ ctC := .cons (cPoIn_ok h) <| .cons (cCompare_ok h) <| .cons (cSecV1_ok h) (ctB_ok (KC_KB h))
end Go.Proofs.YtcjaembdcfppfaaGreat
/- Chapter 38: the trees of sector.has, sector.Valid. -/
namespace Go.Proofs.YtcjaembdcfppfaaGreat
open Go.RowKit
def secs : Sh := .one (.sl secK)
-- term trHas: call Tryz.prog ctC (Lt.of []) 100 103 (symArgs 0 [sec, dir]) [] 0
def trHas : TT OpR :=
(.ite (.cmp .eql (.fn 72 (.i (.var 0) (.i (.var 1) (.i (.var 2) (.i (.var 3) .nil))))) (.lit (-1)))
 (.ite (.cmp .leq (.fn 72 (.i (.var 0) (.i (.var 1) (.i (.var 6) (.i (.var 7) .nil))))) (.lit 0))
 (.ret ((.v (.one (.z (.bool (.not (.cmp .leq (.fn 72 (.i (.var 2) (.i (.var 3) (.i (.var 6) (.i (.var 7) .nil))))) (.lit 0))))))), [], 4))
 (.ret ((.v (.one (.z (.bool (.lit false))))), [], 4)))
 (.ite (.cmp .eql (.fn 72 (.i (.var 0) (.i (.var 1) (.i (.var 2) (.i (.var 3) .nil))))) (.lit 1))
 (.ite (.cmp .leq (.fn 72 (.i (.var 0) (.i (.var 1) (.i (.var 6) (.i (.var 7) .nil))))) (.lit 0))
 (.ret ((.v (.one (.z (.bool (.lit true))))), [], 4))
 (.ret ((.v (.one (.z (.bool (.not (.cmp .leq (.fn 72 (.i (.var 2) (.i (.var 3) (.i (.var 6) (.i (.var 7) .nil))))) (.lit 0))))))), [], 4)))
 (.ret ((.v (.one (.z (.bool (.lit true))))), [], 4))))
-- end trHas
set_option maxRecDepth 100000 in
theorem trHas_is : T.norm 0 (call Tryz.prog ctC (Lt.of []) 100 103 (symArgs 0 [sec, dir]) [] 0) TT.ret = trHas := by kernel_rfl
theorem trHas_low : trHas.low 1000 = true := by kernel_rfl
end Go.Proofs.YtcjaembdcfppfaaGreat
/- Chapter 38: sector.has. -/
namespace Go.Proofs.YtcjaembdcfppfaaGreat
open Go.RowKit
def hasB (a b c d x y : Int) : Bool := if compI a b c d = -1 then decide (compI a b x y ≤ 0) && !decide (compI c d x y ≤ 0)
  else if compI a b c d = 1 then decide (compI a b x y ≤ 0) || !decide (compI c d x y ≤ 0) else true
def hasL (ds : List D) : Bool := hasB (iAt ds 0) (iAt ds 1) (iAt ds 2) (iAt ds 3) (iAt ds 6) (iAt ds 7)
theorem KCi72 (W : World) (ds l : List D) : (envOf KC W ds).fi 72 l = compL l := by simp only [envOf, KC]
theorem comp_four (a b c d : Int) : compL [.i a, .i b, .i c, .i d] = compI a b c d := rfl
theorem gHas : Gives Tryz.prog 103 [sec, dir] (fun ds => .bool (hasL ds)) := by
  refine GivesIf.all (fn_gives KC (by kernel_rfl) (fun ρ h => ctC_ok (Sees.of h 74)) (by kernel_rfl) trHas_is trHas_low (by decide) (fun W vals ds hr _ => ?_))
  simp only [trHas, TT.sat_ret, TT.sat_ite, TT.sat_ob, TT.sat_next, TT.sat_stuck, put_i, put_b, put_d, put_fi, put_fb, put_fd, Ob.ok, B.ev, E.ev, X.ev, AL.ev, cmp_t, cmp_f, arEv, V.plain, V2.plain, S.plain, S0.plain, V.val, V2.val, S.val, S0.val, bV, iV, List.all_cons, List.all_nil, Bool.and_true, Bool.and_self, envOf_i, envOf_b, envOf_d, List.map_cons, List.map_nil, true_and, Bool.not_eq_true', Bool.not_eq_false', Bool.not_not, Bool.and_eq_true, and_f, cell_lg, cell_lb, cell_lr, cmpP, val_i, val_b, val_d, aget, Nat.reduceBEq, beq_self_eq_true, Bool.false_eq_true, if_true, if_false, Nat.reduceLT, Nat.reduceSub, Nat.sub_self, Nat.lt_irrefl, KCi72, comp_four]
  simp only [hasL, hasB]
  refine ⟨fun h => ⟨fun h' => ?_, fun h' => ?_⟩, fun h => ⟨fun h1 => ⟨fun h' => ?_, fun h' => ?_⟩, fun h1 => ?_⟩⟩
  all_goals simp [*, cmpEv]
def KD : Interp where
  fi n l := KC.fi n l
  fb n l := match n with | 74 => hasL l | n => KC.fb n l
  fd _ _ := []
theorem KD_KC {ρ : Env} (h : Sees ρ KD 75) : Sees ρ KC 74 := h.trans (by decide) fun n l hn => by
  refine ⟨?_, ?_⟩
  ·
    rfl
  ·
    simp only [KD]
    split <;> first | omega | rfl
def cHas := ctD [sec, dir] fun al => .ret (bV (bF 74 hasL al))
theorem cHas_ok {ρ : Env} (h : Sees ρ KD 75) : CtOne Tryz.prog ρ 103 cHas :=
  ctD_ok gHas (fun _ => rfl) (fun al => by simp only [iV, bV, V.s0, V.val, V2.val, S.val, S0.val, bF_ev (s := 74) (f := hasL) (fun l => by rw [(h 74 l (by decide)).2]; simp only [KD])]; try rfl)
def ctD1 : Ct := (103, cHas) :: ctC
theorem ctD1_ok {ρ : Env} (h : Sees ρ KD 75) : CtOk Tryz.prog ρ ctD1 := .cons (cHas_ok h) (ctC_ok (KD_KC h))
end Go.Proofs.YtcjaembdcfppfaaGreat
/- Chapter 38: the tree of sector.Valid. -/
namespace Go.Proofs.YtcjaembdcfppfaaGreat
open Go.RowKit
-- term trSecL: call Tryz.prog ctD1 (Lt.of []) 100 76 (symArgs 0 [secs]) [] 0
def trSecL : TT OpR :=
(.loop 0 1000 ⟨[(0, (.lit 0))], [], []⟩
 (.ite (.cmp .lss (.var 1000) (.len (.var 0)))
 (.ob (.tru (.cmp .leq (.lit 0) (.var 1000)))
 (.ob (.tru (.cmp .lss (.var 1000) (.len (.var 0))))
 (.ite (.not (.fn 73 (.i (.rd (.var 0) (.var 1000) 0) (.i (.rd (.var 0) (.var 1000) 1) (.i (.rd (.var 0) (.var 1000) 2) (.i (.rd (.var 0) (.var 1000) 3) (.i (.rd (.var 0) (.var 1000) 4) (.i (.rd (.var 0) (.var 1000) 5) .nil))))))))
 (.ret ((.v (.one (.z (.bool (.lit false))))), [], 4))
 (.ob (.tru (.lit true))
 (.ob (.tru (.cmp .leq (.lit 0) (.var 1000)))
 (.ob (.tru (.cmp .leq (.var 1000) (.len (.var 0))))
 (.loop 1 3000 ⟨[(0, (.lit 0))], [], []⟩
 (.ite (.cmp .lss (.var 3000) (.len (.sub (.var 0) (.lit 0) (.var 1000))))
 (.ob (.tru (.cmp .leq (.lit 0) (.var 3000)))
 (.ob (.tru (.cmp .lss (.var 3000) (.len (.sub (.var 0) (.lit 0) (.var 1000)))))
 (.ite (.fn 74 (.i (.rd (.var 0) (.var 1000) 0) (.i (.rd (.var 0) (.var 1000) 1) (.i (.rd (.var 0) (.var 1000) 2) (.i (.rd (.var 0) (.var 1000) 3) (.i (.rd (.var 0) (.var 1000) 4) (.i (.rd (.var 0) (.var 1000) 5) (.i (.rd (.sub (.var 0) (.lit 0) (.var 1000)) (.var 3000) 0) (.i (.rd (.sub (.var 0) (.lit 0) (.var 1000)) (.var 3000) 1) .nil)))))))))
 (.ret ((.v (.one (.z (.bool (.lit false))))), [], 4))
 (.ite (.fn 74 (.i (.rd (.sub (.var 0) (.lit 0) (.var 1000)) (.var 3000) 0) (.i (.rd (.sub (.var 0) (.lit 0) (.var 1000)) (.var 3000) 1) (.i (.rd (.sub (.var 0) (.lit 0) (.var 1000)) (.var 3000) 2) (.i (.rd (.sub (.var 0) (.lit 0) (.var 1000)) (.var 3000) 3) (.i (.rd (.sub (.var 0) (.lit 0) (.var 1000)) (.var 3000) 4) (.i (.rd (.sub (.var 0) (.lit 0) (.var 1000)) (.var 3000) 5) (.i (.rd (.var 0) (.var 1000) 0) (.i (.rd (.var 0) (.var 1000) 1) .nil)))))))))
 (.ret ((.v (.one (.z (.bool (.lit false))))), [], 4))
 (.next 1 ⟨[(0, (.ar .add .i64 (.var 3000) (.lit 1)))], [], []⟩)))))
 (.next 0 ⟨[(0, (.ar .add .i64 (.var 1000) (.lit 1)))], [], []⟩)))))))))
 (.ret ((.v (.one (.z (.bool (.cmp .leq (.len (.var 0)) (.lit 12)))))), [], 4))))
-- end trSecL
set_option maxRecDepth 100000 in
theorem trSecL_is : T.norm 0 (call Tryz.prog ctD1 (Lt.of []) 100 76 (symArgs 0 [secs]) [] 0) TT.ret = trSecL := by kernel_rfl
theorem trSecL_low : trSecL.low 1000 = true := by kernel_rfl
end Go.Proofs.YtcjaembdcfppfaaGreat
/- Chapter 38: sector.Valid. -/
namespace Go.Proofs.YtcjaembdcfppfaaGreat
open Go.RowKit
theorem subP_len (r : Rows) {b : Nat} (h : b ≤ r.length) : (subR r 0 (b : Int)).length = b := by
  simp only [subR, List.length_take, List.length_drop]
  simp
  omega
theorem subP_lg (r : Rows) {b i : Nat} (j : Nat) (h : i < b) : lg (subR r 0 (b : Int)) (i : Int) j = lg r (i : Int) j := by
  have : cellAt (subR r 0 (b : Int)) (i : Int) j = cellAt r (i : Int) j := by
    simp only [cellAt, subR]
    simp [List.getD_eq_getElem?_getD, List.getElem?_take, h]
  rw [lg, lg, this]
def secRow (r : Rows) (i : Nat) : Bool := secB (lg r i 0) (lg r i 1) (lg r i 2) (lg r i 3) (lg r i 4) (lg r i 5)
def hasRow (r : Rows) (i k : Nat) : Bool := hasB (lg r i 0) (lg r i 1) (lg r i 2) (lg r i 3) (lg r k 0) (lg r k 1) || hasB (lg r k 0) (lg r k 1) (lg r k 2) (lg r k 3) (lg r i 0) (lg r i 1)
def innN (r : Rows) (i : Nat) : Nat → Nat → Bool
  | 0, _ => true
  | f + 1, k => !hasRow r i k && innN r i f (k + 1)
def secN (r : Rows) : Nat → Nat → Bool
  | 0, _ => true
  | f + 1, i => (secRow r i && innN r i i 0) && secN r f (i + 1)
def secsB (r : Rows) : Bool := secN r r.length 0 && decide (r.length ≤ 12)
def secsL (ds : List D) : Bool := secsB (rAt ds 0)
theorem KDb73 (W : World) (ds l : List D) : (envOf KD W ds).fb 73 l = secL l := by simp only [envOf, KD, KC]
theorem KDb74 (W : World) (ds l : List D) : (envOf KD W ds).fb 74 l = hasL l := by simp only [envOf, KD]
theorem sec_six (a b c d e f : Int) : secL [.i a, .i b, .i c, .i d, .i e, .i f] = secB a b c d e f := rfl
theorem has_eight (a b c d e f x y : Int) : hasL [.i a, .i b, .i c, .i d, .i e, .i f, .i x, .i y] = hasB a b c d x y := rfl
theorem secs_len {W : World} {vals : List Value} {ds : List D} {sh : List Sh} (h : repSh W (secs :: sh) vals ds) : (rAt ds 0).length ≤ 281474976710656 := by
  obtain ⟨v, vs', d, ds', rfl, rfl, ⟨d, rfl, h⟩, _⟩ := h
  rw [rep_sl] at h
  obtain ⟨r, rfl, a, n, c, _, hs, _⟩ := h
  have e1 := hs.len
  have e2 := hs.big
  show r.length ≤ _
  omega
theorem gSecs : Gives Tryz.prog 76 [secs] (fun ds => .bool (secsL ds)) := by
  refine GivesIf.all (fn_gives KD (by kernel_rfl) (fun ρ h => ctD1_ok (Sees.of h 75)) (by kernel_rfl) trSecL_is trSecL_low (by decide) (fun W vals ds hr _ => ?_))
  have hlen := secs_len hr
  simp only [trSecL]
  generalize hr0 : rAt ds 0 = r at hlen
  have hP : secsL ds = secsB r := by rw [secsL, hr0]
  rw [hP]
  refine TT.sat_loop (fun v => ∃ i : Nat, v.i 0 = i ∧ i ≤ r.length ∧ (secN r (r.length - i) i && decide (r.length ≤ 12)) = secsB r) (fun v => r.length - (v.i 0).toNat)
    ⟨0, by simp [val_i, aget, E.ev], by omega, rfl⟩ (fun v hv => ?_)
  obtain ⟨i, i0, i1, i2⟩ := hv
  simp only [TT.sat_ret, TT.sat_ite, TT.sat_ob, TT.sat_next, TT.sat_stuck, put_i, put_b, put_d, put_fi, put_fb, put_fd, Ob.ok, B.ev, E.ev, X.ev, AL.ev, cmp_t, cmp_f, arEv, V.plain, V2.plain, S.plain, S0.plain, V.val, V2.val, S.val, S0.val, bV, iV, List.all_cons, List.all_nil, Bool.and_true, Bool.and_self, envOf_i, envOf_b, envOf_d, List.map_cons, List.map_nil, true_and, Bool.not_eq_true', Bool.not_eq_false', Bool.not_not, Bool.and_eq_true, and_f, cell_lg, cell_lb, cell_lr, cmpP, val_i, val_b, val_d, aget, Nat.reduceBEq, beq_self_eq_true, Bool.false_eq_true, if_true, if_false, Nat.reduceLT, Nat.reduceSub, Nat.sub_self, Nat.lt_irrefl, i0, hr0, KDb73, KDb74, sec_six, has_eight]
  refine ⟨fun hc => ?_, fun hc => ?_⟩
  · have hi : i < r.length := by omega
    obtain ⟨f, hf⟩ : ∃ f, r.length - i = f + 1 := ⟨r.length - i - 1, by omega⟩
    rw [hf, secN] at i2
    have hsub := subP_len r (show i ≤ r.length by omega)
    refine ⟨by omega, by omega, fun p => ?_, fun p => ⟨by omega, by omega, ?_⟩⟩
    · rw [← i2, secRow, p]; rfl
    refine TT.sat_loop (fun v => ∃ k : Nat, v.i 0 = k ∧ k ≤ i ∧ ((innN r i (i - k) k && secN r f (i + 1)) && decide (r.length ≤ 12)) = secsB r) (fun v => i - (v.i 0).toNat)
      ⟨0, by simp [val_i, aget, E.ev], by omega, by rw [← i2, secRow, p]; rfl⟩ (fun u hu => ?_)
    obtain ⟨k, k0, k1, k2⟩ := hu
    simp only [TT.sat_ret, TT.sat_ite, TT.sat_ob, TT.sat_next, TT.sat_stuck, put_i, put_b, put_d, put_fi, put_fb, put_fd, Ob.ok, B.ev, E.ev, X.ev, AL.ev, cmp_t, cmp_f, arEv, V.plain, V2.plain, S.plain, S0.plain, V.val, V2.val, S.val, S0.val, bV, iV, List.all_cons, List.all_nil, Bool.and_true, Bool.and_self, envOf_i, envOf_b, envOf_d, List.map_cons, List.map_nil, true_and, Bool.not_eq_true', Bool.not_eq_false', Bool.not_not, Bool.and_eq_true, and_f, cell_lg, cell_lb, cell_lr, cmpP, val_i, val_b, val_d, aget, Nat.reduceBEq, beq_self_eq_true, Bool.false_eq_true, if_true, if_false, Nat.reduceLT, Nat.reduceSub, Nat.sub_self, Nat.lt_irrefl, i0, k0, hr0, hsub, KDb73, KDb74, sec_six, has_eight]
    refine ⟨fun hk => ?_, fun hk => ?_⟩
    · have hki : k < i := by omega
      obtain ⟨g, hg⟩ : ∃ g, i - k = g + 1 := ⟨i - k - 1, by omega⟩
      rw [hg, innN, hasRow] at k2
      simp only [subP_lg r _ hki]
      refine ⟨by omega, by omega, fun q => ?_, fun q => ⟨fun q' => ?_, fun q' => ⟨⟨k + 1, ?_, by omega, ?_⟩, ?_⟩⟩⟩
      · rw [← k2, q]; rfl
      · rw [← k2, q, q']; rfl
      · rw [wrap_in _ (by omega) (by omega)]; rfl
      · rw [show i - (k + 1) = g by omega, ← k2, q, q']; rfl
      · rw [wrap_in _ (by omega) (by omega)]; omega
    · have : i - k = 0 := by omega
      rw [this, innN, Bool.true_and] at k2
      refine ⟨⟨i + 1, ?_, by omega, ?_⟩, ?_⟩
      · rw [wrap_in _ (by omega) (by omega)]; rfl
      · rw [show r.length - (i + 1) = f by omega]; exact k2
      · rw [wrap_in _ (by omega) (by omega)]; omega
  · have : r.length - i = 0 := by omega
    rw [this, secN, Bool.true_and] at i2
    rw [← i2]
    congr 1
    rw [Bool.eq_iff_iff, cmp_t, decide_eq_true_eq]
    simp only [cmpP]
    omega
def KE : Interp where
  fi n l := KD.fi n l
  fb n l := match n with | 75 => secsL l | n => KD.fb n l
  fd _ _ := []
theorem KE_KD {ρ : Env} (h : Sees ρ KE 76) : Sees ρ KD 75 := h.trans (by decide) fun n l hn => by
  refine ⟨?_, ?_⟩
  ·
    rfl
  ·
    simp only [KE]
    split <;> first | omega | rfl
def cSecs := ctD [secs] fun al => .ret (bV (bF 75 secsL al))
theorem cSecs_ok {ρ : Env} (h : Sees ρ KE 76) : CtOne Tryz.prog ρ 76 cSecs :=
  ctD_ok gSecs (fun _ => rfl) (fun al => by simp only [iV, bV, V.s0, V.val, V2.val, S.val, S0.val, bF_ev (s := 75) (f := secsL) (fun l => by rw [(h 75 l (by decide)).2]; simp only [KE])]; try rfl)
def ctE : Ct := (76, cSecs) :: ctD1
theorem ctE_ok {ρ : Env} (h : Sees ρ KE 76) : CtOk Tryz.prog ρ ctE := .cons (cSecs_ok h) (ctD1_ok (KE_KD h))
end Go.Proofs.YtcjaembdcfppfaaGreat
/- Chapter 38: the trees of feature.Valid and of poly.Rect. -/
namespace Go.Proofs.YtcjaembdcfppfaaGreat
open Go.RowKit
def feat : Sh := .agg [.int .i64, .int .i64, .int .i64, .int .i64, .int .i64, .sl ptK, .int .i64, .int .i64, .sl secK]
-- term trFeatV: call Tryz.prog ctE (Lt.of []) 100 57 (symArgs 0 [feat]) [] 0
def trFeatV : TT OpR :=
(.ite (.cmp .lss (.var 0) (.lit 1))
 (.ret ((.v (.one (.z (.bool (.lit false))))), [], 1))
 (.ite (.cmp .gtr (.var 0) (.lit 100000))
 (.ret ((.v (.one (.z (.bool (.lit false))))), [], 1))
 (.ite (.cmp .lss (.var 7) (.lit 0))
 (.ret ((.v (.one (.z (.bool (.lit false))))), [], 1))
 (.ite (.cmp .gtr (.var 7) (.lit 999))
 (.ret ((.v (.one (.z (.bool (.lit false))))), [], 1))
 (.ite (.cmp .lss (.var 6) (.lit 0))
 (.ret ((.v (.one (.z (.bool (.lit false))))), [], 1))
 (.ite (.cmp .gtr (.var 6) (.lit 100000))
 (.ret ((.v (.one (.z (.bool (.lit false))))), [], 1))
 (.ite (.cmp .lss (.var 4) (.lit 0))
 (.ret ((.v (.one (.z (.bool (.lit false))))), [], 1))
 (.ite (.cmp .gtr (.var 4) (.lit 100000))
 (.ret ((.v (.one (.z (.bool (.lit false))))), [], 1))
 (.ite (.cmp .eql (.var 1) (.lit 1))
 (.ite (.cmp .eql (.var 1) (.lit 1))
 (.ite (.fn 3 (.i (.var 2) (.i (.var 3) .nil)))
 (.ite (.fn 3 (.i (.ar .sub .i64 (.var 2) (.var 4)) (.i (.ar .sub .i64 (.var 3) (.var 4)) .nil)))
 (.ite (.fn 3 (.i (.ar .add .i64 (.var 2) (.var 4)) (.i (.ar .add .i64 (.var 3) (.var 4)) .nil)))
 (.ite (.cmp .eql (.len (.var 5)) (.lit 0))
 (.ret ((.v (.one (.z (.bool (.cmp .eql (.len (.var 8)) (.lit 0)))))), [], 2))
 (.ret ((.v (.one (.z (.bool (.lit false))))), [], 2)))
 (.ret ((.v (.one (.z (.bool (.lit false))))), [], 2)))
 (.ret ((.v (.one (.z (.bool (.lit false))))), [], 2)))
 (.ret ((.v (.one (.z (.bool (.lit false))))), [], 1)))
 (.ite (.cmp .eql (.var 1) (.lit 6))
 (.ite (.cmp .gtr (.var 6) (.lit 0))
 (.ret ((.v (.one (.z (.bool (.lit false))))), [], 1))
 (.ite (.fn 69 (.x (.var 5) .nil))
 (.ite (.and (.cmp .eql (.var 2) (.lit 0)) (.cmp .eql (.var 3) (.lit 0)))
 (.ite (.cmp .eql (.var 4) (.lit 0))
 (.ret ((.v (.one (.z (.bool (.cmp .eql (.len (.var 8)) (.lit 0)))))), [], 1))
 (.ret ((.v (.one (.z (.bool (.lit false))))), [], 1)))
 (.ret ((.v (.one (.z (.bool (.lit false))))), [], 1)))
 (.ret ((.v (.one (.z (.bool (.lit false))))), [], 1))))
 (.ite (.cmp .eql (.var 1) (.lit 3))
 (.ite (.fn 69 (.x (.var 5) .nil))
 (.ite (.and (.cmp .eql (.var 2) (.lit 0)) (.cmp .eql (.var 3) (.lit 0)))
 (.ite (.cmp .eql (.var 4) (.lit 0))
 (.ret ((.v (.one (.z (.bool (.cmp .eql (.len (.var 8)) (.lit 0)))))), [], 1))
 (.ret ((.v (.one (.z (.bool (.lit false))))), [], 1)))
 (.ret ((.v (.one (.z (.bool (.lit false))))), [], 1)))
 (.ret ((.v (.one (.z (.bool (.lit false))))), [], 1)))
 (.ite (.cmp .eql (.var 1) (.lit 4))
 (.ite (.fn 3 (.i (.var 2) (.i (.var 3) .nil)))
 (.ite (.fn 75 (.x (.var 8) .nil))
 (.ite (.cmp .eql (.var 4) (.lit 0))
 (.ite (.cmp .eql (.var 6) (.lit 0))
 (.ret ((.v (.one (.z (.bool (.cmp .eql (.len (.var 5)) (.lit 0)))))), [], 1))
 (.ret ((.v (.one (.z (.bool (.lit false))))), [], 1)))
 (.ret ((.v (.one (.z (.bool (.lit false))))), [], 1)))
 (.ret ((.v (.one (.z (.bool (.lit false))))), [], 1)))
 (.ret ((.v (.one (.z (.bool (.lit false))))), [], 1)))
 (.ret ((.v (.one (.z (.bool (.lit false))))), [], 1))))))
 (.ite (.cmp .eql (.var 1) (.lit 2))
 (.ite (.cmp .eql (.var 1) (.lit 2))
 (.ite (.fn 3 (.i (.var 2) (.i (.var 3) .nil)))
 (.ite (.fn 3 (.i (.ar .sub .i64 (.var 2) (.var 4)) (.i (.ar .sub .i64 (.var 3) (.var 4)) .nil)))
 (.ite (.fn 3 (.i (.ar .add .i64 (.var 2) (.var 4)) (.i (.ar .add .i64 (.var 3) (.var 4)) .nil)))
 (.ite (.cmp .eql (.len (.var 5)) (.lit 0))
 (.ret ((.v (.one (.z (.bool (.cmp .eql (.len (.var 8)) (.lit 0)))))), [], 2))
 (.ret ((.v (.one (.z (.bool (.lit false))))), [], 2)))
 (.ret ((.v (.one (.z (.bool (.lit false))))), [], 2)))
 (.ret ((.v (.one (.z (.bool (.lit false))))), [], 2)))
 (.ret ((.v (.one (.z (.bool (.lit false))))), [], 1)))
 (.ite (.cmp .eql (.var 1) (.lit 6))
 (.ite (.cmp .gtr (.var 6) (.lit 0))
 (.ret ((.v (.one (.z (.bool (.lit false))))), [], 1))
 (.ite (.fn 69 (.x (.var 5) .nil))
 (.ite (.and (.cmp .eql (.var 2) (.lit 0)) (.cmp .eql (.var 3) (.lit 0)))
 (.ite (.cmp .eql (.var 4) (.lit 0))
 (.ret ((.v (.one (.z (.bool (.cmp .eql (.len (.var 8)) (.lit 0)))))), [], 1))
 (.ret ((.v (.one (.z (.bool (.lit false))))), [], 1)))
 (.ret ((.v (.one (.z (.bool (.lit false))))), [], 1)))
 (.ret ((.v (.one (.z (.bool (.lit false))))), [], 1))))
 (.ite (.cmp .eql (.var 1) (.lit 3))
 (.ite (.fn 69 (.x (.var 5) .nil))
 (.ite (.and (.cmp .eql (.var 2) (.lit 0)) (.cmp .eql (.var 3) (.lit 0)))
 (.ite (.cmp .eql (.var 4) (.lit 0))
 (.ret ((.v (.one (.z (.bool (.cmp .eql (.len (.var 8)) (.lit 0)))))), [], 1))
 (.ret ((.v (.one (.z (.bool (.lit false))))), [], 1)))
 (.ret ((.v (.one (.z (.bool (.lit false))))), [], 1)))
 (.ret ((.v (.one (.z (.bool (.lit false))))), [], 1)))
 (.ite (.cmp .eql (.var 1) (.lit 4))
 (.ite (.fn 3 (.i (.var 2) (.i (.var 3) .nil)))
 (.ite (.fn 75 (.x (.var 8) .nil))
 (.ite (.cmp .eql (.var 4) (.lit 0))
 (.ite (.cmp .eql (.var 6) (.lit 0))
 (.ret ((.v (.one (.z (.bool (.cmp .eql (.len (.var 5)) (.lit 0)))))), [], 1))
 (.ret ((.v (.one (.z (.bool (.lit false))))), [], 1)))
 (.ret ((.v (.one (.z (.bool (.lit false))))), [], 1)))
 (.ret ((.v (.one (.z (.bool (.lit false))))), [], 1)))
 (.ret ((.v (.one (.z (.bool (.lit false))))), [], 1)))
 (.ret ((.v (.one (.z (.bool (.lit false))))), [], 1))))))
 (.ite (.cmp .eql (.var 1) (.lit 5))
 (.ite (.fn 3 (.i (.var 2) (.i (.var 3) .nil)))
 (.ite (.fn 3 (.i (.ar .sub .i64 (.var 2) (.var 4)) (.i (.ar .sub .i64 (.var 3) (.var 4)) .nil)))
 (.ite (.fn 3 (.i (.ar .add .i64 (.var 2) (.var 4)) (.i (.ar .add .i64 (.var 3) (.var 4)) .nil)))
 (.ite (.cmp .eql (.len (.var 5)) (.lit 0))
 (.ret ((.v (.one (.z (.bool (.cmp .eql (.len (.var 8)) (.lit 0)))))), [], 2))
 (.ret ((.v (.one (.z (.bool (.lit false))))), [], 2)))
 (.ret ((.v (.one (.z (.bool (.lit false))))), [], 2)))
 (.ret ((.v (.one (.z (.bool (.lit false))))), [], 2)))
 (.ret ((.v (.one (.z (.bool (.lit false))))), [], 1)))
 (.ite (.cmp .eql (.var 1) (.lit 6))
 (.ite (.cmp .gtr (.var 6) (.lit 0))
 (.ret ((.v (.one (.z (.bool (.lit false))))), [], 1))
 (.ite (.fn 69 (.x (.var 5) .nil))
 (.ite (.and (.cmp .eql (.var 2) (.lit 0)) (.cmp .eql (.var 3) (.lit 0)))
 (.ite (.cmp .eql (.var 4) (.lit 0))
 (.ret ((.v (.one (.z (.bool (.cmp .eql (.len (.var 8)) (.lit 0)))))), [], 1))
 (.ret ((.v (.one (.z (.bool (.lit false))))), [], 1)))
 (.ret ((.v (.one (.z (.bool (.lit false))))), [], 1)))
 (.ret ((.v (.one (.z (.bool (.lit false))))), [], 1))))
 (.ite (.cmp .eql (.var 1) (.lit 3))
 (.ite (.fn 69 (.x (.var 5) .nil))
 (.ite (.and (.cmp .eql (.var 2) (.lit 0)) (.cmp .eql (.var 3) (.lit 0)))
 (.ite (.cmp .eql (.var 4) (.lit 0))
 (.ret ((.v (.one (.z (.bool (.cmp .eql (.len (.var 8)) (.lit 0)))))), [], 1))
 (.ret ((.v (.one (.z (.bool (.lit false))))), [], 1)))
 (.ret ((.v (.one (.z (.bool (.lit false))))), [], 1)))
 (.ret ((.v (.one (.z (.bool (.lit false))))), [], 1)))
 (.ite (.cmp .eql (.var 1) (.lit 4))
 (.ite (.fn 3 (.i (.var 2) (.i (.var 3) .nil)))
 (.ite (.fn 75 (.x (.var 8) .nil))
 (.ite (.cmp .eql (.var 4) (.lit 0))
 (.ite (.cmp .eql (.var 6) (.lit 0))
 (.ret ((.v (.one (.z (.bool (.cmp .eql (.len (.var 5)) (.lit 0)))))), [], 1))
 (.ret ((.v (.one (.z (.bool (.lit false))))), [], 1)))
 (.ret ((.v (.one (.z (.bool (.lit false))))), [], 1)))
 (.ret ((.v (.one (.z (.bool (.lit false))))), [], 1)))
 (.ret ((.v (.one (.z (.bool (.lit false))))), [], 1)))
 (.ret ((.v (.one (.z (.bool (.lit false))))), [], 1))))))))))))))))
-- end trFeatV
set_option maxRecDepth 100000 in
theorem trFeatV_is : T.norm 0 (call Tryz.prog ctE (Lt.of []) 100 57 (symArgs 0 [feat]) [] 0) TT.ret = trFeatV := by kernel_rfl
theorem trFeatV_low : trFeatV.low 1000 = true := by kernel_rfl
end Go.Proofs.YtcjaembdcfppfaaGreat
/- Chapter 38: feature.Valid. -/
namespace Go.Proofs.YtcjaembdcfppfaaGreat
open Go.RowKit
def featP (id kind x y rad : Int) (area : Rows) (depth sym : Int) (sc : Rows) : Prop :=
  (1 ≤ id ∧ id ≤ 100000) ∧ (0 ≤ sym ∧ sym ≤ 999) ∧ (0 ≤ depth ∧ depth ≤ 100000) ∧ (0 ≤ rad ∧ rad ≤ 100000) ∧
  (((kind = 1 ∨ kind = 2 ∨ kind = 5) ∧ placeB x y = true ∧ placeB (x - rad) (y - rad) = true ∧ placeB (x + rad) (y + rad) = true ∧ (area.length : Int) = 0 ∧ (sc.length : Int) = 0) ∨
   ((kind = 3 ∨ (kind = 6 ∧ depth = 0)) ∧ polyB area = true ∧ x = 0 ∧ y = 0 ∧ rad = 0 ∧ (sc.length : Int) = 0) ∨
   (kind = 4 ∧ placeB x y = true ∧ secsB sc = true ∧ rad = 0 ∧ depth = 0 ∧ (area.length : Int) = 0))
instance (id kind x y rad : Int) (area : Rows) (depth sym : Int) (sc : Rows) : Decidable (featP id kind x y rad area depth sym sc) := by unfold featP; infer_instance
def featB (id kind x y rad : Int) (area : Rows) (depth sym : Int) (sc : Rows) : Bool := decide (featP id kind x y rad area depth sym sc)
def featL (ds : List D) : Bool := featB (iAt ds 0) (iAt ds 1) (iAt ds 2) (iAt ds 3) (iAt ds 4) (rAt ds 5) (iAt ds 6) (iAt ds 7) (rAt ds 8)
theorem KEb3 (W : World) (ds l : List D) : (envOf KE W ds).fb 3 l = placeL l := by simp only [envOf, KE, KD, KC, KB, KA, K9, K8, K7, K6, K5, K]
theorem KEb69 (W : World) (ds l : List D) : (envOf KE W ds).fb 69 l = polyL l := by simp only [envOf, KE, KD, KC, KB]
theorem KEb75 (W : World) (ds l : List D) : (envOf KE W ds).fb 75 l = secsL l := by simp only [envOf, KE]
theorem secs_one (r : Rows) : secsL [.l r] = secsB r := rfl
set_option maxHeartbeats 2000000 in
theorem gFeatV : Gives Tryz.prog 57 [feat] (fun ds => .bool (featL ds)) := by
  refine GivesIf.all (fn_gives KE (by kernel_rfl) (fun ρ h => ctE_ok (Sees.of h 76)) (by kernel_rfl) trFeatV_is trFeatV_low (by decide) (fun W vals ds hr _ => ?_))
  simp only [trFeatV, TT.sat_ret, TT.sat_ite, TT.sat_ob, TT.sat_next, TT.sat_stuck, put_i, put_b, put_d, put_fi, put_fb, put_fd, Ob.ok, B.ev, E.ev, X.ev, AL.ev, cmp_t, cmp_f, arEv, V.plain, V2.plain, S.plain, S0.plain, V.val, V2.val, S.val, S0.val, bV, iV, List.all_cons, List.all_nil, Bool.and_true, Bool.and_self, envOf_i, envOf_b, envOf_d, List.map_cons, List.map_nil, true_and, Bool.not_eq_true', Bool.not_eq_false', Bool.not_not, Bool.and_eq_true, and_f, cell_lg, cell_lb, cell_lr, cmpP, val_i, val_b, val_d, aget, Nat.reduceBEq, beq_self_eq_true, Bool.false_eq_true, if_true, if_false, Nat.reduceLT, Nat.reduceSub, Nat.sub_self, Nat.lt_irrefl, KEb3, KEb69, KEb75, place_two, poly_one, secs_one]
  simp only [featL, featB]
  generalize iAt ds 0 = id
  generalize iAt ds 1 = kind
  generalize iAt ds 2 = x
  generalize iAt ds 3 = y
  generalize iAt ds 4 = rad
  generalize rAt ds 5 = area
  generalize iAt ds 6 = depth
  generalize iAt ds 7 = sym
  generalize rAt ds 8 = sc
  have W1 : placeB x y = true → 0 ≤ rad → rad ≤ 100000 → placeB (IntKind.i64.wrap (x - rad)) (IntKind.i64.wrap (y - rad)) = placeB (x - rad) (y - rad) := fun h _ _ => by
    rw [placeB_iff] at h; rw [wrap_in (x - rad) (by omega) (by omega), wrap_in (y - rad) (by omega) (by omega)]
  have W2 : placeB x y = true → 0 ≤ rad → rad ≤ 100000 → placeB (IntKind.i64.wrap (x + rad)) (IntKind.i64.wrap (y + rad)) = placeB (x + rad) (y + rad) := fun h _ _ => by
    rw [placeB_iff] at h; rw [wrap_in (x + rad) (by omega) (by omega), wrap_in (y + rad) (by omega) (by omega)]
  repeat' (first | (intro h; skip) | (refine And.intro ?_ ?_))
  all_goals (refine congrArg Value.bool ?_; rw [Bool.eq_iff_iff]; simp only [cmp_t, cmpP, decide_eq_true_eq, Bool.false_eq_true, false_iff, featP])
  all_goals clear hr
  all_goals grind
def KF : Interp where
  fi n l := KE.fi n l
  fb n l := match n with | 76 => featL l | n => KE.fb n l
  fd _ _ := []
theorem KF_KE {ρ : Env} (h : Sees ρ KF 77) : Sees ρ KE 76 := h.trans (by decide) fun n l hn => by
  refine ⟨?_, ?_⟩
  ·
    rfl
  ·
    simp only [KF]
    split <;> first | omega | rfl
def cFeatV := ctD [feat] fun al => .ret (bV (bF 76 featL al))
theorem cFeatV_ok {ρ : Env} (h : Sees ρ KF 77) : CtOne Tryz.prog ρ 57 cFeatV :=
  ctD_ok gFeatV (fun _ => rfl) (fun al => by simp only [iV, bV, V.s0, V.val, V2.val, S.val, S0.val, bF_ev (s := 76) (f := featL) (fun l => by rw [(h 76 l (by decide)).2]; simp only [KF])]; try rfl)
theorem KF_K {ρ : Env} (h : Sees ρ KF 77) : Sees ρ K 30 := h.trans (by decide) fun n l hn => by
  have e : n < 30 := hn
  refine ⟨?_, ?_⟩
  · simp only [KF, KE, KD, KC, KB, KA, K9, K8, K7, K6, K5]
    (repeat' split) <;> first | omega | rfl
  · simp only [KF, KE, KD, KC, KB, KA, K9, K8, K7, K6, K5]
    (repeat' split) <;> first | omega | rfl
def ctF : Ct := (57, cFeatV) :: (166, cNearA) :: ctE
theorem ctF_ok {ρ : Env} (h : Sees ρ KF 77) : CtOk Tryz.prog ρ ctF := .cons (cFeatV_ok h) <| .cons (cNearA_ok (KF_K h)) <| (ctE_ok (KF_KE h))
end Go.Proofs.YtcjaembdcfppfaaGreat
/- Chapter 38: the trees of passage.Near, poly.Rect, feature.Covers. -/
namespace Go.Proofs.YtcjaembdcfppfaaGreat
open Go.RowKit
end Go.Proofs.YtcjaembdcfppfaaGreat
/- Chapter 38: passage.Near, feature.Covers. -/
namespace Go.Proofs.YtcjaembdcfppfaaGreat
open Go.RowKit
def besN (r a : Rows) (k off : Int) : Nat → Nat → Bool
  | 0, _ => false
  | f + 1, i => closeR [.i (lg r k 0), .i (lg r k 1), .i (lg r k 2), .i (lg r k 3), .i (lg a (prv a.length i) 0), .i (lg a (prv a.length i) 1), .i (lg a i 0), .i (lg a i 1), .i off] || besN r a k off f (i + 1)
def nearPO (ds : List D) : Bool := psgB (iAt ds 0) (iAt ds 1) (iAt ds 2) (rAt ds 3) && (decide (0 ≤ iAt ds 4 ∧ iAt ds 4 < (rAt ds 3).length) && featB (iAt ds 5) (iAt ds 6) (iAt ds 7) (iAt ds 8) (iAt ds 9) (rAt ds 10) (iAt ds 11) (iAt ds 12) (rAt ds 13))
def nearX (r : Rows) (k off kind x y rad : Int) (area : Rows) : Bool :=
  if kind = 4 then false else if kind = 3 ∨ kind = 6 then decide (0 ≤ pinR [.i (lg r k 0), .i (lg r k 1), .l area]) || besN r area k off area.length 0
  else nearR [.i x, .i y, .i (lg r k 0), .i (lg r k 1), .i (lg r k 2), .i (lg r k 3), .i (rad + off)]
def nearXE (r : Rows) (k off kind x y rad : Int) : Int :=
  if kind = 4 ∨ kind = 3 ∨ kind = 6 then 0 else nearE [.i x, .i y, .i (lg r k 0), .i (lg r k 1), .i (lg r k 2), .i (lg r k 3), .i (rad + off)]
def nearPR (ds : List D) : Bool := nearPO ds && nearX (rAt ds 3) (iAt ds 4) (iAt ds 2) (iAt ds 6) (iAt ds 7) (iAt ds 8) (iAt ds 9) (rAt ds 10)
def nearPE (ds : List D) : Int := if nearPO ds then nearXE (rAt ds 3) (iAt ds 4) (iAt ds 2) (iAt ds 6) (iAt ds 7) (iAt ds 8) (iAt ds 9) else 1
theorem KFb76 (W : World) (ds l : List D) : (envOf KF W ds).fb 76 l = featL l := by simp only [envOf, KF]
theorem feat_nine (a b c d e f g : Int) (r s : Rows) : featL [.i a, .i b, .i c, .i d, .i e, .l r, .i f, .i g, .l s] = featB a b c d e r f g s := rfl
theorem featB_iff {id kind x y rad depth sym : Int} {area sc : Rows} : featB id kind x y rad area depth sym sc = true ↔ featP id kind x y rad area depth sym sc := by
  unfold featB; exact decide_eq_true_iff
theorem polyB_len {r : Rows} (h : polyB r = true) : 3 ≤ r.length ∧ r.length ≤ 24 := by
  simp only [polyB, Bool.and_eq_true, decide_eq_true_eq] at h
  exact h.1
def covO (ds : List D) : Bool := featB (iAt ds 0) (iAt ds 1) (iAt ds 2) (iAt ds 3) (iAt ds 4) (rAt ds 5) (iAt ds 6) (iAt ds 7) (rAt ds 8) && placeB (iAt ds 9) (iAt ds 10)
def covX (kind x y rad : Int) (area : Rows) (px py : Int) : Bool :=
  if kind = 4 then false else if kind = 3 ∨ kind = 6 then decide (pinE [.i px, .i py, .l area] = 0 ∧ 0 ≤ pinR [.i px, .i py, .l area])
  else decide (nearE [.i px, .i py, .i x, .i y, .i x, .i y, .i rad] = 0) && nearR [.i px, .i py, .i x, .i y, .i x, .i y, .i rad]
def covR (ds : List D) : Bool := covO ds && covX (iAt ds 1) (iAt ds 2) (iAt ds 3) (iAt ds 4) (rAt ds 5) (iAt ds 9) (iAt ds 10)
def covE (ds : List D) : Int := if covO ds then 0 else 1
def KG : Interp where
  fi n l := match n with | 77 => nearPE l | 78 => covE l | n => KF.fi n l
  fb n l := match n with | 77 => nearPR l | 78 => covR l | n => KF.fb n l
  fd _ _ := []
theorem KG_KF {ρ : Env} (h : Sees ρ KG 80) : Sees ρ KF 77 := h.trans (by decide) fun n l hn => by
  refine ⟨?_, ?_⟩
  ·
    simp only [KG]
    split <;> first | omega | rfl
  ·
    simp only [KG]
    split <;> first | omega | rfl
end Go.Proofs.YtcjaembdcfppfaaGreat
