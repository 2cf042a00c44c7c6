/- MF, merged: Co0, TCo, Co, TCp, Cq, Cr, Cs, TCu, Cu, TCt, Ct. -/
import Derived.Test.YtbbjlleaofgddaaGreatMD
set_option linter.unusedSimpArgs false
set_option linter.unusedVariables false
/- Chapter 38: contracts for plane.On and plane.Meet. -/
namespace Go.Proofs.YtbbjlleaofgddaaGreat
open Go.RowKit
def I8 : Interp := { fi := fun _ _ => 0, fb := fun n l => match n with | 1 => six6 l | 3 => placeL l | 4 => onL l | 5 => eight l | 6 => meetL l | _ => false, fd := fun _ _ => [] }
def ct8 : Ct := [(126, cPlace1), (176, cMeet1), (182, cOn1)]
theorem ct8_ok {ρ : Env} (h : ρ.has I8) : CtOk Tryz.prog ρ ct8 :=
  .cons (cPlace1_ok (fun l => by rw [h.2.1]; rfl)) <| .cons (cMeet1_ok (fun l => by rw [h.2.1]; rfl) (fun l => by rw [h.2.1]; rfl)) <| .cons (cOn1_ok (fun l => by rw [h.2.1]; rfl) (fun l => by rw [h.2.1]; rfl)) .nil
end Go.Proofs.YtbbjlleaofgddaaGreat
/- Chapter 38: the trees of plane.On, plane.Meet. -/
namespace Go.Proofs.YtbbjlleaofgddaaGreat
open Go.RowKit
-- term trMeetX: call Tryz.prog ct8 lt1 100 163 (symArgs 0 [pt, pt, pt, pt]) [] 0
def trMeetX : TT OpR :=
(.ite (.not (.fn 3 (.i (.var 0) (.i (.var 1) .nil))))
 (.ret ((.tup [(.one (.z (.bool (.lit false)))), (.one (.z (.int .i64 (.lit 1))))]), [], 6))
 (.ite (.not (.fn 3 (.i (.var 2) (.i (.var 3) .nil))))
 (.ret ((.tup [(.one (.z (.bool (.lit false)))), (.one (.z (.int .i64 (.lit 1))))]), [], 7))
 (.ite (.not (.fn 3 (.i (.var 4) (.i (.var 5) .nil))))
 (.ret ((.tup [(.one (.z (.bool (.lit false)))), (.one (.z (.int .i64 (.lit 1))))]), [], 8))
 (.ite (.not (.fn 3 (.i (.var 6) (.i (.var 7) .nil))))
 (.ret ((.tup [(.one (.z (.bool (.lit false)))), (.one (.z (.int .i64 (.lit 1))))]), [], 9))
 (.ob (.tru (.fn 5 (.i (.var 0) (.i (.var 1) (.i (.var 2) (.i (.var 3) (.i (.var 4) (.i (.var 5) (.i (.var 6) (.i (.var 7) .nil))))))))))
 (.ret ((.tup [(.one (.z (.bool (.fn 6 (.i (.var 0) (.i (.var 1) (.i (.var 2) (.i (.var 3) (.i (.var 4) (.i (.var 5) (.i (.var 6) (.i (.var 7) .nil)))))))))))), (.one (.z (.int .i64 (.lit 0))))]), [], 9)))))))
-- end trMeetX
set_option maxRecDepth 100000 in
theorem trMeetX_is : T.norm 0 (call Tryz.prog ct8 lt1 100 163 (symArgs 0 [pt, pt, pt, pt]) [] 0) TT.ret = trMeetX := by kernel_rfl
theorem trMeetX_low : trMeetX.low 1000 = true := by kernel_rfl
end Go.Proofs.YtbbjlleaofgddaaGreat
/- Chapter 38: what plane.On and plane.Meet answer. -/
namespace Go.Proofs.YtbbjlleaofgddaaGreat
open Go.RowKit
theorem I8_1 (W : World) (ds l : List D) : (envOf I8 W ds).fb 1 l = six6 l := by simp only [envOf, I8]
theorem I8_3 (W : World) (ds l : List D) : (envOf I8 W ds).fb 3 l = placeL l := by simp only [envOf, I8]
theorem I8_4 (W : World) (ds l : List D) : (envOf I8 W ds).fb 4 l = onL l := by simp only [envOf, I8]
theorem I8_5 (W : World) (ds l : List D) : (envOf I8 W ds).fb 5 l = eight l := by simp only [envOf, I8]
theorem I8_6 (W : World) (ds l : List D) : (envOf I8 W ds).fb 6 l = meetL l := by simp only [envOf, I8]
theorem gMeet : Gives Tryz.prog 163 [pt, pt, pt, pt] (fun ds => errV (eight ds) (meetL ds)) := by
  refine GivesIf.all (fn_gives I8 (by kernel_rfl) (fun ρ h => ct8_ok h) (by kernel_rfl) trMeetX_is trMeetX_low (by decide) (fun W vals ds _ _ => ?_))
  simp only [trMeetX, TT.sat_ret, TT.sat_ite, TT.sat_ob, TT.sat_next, TT.sat_stuck, put_i, put_b, put_d, put_fi, put_fb, put_fd, Ob.ok, B.ev, E.ev, X.ev, AL.ev, cmp_t, cmp_f, arEv, V.plain, V2.plain, S.plain, S0.plain, V.val, V2.val, S.val, S0.val, bV, iV, List.all_cons, List.all_nil, Bool.and_true, Bool.and_self, envOf_i, envOf_b, envOf_d, List.map_cons, List.map_nil, true_and, Bool.not_eq_true', Bool.not_eq_false', Bool.not_not, Bool.and_eq_true, and_f, cell_lg, cell_lb, cell_lr, cmpP, val_i, val_b, val_d, aget, Nat.reduceBEq, beq_self_eq_true, Bool.false_eq_true, if_true, if_false, Nat.reduceLT, Nat.reduceSub, Nat.sub_self, Nat.lt_irrefl, I8_1, I8_3, I8_4, I8_5, I8_6, placeL_two, six_six, eight_eight, meet_eight]
  simp only [errV, eight, meetL]
  refine ⟨fun h => ?_, fun h => ⟨fun h' => ?_, fun h' => ⟨fun h'' => ?_, fun h'' => ⟨fun h3 => ?_, fun h3 => ?_⟩⟩⟩⟩ <;> simp [*]
def onR (ds : List D) : Bool := six6 ds && onL ds
def meetR (ds : List D) : Bool := eight ds && meetL ds
def meetRE (ds : List D) : Int := if eight ds then 0 else 1
def K8 : Interp where
  fi n l := match n with | 64 => meetRE l | n => K7.fi n l
  fb n l := match n with | 61 => onR l | 62 => meetR l | n => K7.fb n l
  fd _ _ := []
def cOnA := ctD [pt, pt, pt] fun al => .ret (.tup [.one (sBF 61 onR al), .one (sIF 16 turnE al)])
def cMeetA := ctD [pt, pt, pt, pt] fun al => .ret (.tup [.one (sBF 62 meetR al), .one (sIF 64 meetRE al)])
section
variable {ρ : Env} (h : Sees ρ K8 65)
include h
theorem cMeetA_ok : CtOne Tryz.prog ρ 163 cMeetA :=
  ctD_ok gMeet (fun _ => rfl) (fun al => by
    simp only [V.val, V2.val, S.val, S0.val, sIF, sBF, List.map_cons, List.map_nil, bF_ev (s := 62) (f := meetR) (fun l => by rw [(h 62 l (by decide)).2]; simp only [K8]), iF_ev (s := 64) (f := meetRE) (fun l => by rw [(h 64 l (by decide)).1]; simp only [K8])]; rfl)
theorem cPl8_ok : CtOne Tryz.prog ρ 126 cPlace1 := cPlace1_ok (fun l => by rw [(h 3 l (by decide)).2]; simp only [K8, K7, K6, K5, K])
theorem cTurn8_ok : CtOne Tryz.prog ρ 161 cTurnA :=
  ctD_ok gTurn (fun _ => rfl) (fun al => by
    simp only [V.val, V2.val, S.val, S0.val, sIF, sBF, List.map_cons, List.map_nil, iF_ev (s := 15) (f := turnR) (fun l => by rw [(h 15 l (by decide)).1]; simp only [K8, K7, K6, K5, K]), iF_ev (s := 16) (f := turnE) (fun l => by rw [(h 16 l (by decide)).1]; simp only [K8, K7, K6, K5, K]), turnV, turnR, turnE]
    split <;> rfl)
end
def ctPo : Ct := [(126, cPlace1), (163, cMeetA), (161, cTurnA)]
theorem ctPo_ok {ρ : Env} (h : Sees ρ K8 65) : CtOk Tryz.prog ρ ctPo := .cons (cPl8_ok h) <| .cons (cMeetA_ok h) <| .cons (cTurn8_ok h) .nil
end Go.Proofs.YtbbjlleaofgddaaGreat
/- Chapter 38: the trees of package poly. -/
namespace Go.Proofs.YtbbjlleaofgddaaGreat
open Go.RowKit
def ptK : List CK := [.int .i64, .int .i64]
def pts : Sh := .one (.sl ptK)
-- term trSimple: call Tryz.prog ctPo (Lt.of []) 100 149 (symArgs 0 [pts]) [] 0
def trSimple : TT OpR :=
(.loop 0 7000 ⟨[(0, (.lit 0))], [], []⟩
 (.ite (.cmp .lss (.var 7000) (.len (.var 0)))
 (.ob (.tru (.cmp .leq (.lit 0) (.var 7000)))
 (.ob (.tru (.cmp .lss (.var 7000) (.len (.var 0))))
 (.ob (.tru (.cmp .neq (.len (.var 0)) (.lit 0)))
 (.ob (.tru (.cmp .leq (.lit 0) (.ar .rem .i64 (.ar .add .i64 (.ar .add .i64 (.var 7000) (.lit 1)) (.len (.var 0))) (.len (.var 0)))))
 (.ob (.tru (.cmp .lss (.ar .rem .i64 (.ar .add .i64 (.ar .add .i64 (.var 7000) (.lit 1)) (.len (.var 0))) (.len (.var 0))) (.len (.var 0))))
 (.loop 1 14000 ⟨[(0, (.lit 0))], [], []⟩
 (.ite (.cmp .lss (.var 14000) (.len (.var 0)))
 (.ob (.tru (.cmp .leq (.lit 0) (.var 14000)))
 (.ob (.tru (.cmp .lss (.var 14000) (.len (.var 0))))
 (.ob (.tru (.cmp .neq (.len (.var 0)) (.lit 0)))
 (.ob (.tru (.cmp .leq (.lit 0) (.ar .rem .i64 (.ar .add .i64 (.ar .add .i64 (.var 14000) (.lit 1)) (.len (.var 0))) (.len (.var 0)))))
 (.ob (.tru (.cmp .lss (.ar .rem .i64 (.ar .add .i64 (.ar .add .i64 (.var 14000) (.lit 1)) (.len (.var 0))) (.len (.var 0))) (.len (.var 0))))
 (.ite (.cmp .leq (.var 14000) (.ar .add .i64 (.var 7000) (.lit 1)))
 (.next 1 ⟨[(0, (.ar .add .i64 (.var 14000) (.lit 1)))], [], []⟩)
 (.ite (.cmp .eql (.var 7000) (.lit 0))
 (.ite (.cmp .eql (.var 14000) (.ar .sub .i64 (.len (.var 0)) (.lit 1)))
 (.next 1 ⟨[(0, (.ar .add .i64 (.var 14000) (.lit 1)))], [], []⟩)
 (.ite (.fn 62 (.i (.rd (.var 0) (.var 7000) 0) (.i (.rd (.var 0) (.var 7000) 1) (.i (.rd (.var 0) (.ar .rem .i64 (.ar .add .i64 (.ar .add .i64 (.var 7000) (.lit 1)) (.len (.var 0))) (.len (.var 0))) 0) (.i (.rd (.var 0) (.ar .rem .i64 (.ar .add .i64 (.ar .add .i64 (.var 7000) (.lit 1)) (.len (.var 0))) (.len (.var 0))) 1) (.i (.rd (.var 0) (.var 14000) 0) (.i (.rd (.var 0) (.var 14000) 1) (.i (.rd (.var 0) (.ar .rem .i64 (.ar .add .i64 (.ar .add .i64 (.var 14000) (.lit 1)) (.len (.var 0))) (.len (.var 0))) 0) (.i (.rd (.var 0) (.ar .rem .i64 (.ar .add .i64 (.ar .add .i64 (.var 14000) (.lit 1)) (.len (.var 0))) (.len (.var 0))) 1) .nil)))))))))
 (.ret ((.v (.one (.z (.bool (.lit false))))), [], 17))
 (.next 1 ⟨[(0, (.ar .add .i64 (.var 14000) (.lit 1)))], [], []⟩)))
 (.ite (.fn 62 (.i (.rd (.var 0) (.var 7000) 0) (.i (.rd (.var 0) (.var 7000) 1) (.i (.rd (.var 0) (.ar .rem .i64 (.ar .add .i64 (.ar .add .i64 (.var 7000) (.lit 1)) (.len (.var 0))) (.len (.var 0))) 0) (.i (.rd (.var 0) (.ar .rem .i64 (.ar .add .i64 (.ar .add .i64 (.var 7000) (.lit 1)) (.len (.var 0))) (.len (.var 0))) 1) (.i (.rd (.var 0) (.var 14000) 0) (.i (.rd (.var 0) (.var 14000) 1) (.i (.rd (.var 0) (.ar .rem .i64 (.ar .add .i64 (.ar .add .i64 (.var 14000) (.lit 1)) (.len (.var 0))) (.len (.var 0))) 0) (.i (.rd (.var 0) (.ar .rem .i64 (.ar .add .i64 (.ar .add .i64 (.var 14000) (.lit 1)) (.len (.var 0))) (.len (.var 0))) 1) .nil)))))))))
 (.ret ((.v (.one (.z (.bool (.lit false))))), [], 17))
 (.next 1 ⟨[(0, (.ar .add .i64 (.var 14000) (.lit 1)))], [], []⟩)))))))))
 (.next 0 ⟨[(0, (.ar .add .i64 (.var 7000) (.lit 1)))], [], []⟩))))))))
 (.ret ((.v (.one (.z (.bool (.lit true))))), [], 17))))
-- end trSimple
set_option maxRecDepth 100000 in
theorem trSimple_is : T.norm 0 (call Tryz.prog ctPo (Lt.of []) 100 149 (symArgs 0 [pts]) [] 0) TT.ret = trSimple := by kernel_rfl
theorem trSimple_low : trSimple.low 1000 = true := by kernel_rfl
-- term trTwice: call Tryz.prog ctPo (Lt.of []) 100 150 (symArgs 0 [pts]) [] 0
def trTwice : TT OpR :=
(.loop 0 5000 ⟨[(0, (.lit 0)), (1, (.lit 0))], [], []⟩
 (.ite (.cmp .lss (.var 5000) (.len (.var 0)))
 (.ob (.tru (.cmp .leq (.lit 0) (.var 5000)))
 (.ob (.tru (.cmp .lss (.var 5000) (.len (.var 0))))
 (.ob (.tru (.cmp .neq (.len (.var 0)) (.lit 0)))
 (.ob (.tru (.cmp .leq (.lit 0) (.ar .rem .i64 (.ar .add .i64 (.ar .add .i64 (.var 5000) (.lit 1)) (.len (.var 0))) (.len (.var 0)))))
 (.ob (.tru (.cmp .lss (.ar .rem .i64 (.ar .add .i64 (.ar .add .i64 (.var 5000) (.lit 1)) (.len (.var 0))) (.len (.var 0))) (.len (.var 0))))
 (.next 0 ⟨[(0, (.ar .add .i64 (.var 5000) (.lit 1))), (1, (.ar .add .i64 (.var 5001) (.ar .sub .i64 (.ar .mul .i64 (.rd (.var 0) (.var 5000) 0) (.rd (.var 0) (.ar .rem .i64 (.ar .add .i64 (.ar .add .i64 (.var 5000) (.lit 1)) (.len (.var 0))) (.len (.var 0))) 1)) (.ar .mul .i64 (.rd (.var 0) (.var 5000) 1) (.rd (.var 0) (.ar .rem .i64 (.ar .add .i64 (.ar .add .i64 (.var 5000) (.lit 1)) (.len (.var 0))) (.len (.var 0))) 0)))))], [], []⟩))))))
 (.ret ((.v (.one (.z (.int .i64 (.var 5001))))), [], 8))))
-- end trTwice
set_option maxRecDepth 100000 in
theorem trTwice_is : T.norm 0 (call Tryz.prog ctPo (Lt.of []) 100 150 (symArgs 0 [pts]) [] 0) TT.ret = trTwice := by kernel_rfl
theorem trTwice_low : trTwice.low 1000 = true := by kernel_rfl
end Go.Proofs.YtbbjlleaofgddaaGreat
/- Chapter 38: what poly's twice, place answer. -/
namespace Go.Proofs.YtbbjlleaofgddaaGreat
open Go.RowKit
def nxt (n i : Nat) : Nat := if i + 1 = n then 0 else i + 1
theorem nxt_lt {n i : Nat} (h : i < n) : nxt n i < n := by unfold nxt; split <;> omega
theorem rem_next {n i : Nat} (h : i < n) (hn : n ≤ 281474976710656) : (IntKind.i64.wrap (IntKind.i64.wrap ((i : Int) + 1) + (n : Int))).tmod (n : Int) = (nxt n i : Int) := by
  rw [wrap_in ((i : Int) + 1) (by omega) (by omega), wrap_in _ (by omega) (by omega)]
  rw [Int.tmod_eq_emod_of_nonneg (by omega)]
  unfold nxt
  split
  · rename_i h1
    have : ((i : Int) + 1 + n) = n * 2 := by omega
    rw [this, Int.mul_emod_right]
    rfl
  · rw [Int.add_emod_right, Int.emod_eq_of_lt (by omega) (by omega)]
    rfl
def crossB (r : Rows) (qx qy : Int) (i : Nat) : Bool :=
  if lg r (nxt r.length i) 1 < lg r i 1 then decide (lg r (nxt r.length i) 1 ≤ qy ∧ qy < lg r i 1 ∧ 0 < turnR [.i (lg r (nxt r.length i) 0), .i (lg r (nxt r.length i) 1), .i (lg r i 0), .i (lg r i 1), .i qx, .i qy])
  else decide (lg r i 1 ≤ qy ∧ qy < lg r (nxt r.length i) 1 ∧ 0 < turnR [.i (lg r i 0), .i (lg r i 1), .i (lg r (nxt r.length i) 0), .i (lg r (nxt r.length i) 1), .i qx, .i qy])
def onE (r : Rows) (qx qy : Int) (i : Nat) : Bool := onR [.i qx, .i qy, .i (lg r i 0), .i (lg r i 1), .i (lg r (nxt r.length i) 0), .i (lg r (nxt r.length i) 1)]
def placeN (r : Rows) (qx qy : Int) : Nat → Nat → Bool → Int
  | 0, _, b => if b then 1 else -1
  | f + 1, i, b => if onE r qx qy i then 0 else placeN r qx qy f (i + 1) (b ^^ crossB r qx qy i)
section
variable (W : World) (ds l : List D)
theorem K8b3 : (envOf K8 W ds).fb 3 l = placeL l := by simp only [envOf, K8, K7, K6, K5, K]
theorem K8b61 : (envOf K8 W ds).fb 61 l = onR l := by simp only [envOf, K8]
theorem K8b62 : (envOf K8 W ds).fb 62 l = meetR l := by simp only [envOf, K8]
theorem K8i15 : (envOf K8 W ds).fi 15 l = turnR l := by simp only [envOf, K8, K7, K6, K5, K]
end
theorem pts_len {W : World} {vals : List Value} {ds : List D} {sh : List Sh} (h : repSh W (pts :: sh) vals ds) : (rAt ds 0).length ≤ 281474976710656 := by
  obtain ⟨v, vs', d, ds', rfl, rfl, ⟨d, rfl, h⟩, _⟩ := h
  rw [rep_sl] at h
  obtain ⟨r, rfl, a, n, c, _, hs, _⟩ := h
  have e1 := hs.len
  have e2 := hs.big
  show r.length ≤ _
  omega
def twiceN (r : Rows) : Nat → Nat → Int → Int
  | 0, _, n => n
  | f + 1, i, n => twiceN r f (i + 1) (IntKind.i64.wrap (n + IntKind.i64.wrap (IntKind.i64.wrap (lg r i 0 * lg r (nxt r.length i) 1) - IntKind.i64.wrap (lg r i 1 * lg r (nxt r.length i) 0))))
theorem gTwice : Gives Tryz.prog 150 [pts] (fun ds => .int .i64 (twiceN (rAt ds 0) (rAt ds 0).length 0 0)) := by
  refine GivesIf.all (fn_gives K8 (by kernel_rfl) (fun ρ h => ctPo_ok (Sees.of h 65)) (by kernel_rfl) trTwice_is trTwice_low (by decide) (fun W vals ds hr _ => ?_))
  have hlen := pts_len hr
  simp only [trTwice]
  refine TT.sat_loop (fun v => ∃ i : Nat, v.i 0 = i ∧ i ≤ (rAt ds 0).length ∧ twiceN (rAt ds 0) ((rAt ds 0).length - i) i (v.i 1) = twiceN (rAt ds 0) (rAt ds 0).length 0 0) (fun v => (rAt ds 0).length - (v.i 0).toNat)
    ⟨0, by simp [val_i, aget, E.ev], by omega, by simp [val_i, aget, E.ev]⟩ (fun v hv => ?_)
  obtain ⟨i, i0, i1, i2⟩ := hv
  simp only [TT.sat_ret, TT.sat_ite, TT.sat_ob, TT.sat_next, TT.sat_stuck, put_i, put_b, put_d, put_fi, put_fb, put_fd, Ob.ok, B.ev, E.ev, X.ev, AL.ev, cmp_t, cmp_f, arEv, V.plain, V2.plain, S.plain, S0.plain, V.val, V2.val, S.val, S0.val, bV, iV, List.all_cons, List.all_nil, Bool.and_true, Bool.and_self, envOf_i, envOf_b, envOf_d, List.map_cons, List.map_nil, true_and, Bool.not_eq_true', Bool.not_eq_false', Bool.not_not, Bool.and_eq_true, and_f, cell_lg, cell_lb, cell_lr, cmpP, val_i, val_b, val_d, aget, Nat.reduceBEq, beq_self_eq_true, Bool.false_eq_true, if_true, if_false, Nat.reduceLT, Nat.reduceSub, Nat.sub_self, Nat.lt_irrefl, i0]
  refine ⟨fun hc => ?_, fun hc => ?_⟩
  · have hi : i < (rAt ds 0).length := by omega
    have hn := nxt_lt hi
    obtain ⟨f, hf⟩ : ∃ f, (rAt ds 0).length - i = f + 1 := ⟨(rAt ds 0).length - i - 1, by omega⟩
    rw [rem_next hi hlen, wrap_in ((i : Int) + 1) (by omega) (by omega)]
    rw [hf, twiceN] at i2
    have hf' : (rAt ds 0).length - (i + 1) = f := by omega
    exact ⟨by omega, by omega, by omega, by omega, by omega, ⟨i + 1, rfl, by omega, by rw [hf']; exact i2⟩, by omega⟩
  · have : (rAt ds 0).length - i = 0 := by omega
    rw [this, twiceN] at i2
    rw [← i2]
end Go.Proofs.YtbbjlleaofgddaaGreat
/- Chapter 38: what poly's simple answers. -/
namespace Go.Proofs.YtbbjlleaofgddaaGreat
open Go.RowKit
def meetE2 (r : Rows) (i k : Nat) : Bool := meetR [.i (lg r i 0), .i (lg r i 1), .i (lg r (nxt r.length i) 0), .i (lg r (nxt r.length i) 1), .i (lg r k 0), .i (lg r k 1), .i (lg r (nxt r.length k) 0), .i (lg r (nxt r.length k) 1)]
def pairOk (r : Rows) (i k : Nat) : Bool := decide (k ≤ i + 1 ∨ (i = 0 ∧ k + 1 = r.length)) || !meetE2 r i k
def rowN (r : Rows) (i : Nat) : Nat → Nat → Bool
  | 0, _ => true
  | f + 1, k => pairOk r i k && rowN r i f (k + 1)
def simpleN (r : Rows) : Nat → Nat → Bool
  | 0, _ => true
  | f + 1, i => rowN r i r.length 0 && simpleN r f (i + 1)
theorem gSimple : Gives Tryz.prog 149 [pts] (fun ds => .bool (simpleN (rAt ds 0) (rAt ds 0).length 0)) := by
  refine GivesIf.all (fn_gives K8 (by kernel_rfl) (fun ρ h => ctPo_ok (Sees.of h 65)) (by kernel_rfl) trSimple_is trSimple_low (by decide) (fun W vals ds hr _ => ?_))
  have hlen := pts_len hr
  simp only [trSimple]
  refine TT.sat_loop (fun v => ∃ i : Nat, v.i 0 = i ∧ i ≤ (rAt ds 0).length ∧ simpleN (rAt ds 0) ((rAt ds 0).length - i) i = simpleN (rAt ds 0) (rAt ds 0).length 0) (fun v => (rAt ds 0).length - (v.i 0).toNat)
    ⟨0, by simp [val_i, aget, E.ev], by omega, rfl⟩ (fun v hv => ?_)
  obtain ⟨i, i0, i1, i2⟩ := hv
  simp only [TT.sat_ret, TT.sat_ite, TT.sat_ob, TT.sat_next, TT.sat_stuck, put_i, put_b, put_d, put_fi, put_fb, put_fd, Ob.ok, B.ev, E.ev, X.ev, AL.ev, cmp_t, cmp_f, arEv, V.plain, V2.plain, S.plain, S0.plain, V.val, V2.val, S.val, S0.val, bV, iV, List.all_cons, List.all_nil, Bool.and_true, Bool.and_self, envOf_i, envOf_b, envOf_d, List.map_cons, List.map_nil, true_and, Bool.not_eq_true', Bool.not_eq_false', Bool.not_not, Bool.and_eq_true, and_f, cell_lg, cell_lb, cell_lr, cmpP, val_i, val_b, val_d, aget, Nat.reduceBEq, beq_self_eq_true, Bool.false_eq_true, if_true, if_false, Nat.reduceLT, Nat.reduceSub, Nat.sub_self, Nat.lt_irrefl, i0]
  refine ⟨fun hc => ?_, fun hc => ?_⟩
  · have hi : i < (rAt ds 0).length := by omega
    have hn := nxt_lt hi
    obtain ⟨f, hf⟩ : ∃ f, (rAt ds 0).length - i = f + 1 := ⟨(rAt ds 0).length - i - 1, by omega⟩
    rw [rem_next hi hlen]
    rw [hf, simpleN] at i2
    have hf' : (rAt ds 0).length - (i + 1) = f := by omega
    refine ⟨by omega, by omega, by omega, by omega, by omega, ?_⟩
    refine TT.sat_loop (fun u => ∃ k : Nat, u.i 0 = k ∧ k ≤ (rAt ds 0).length ∧ (rowN (rAt ds 0) i ((rAt ds 0).length - k) k && simpleN (rAt ds 0) f (i + 1)) = simpleN (rAt ds 0) (rAt ds 0).length 0) (fun u => (rAt ds 0).length - (u.i 0).toNat)
      ⟨0, by simp [val_i, aget, E.ev], by omega, i2⟩ (fun u hu => ?_)
    obtain ⟨k, k0, k1, k2⟩ := hu
    simp only [TT.sat_ret, TT.sat_ite, TT.sat_ob, TT.sat_next, TT.sat_stuck, put_i, put_b, put_d, put_fi, put_fb, put_fd, Ob.ok, B.ev, E.ev, X.ev, AL.ev, cmp_t, cmp_f, arEv, V.plain, V2.plain, S.plain, S0.plain, V.val, V2.val, S.val, S0.val, bV, iV, List.all_cons, List.all_nil, Bool.and_true, Bool.and_self, envOf_i, envOf_b, envOf_d, List.map_cons, List.map_nil, true_and, Bool.not_eq_true', Bool.not_eq_false', Bool.not_not, Bool.and_eq_true, and_f, cell_lg, cell_lb, cell_lr, cmpP, val_i, val_b, val_d, aget, Nat.reduceBEq, beq_self_eq_true, Bool.false_eq_true, if_true, if_false, Nat.reduceLT, Nat.reduceSub, Nat.sub_self, Nat.lt_irrefl, i0, k0, K8b62]
    refine ⟨fun hk => ?_, fun hk => ?_⟩
    · have hkn : k < (rAt ds 0).length := by omega
      have hn' := nxt_lt hkn
      obtain ⟨g, hg⟩ : ∃ g, (rAt ds 0).length - k = g + 1 := ⟨(rAt ds 0).length - k - 1, by omega⟩
      rw [rem_next hkn hlen, rem_next hi hlen, wrap_in ((i : Int) + 1) (by omega) (by omega), wrap_in ((k : Int) + 1) (by omega) (by omega), wrap_in (((rAt ds 0).length : Int) - 1) (by omega) (by omega)]
      rw [hg, rowN] at k2
      have hg' : (rAt ds 0).length - (k + 1) = g := by omega
      have N : pairOk (rAt ds 0) i k = true → (∃ j : Nat, (k : Int) + 1 = j ∧ j ≤ (rAt ds 0).length ∧ (rowN (rAt ds 0) i ((rAt ds 0).length - j) j && simpleN (rAt ds 0) f (i + 1)) = simpleN (rAt ds 0) (rAt ds 0).length 0) ∧ (rAt ds 0).length - ((k : Int) + 1).toNat < (rAt ds 0).length - (k : Int).toNat :=
        fun h => ⟨⟨k + 1, rfl, by omega, by rw [hg', ← k2, h]; rfl⟩, by omega⟩
      have B : pairOk (rAt ds 0) i k = false → Value.bool false = Value.bool (simpleN (rAt ds 0) (rAt ds 0).length 0) := fun h => by rw [← k2, h]; rfl
      have P1 : (k ≤ i + 1 ∨ (i = 0 ∧ k + 1 = (rAt ds 0).length)) → pairOk (rAt ds 0) i k = true := fun h => by unfold pairOk; rw [decide_eq_true h]; rfl
      have P2 : ¬ (k ≤ i + 1 ∨ (i = 0 ∧ k + 1 = (rAt ds 0).length)) → pairOk (rAt ds 0) i k = !meetE2 (rAt ds 0) i k := fun h => by unfold pairOk; rw [decide_eq_false h]; rfl
      refine ⟨by omega, by omega, by omega, by omega, by omega, fun a => N (P1 (by omega)), fun a => ⟨fun b => ⟨fun c => N (P1 (by omega)), fun c => ⟨fun d => B ?_, fun d => N ?_⟩⟩, fun b => ⟨fun d => B ?_, fun d => N ?_⟩⟩⟩
      all_goals (rw [P2 (by omega)]; unfold meetE2; rw [d]; rfl)
    · rw [if_neg (by decide)]
      have : (rAt ds 0).length - k = 0 := by omega
      rw [this, rowN, Bool.true_and] at k2
      rw [wrap_in ((i : Int) + 1) (by omega) (by omega)]
      exact ⟨⟨i + 1, rfl, by omega, by rw [hf']; exact k2⟩, by omega⟩
  · have : (rAt ds 0).length - i = 0 := by omega
    rw [this, simpleN] at i2
    rw [← i2]
end Go.Proofs.YtbbjlleaofgddaaGreat
/- Chapter 38: contracts of poly's simple, twice, place. -/
namespace Go.Proofs.YtbbjlleaofgddaaGreat
open Go.RowKit
def simpleL (ds : List D) : Bool := simpleN (rAt ds 0) (rAt ds 0).length 0
def twiceL (ds : List D) : Int := twiceN (rAt ds 0) (rAt ds 0).length 0 0
def placeI (ds : List D) : Int := placeN (rAt ds 0) (iAt ds 1) (iAt ds 2) (rAt ds 0).length 0 false
def K9 : Interp where
  fi n l := match n with | 65 => twiceL l | 67 => placeI l | n => K8.fi n l
  fb n l := match n with | 66 => simpleL l | n => K8.fb n l
  fd _ _ := []
def cSimple := ctD [pts] fun al => .ret (bV (bF 66 simpleL al))
def cTwice := ctD [pts] fun al => .ret (iV .i64 (iF 65 twiceL al))
def cPlaceP := ctD [pts, pt] fun al => .ret (iV .i64 (iF 67 placeI al))
section
variable {ρ : Env} (h : Sees ρ K9 68)
include h
theorem cSimple_ok : CtOne Tryz.prog ρ 149 cSimple :=
  ctD_ok gSimple (fun _ => rfl) (fun al => by simp only [bV, V.s0, V.val, V2.val, S.val, S0.val, bF_ev (s := 66) (f := simpleL) (fun l => by rw [(h 66 l (by decide)).2]; simp only [K9])]; rfl)
theorem cTwice_ok : CtOne Tryz.prog ρ 150 cTwice :=
  ctD_ok gTwice (fun _ => rfl) (fun al => by simp only [iV, V.s0, V.val, V2.val, S.val, S0.val, iF_ev (s := 65) (f := twiceL) (fun l => by rw [(h 65 l (by decide)).1]; simp only [K9])]; rfl)
theorem K9_K8 : Sees ρ K8 65 := h.trans (by decide) fun n l hn => by
  constructor
  · simp only [K9]
    split <;> first | omega | rfl
  · simp only [K9]
    split <;> first | omega | rfl
end
end Go.Proofs.YtbbjlleaofgddaaGreat
/- Chapter 38: the tree of poly.order. -/
namespace Go.Proofs.YtbbjlleaofgddaaGreat
open Go.RowKit
def ct9 : Ct := (149, cSimple) :: (150, cTwice) :: ctPo
-- term trOrder: call Tryz.prog ctPo (Lt.of []) 100 146 (symArgs 0 [pt, pt]) [] 0
def trOrder : TT OpR :=
(.ite (.cmp .lss (.var 0) (.var 2))
 (.ite (.cmp .lss (.var 1) (.var 3))
 (.ret ((.v (.one (.z (.int .i64 (.lit (-1)))))), [], 3))
 (.ite (.cmp .gtr (.var 1) (.var 3))
 (.ret ((.v (.one (.z (.int .i64 (.lit (-1)))))), [], 3))
 (.ret ((.v (.one (.z (.int .i64 (.lit (-1)))))), [], 3))))
 (.ite (.cmp .gtr (.var 0) (.var 2))
 (.ite (.cmp .lss (.var 1) (.var 3))
 (.ret ((.v (.one (.z (.int .i64 (.lit 1))))), [], 3))
 (.ite (.cmp .gtr (.var 1) (.var 3))
 (.ret ((.v (.one (.z (.int .i64 (.lit 1))))), [], 3))
 (.ret ((.v (.one (.z (.int .i64 (.lit 1))))), [], 3))))
 (.ite (.cmp .lss (.var 1) (.var 3))
 (.ret ((.v (.one (.z (.int .i64 (.lit (-1)))))), [], 3))
 (.ite (.cmp .gtr (.var 1) (.var 3))
 (.ret ((.v (.one (.z (.int .i64 (.lit 1))))), [], 3))
 (.ret ((.v (.one (.z (.int .i64 (.lit 0))))), [], 3))))))
-- end trOrder
set_option maxRecDepth 100000 in
theorem trOrder_is : T.norm 0 (call Tryz.prog ctPo (Lt.of []) 100 146 (symArgs 0 [pt, pt]) [] 0) TT.ret = trOrder := by kernel_rfl
theorem trOrder_low : trOrder.low 1000 = true := by kernel_rfl
end Go.Proofs.YtbbjlleaofgddaaGreat
/- Chapter 38: poly.order. -/
namespace Go.Proofs.YtbbjlleaofgddaaGreat
open Go.RowKit
def orderI (ax ay bx by' : Int) : Int := if ax < bx then -1 else if bx < ax then 1 else if ay < by' then -1 else if by' < ay then 1 else 0
def orderL (ds : List D) : Int := orderI (iAt ds 0) (iAt ds 1) (iAt ds 2) (iAt ds 3)
theorem gOrder : Gives Tryz.prog 146 [pt, pt] (fun ds => .int .i64 (orderL ds)) := by
  refine GivesIf.all (fn_gives K8 (by kernel_rfl) (fun ρ h => ctPo_ok (Sees.of h 65)) (by kernel_rfl) trOrder_is trOrder_low (by decide) (fun W vals ds hr _ => ?_))
  simp only [trOrder, TT.sat_ret, TT.sat_ite, TT.sat_ob, TT.sat_next, TT.sat_stuck, put_i, put_b, put_d, put_fi, put_fb, put_fd, Ob.ok, B.ev, E.ev, X.ev, AL.ev, cmp_t, cmp_f, arEv, V.plain, V2.plain, S.plain, S0.plain, V.val, V2.val, S.val, S0.val, bV, iV, List.all_cons, List.all_nil, Bool.and_true, Bool.and_self, envOf_i, envOf_b, envOf_d, List.map_cons, List.map_nil, true_and, Bool.not_eq_true', Bool.not_eq_false', Bool.not_not, Bool.and_eq_true, and_f, cell_lg, cell_lb, cell_lr, cmpP, val_i, val_b, val_d, aget, Nat.reduceBEq, beq_self_eq_true, Bool.false_eq_true, if_true, if_false, Nat.reduceLT, Nat.reduceSub, Nat.sub_self, Nat.lt_irrefl]
  simp only [orderL, orderI]
  refine ⟨fun h => ⟨fun h' => ?_, fun h' => ⟨fun h'' => ?_, fun h'' => ?_⟩⟩, fun h => ⟨fun a => ⟨fun h' => ?_, fun h' => ⟨fun h'' => ?_, fun h'' => ?_⟩⟩, fun a => ⟨fun h' => ?_, fun h' => ⟨fun h'' => ?_, fun h'' => ?_⟩⟩⟩⟩
  all_goals (congr 1; (repeat' split) <;> omega)
def KA : Interp where
  fi n l := match n with | 68 => orderL l | n => K9.fi n l
  fb n l := K9.fb n l
  fd _ _ := []
def cOrder := ctD [pt, pt] fun al => .ret (iV .i64 (iF 68 orderL al))
section
variable {ρ : Env} (h : Sees ρ KA 69)
include h
theorem cOrder_ok : CtOne Tryz.prog ρ 146 cOrder :=
  ctD_ok gOrder (fun _ => rfl) (fun al => by simp only [iV, V.s0, V.val, V2.val, S.val, S0.val, iF_ev (s := 68) (f := orderL) (fun l => by rw [(h 68 l (by decide)).1]; simp only [KA])])
theorem KA_K9 : Sees ρ K9 68 := h.trans (by decide) fun n l hn => by
  constructor
  · simp only [KA]
    split <;> first | omega | rfl
  · rfl
end
def ctA : Ct := (146, cOrder) :: ct9
theorem ctA_ok {ρ : Env} (h : Sees ρ KA 69) : CtOk Tryz.prog ρ ctA := .cons (cOrder_ok h) <| .cons (cSimple_ok (KA_K9 h)) <| .cons (cTwice_ok (KA_K9 h)) <| (ctPo_ok (K9_K8 (KA_K9 h)))
end Go.Proofs.YtbbjlleaofgddaaGreat
/- Chapter 38: the trees of poly.Valid, poly.In. -/
namespace Go.Proofs.YtbbjlleaofgddaaGreat
open Go.RowKit
-- term trPoV: call Tryz.prog ctA (Lt.of []) 100 135 (symArgs 0 [pts]) [] 0
def trPoV : TT OpR :=
(.ite (.cmp .lss (.len (.var 0)) (.lit 3))
 (.ret ((.v (.one (.z (.bool (.lit false))))), [], 0))
 (.ite (.cmp .gtr (.len (.var 0)) (.lit 24))
 (.ret ((.v (.one (.z (.bool (.lit false))))), [], 0))
 (.loop 0 1000 ⟨[(0, (.lit 0))], [], []⟩
 (.ite (.cmp .lss (.var 1000) (.len (.var 0)))
 (.ob (.tru (.cmp .leq (.lit 0) (.var 1000)))
 (.ob (.tru (.cmp .lss (.var 1000) (.len (.var 0))))
 (.ite (.not (.fn 3 (.i (.rd (.var 0) (.var 1000) 0) (.i (.rd (.var 0) (.var 1000) 1) .nil))))
 (.ite (.cmp .geq (.var 1000) (.lit 0))
 (.ret ((.v (.one (.z (.bool (.lit false))))), [], 2))
 (.loop 1 3000 ⟨[(0, (.lit 0))], [], []⟩
 (.ite (.cmp .lss (.var 3000) (.len (.var 0)))
 (.ite (.cmp .gtr (.var 3000) (.lit 0))
 (.ob (.tru (.lit true))
 (.ob (.tru (.cmp .lss (.lit 0) (.len (.var 0))))
 (.ob (.tru (.cmp .leq (.lit 0) (.var 3000)))
 (.ob (.tru (.cmp .lss (.var 3000) (.len (.var 0))))
 (.ite (.cmp .geq (.fn 68 (.i (.rd (.var 0) (.lit 0) 0) (.i (.rd (.var 0) (.lit 0) 1) (.i (.rd (.var 0) (.var 3000) 0) (.i (.rd (.var 0) (.var 3000) 1) .nil))))) (.lit 0))
 (.ret ((.v (.one (.z (.bool (.lit false))))), [], 8))
 (.ob (.tru (.cmp .neq (.len (.var 0)) (.lit 0)))
 (.ob (.tru (.cmp .leq (.lit 0) (.ar .rem .i64 (.ar .add .i64 (.ar .sub .i64 (.var 3000) (.lit 1)) (.len (.var 0))) (.len (.var 0)))))
 (.ob (.tru (.cmp .lss (.ar .rem .i64 (.ar .add .i64 (.ar .sub .i64 (.var 3000) (.lit 1)) (.len (.var 0))) (.len (.var 0))) (.len (.var 0))))
 (.ob (.tru (.cmp .leq (.lit 0) (.var 3000)))
 (.ob (.tru (.cmp .lss (.var 3000) (.len (.var 0))))
 (.ob (.tru (.cmp .neq (.len (.var 0)) (.lit 0)))
 (.ob (.tru (.cmp .leq (.lit 0) (.ar .rem .i64 (.ar .add .i64 (.ar .add .i64 (.var 3000) (.lit 1)) (.len (.var 0))) (.len (.var 0)))))
 (.ob (.tru (.cmp .lss (.ar .rem .i64 (.ar .add .i64 (.ar .add .i64 (.var 3000) (.lit 1)) (.len (.var 0))) (.len (.var 0))) (.len (.var 0))))
 (.ite (.cmp .eql (.fn 15 (.i (.rd (.var 0) (.ar .rem .i64 (.ar .add .i64 (.ar .sub .i64 (.var 3000) (.lit 1)) (.len (.var 0))) (.len (.var 0))) 0) (.i (.rd (.var 0) (.ar .rem .i64 (.ar .add .i64 (.ar .sub .i64 (.var 3000) (.lit 1)) (.len (.var 0))) (.len (.var 0))) 1) (.i (.rd (.var 0) (.var 3000) 0) (.i (.rd (.var 0) (.var 3000) 1) (.i (.rd (.var 0) (.ar .rem .i64 (.ar .add .i64 (.ar .add .i64 (.var 3000) (.lit 1)) (.len (.var 0))) (.len (.var 0))) 0) (.i (.rd (.var 0) (.ar .rem .i64 (.ar .add .i64 (.ar .add .i64 (.var 3000) (.lit 1)) (.len (.var 0))) (.len (.var 0))) 1) .nil))))))) (.lit 0))
 (.ret ((.v (.one (.z (.bool (.lit false))))), [], 8))
 (.next 1 ⟨[(0, (.ar .add .i64 (.var 3000) (.lit 1)))], [], []⟩)))))))))))))))
 (.ob (.tru (.cmp .neq (.len (.var 0)) (.lit 0)))
 (.ob (.tru (.cmp .leq (.lit 0) (.ar .rem .i64 (.ar .add .i64 (.ar .sub .i64 (.var 3000) (.lit 1)) (.len (.var 0))) (.len (.var 0)))))
 (.ob (.tru (.cmp .lss (.ar .rem .i64 (.ar .add .i64 (.ar .sub .i64 (.var 3000) (.lit 1)) (.len (.var 0))) (.len (.var 0))) (.len (.var 0))))
 (.ob (.tru (.cmp .leq (.lit 0) (.var 3000)))
 (.ob (.tru (.cmp .lss (.var 3000) (.len (.var 0))))
 (.ob (.tru (.cmp .neq (.len (.var 0)) (.lit 0)))
 (.ob (.tru (.cmp .leq (.lit 0) (.ar .rem .i64 (.ar .add .i64 (.ar .add .i64 (.var 3000) (.lit 1)) (.len (.var 0))) (.len (.var 0)))))
 (.ob (.tru (.cmp .lss (.ar .rem .i64 (.ar .add .i64 (.ar .add .i64 (.var 3000) (.lit 1)) (.len (.var 0))) (.len (.var 0))) (.len (.var 0))))
 (.ite (.cmp .eql (.fn 15 (.i (.rd (.var 0) (.ar .rem .i64 (.ar .add .i64 (.ar .sub .i64 (.var 3000) (.lit 1)) (.len (.var 0))) (.len (.var 0))) 0) (.i (.rd (.var 0) (.ar .rem .i64 (.ar .add .i64 (.ar .sub .i64 (.var 3000) (.lit 1)) (.len (.var 0))) (.len (.var 0))) 1) (.i (.rd (.var 0) (.var 3000) 0) (.i (.rd (.var 0) (.var 3000) 1) (.i (.rd (.var 0) (.ar .rem .i64 (.ar .add .i64 (.ar .add .i64 (.var 3000) (.lit 1)) (.len (.var 0))) (.len (.var 0))) 0) (.i (.rd (.var 0) (.ar .rem .i64 (.ar .add .i64 (.ar .add .i64 (.var 3000) (.lit 1)) (.len (.var 0))) (.len (.var 0))) 1) .nil))))))) (.lit 0))
 (.ret ((.v (.one (.z (.bool (.lit false))))), [], 8))
 (.next 1 ⟨[(0, (.ar .add .i64 (.var 3000) (.lit 1)))], [], []⟩)))))))))))
 (.ite (.fn 66 (.x (.var 0) .nil))
 (.ret ((.v (.one (.z (.bool (.cmp .gtr (.fn 65 (.x (.var 0) .nil)) (.lit 0)))))), [], 8))
 (.ret ((.v (.one (.z (.bool (.lit false))))), [], 8))))))
 (.next 0 ⟨[(0, (.ar .add .i64 (.var 1000) (.lit 1)))], [], []⟩))))
 (.loop 1 3000 ⟨[(0, (.lit 0))], [], []⟩
 (.ite (.cmp .lss (.var 3000) (.len (.var 0)))
 (.ite (.cmp .gtr (.var 3000) (.lit 0))
 (.ob (.tru (.lit true))
 (.ob (.tru (.cmp .lss (.lit 0) (.len (.var 0))))
 (.ob (.tru (.cmp .leq (.lit 0) (.var 3000)))
 (.ob (.tru (.cmp .lss (.var 3000) (.len (.var 0))))
 (.ite (.cmp .geq (.fn 68 (.i (.rd (.var 0) (.lit 0) 0) (.i (.rd (.var 0) (.lit 0) 1) (.i (.rd (.var 0) (.var 3000) 0) (.i (.rd (.var 0) (.var 3000) 1) .nil))))) (.lit 0))
 (.ret ((.v (.one (.z (.bool (.lit false))))), [], 8))
 (.ob (.tru (.cmp .neq (.len (.var 0)) (.lit 0)))
 (.ob (.tru (.cmp .leq (.lit 0) (.ar .rem .i64 (.ar .add .i64 (.ar .sub .i64 (.var 3000) (.lit 1)) (.len (.var 0))) (.len (.var 0)))))
 (.ob (.tru (.cmp .lss (.ar .rem .i64 (.ar .add .i64 (.ar .sub .i64 (.var 3000) (.lit 1)) (.len (.var 0))) (.len (.var 0))) (.len (.var 0))))
 (.ob (.tru (.cmp .leq (.lit 0) (.var 3000)))
 (.ob (.tru (.cmp .lss (.var 3000) (.len (.var 0))))
 (.ob (.tru (.cmp .neq (.len (.var 0)) (.lit 0)))
 (.ob (.tru (.cmp .leq (.lit 0) (.ar .rem .i64 (.ar .add .i64 (.ar .add .i64 (.var 3000) (.lit 1)) (.len (.var 0))) (.len (.var 0)))))
 (.ob (.tru (.cmp .lss (.ar .rem .i64 (.ar .add .i64 (.ar .add .i64 (.var 3000) (.lit 1)) (.len (.var 0))) (.len (.var 0))) (.len (.var 0))))
 (.ite (.cmp .eql (.fn 15 (.i (.rd (.var 0) (.ar .rem .i64 (.ar .add .i64 (.ar .sub .i64 (.var 3000) (.lit 1)) (.len (.var 0))) (.len (.var 0))) 0) (.i (.rd (.var 0) (.ar .rem .i64 (.ar .add .i64 (.ar .sub .i64 (.var 3000) (.lit 1)) (.len (.var 0))) (.len (.var 0))) 1) (.i (.rd (.var 0) (.var 3000) 0) (.i (.rd (.var 0) (.var 3000) 1) (.i (.rd (.var 0) (.ar .rem .i64 (.ar .add .i64 (.ar .add .i64 (.var 3000) (.lit 1)) (.len (.var 0))) (.len (.var 0))) 0) (.i (.rd (.var 0) (.ar .rem .i64 (.ar .add .i64 (.ar .add .i64 (.var 3000) (.lit 1)) (.len (.var 0))) (.len (.var 0))) 1) .nil))))))) (.lit 0))
 (.ret ((.v (.one (.z (.bool (.lit false))))), [], 8))
 (.next 1 ⟨[(0, (.ar .add .i64 (.var 3000) (.lit 1)))], [], []⟩)))))))))))))))
 (.ob (.tru (.cmp .neq (.len (.var 0)) (.lit 0)))
 (.ob (.tru (.cmp .leq (.lit 0) (.ar .rem .i64 (.ar .add .i64 (.ar .sub .i64 (.var 3000) (.lit 1)) (.len (.var 0))) (.len (.var 0)))))
 (.ob (.tru (.cmp .lss (.ar .rem .i64 (.ar .add .i64 (.ar .sub .i64 (.var 3000) (.lit 1)) (.len (.var 0))) (.len (.var 0))) (.len (.var 0))))
 (.ob (.tru (.cmp .leq (.lit 0) (.var 3000)))
 (.ob (.tru (.cmp .lss (.var 3000) (.len (.var 0))))
 (.ob (.tru (.cmp .neq (.len (.var 0)) (.lit 0)))
 (.ob (.tru (.cmp .leq (.lit 0) (.ar .rem .i64 (.ar .add .i64 (.ar .add .i64 (.var 3000) (.lit 1)) (.len (.var 0))) (.len (.var 0)))))
 (.ob (.tru (.cmp .lss (.ar .rem .i64 (.ar .add .i64 (.ar .add .i64 (.var 3000) (.lit 1)) (.len (.var 0))) (.len (.var 0))) (.len (.var 0))))
 (.ite (.cmp .eql (.fn 15 (.i (.rd (.var 0) (.ar .rem .i64 (.ar .add .i64 (.ar .sub .i64 (.var 3000) (.lit 1)) (.len (.var 0))) (.len (.var 0))) 0) (.i (.rd (.var 0) (.ar .rem .i64 (.ar .add .i64 (.ar .sub .i64 (.var 3000) (.lit 1)) (.len (.var 0))) (.len (.var 0))) 1) (.i (.rd (.var 0) (.var 3000) 0) (.i (.rd (.var 0) (.var 3000) 1) (.i (.rd (.var 0) (.ar .rem .i64 (.ar .add .i64 (.ar .add .i64 (.var 3000) (.lit 1)) (.len (.var 0))) (.len (.var 0))) 0) (.i (.rd (.var 0) (.ar .rem .i64 (.ar .add .i64 (.ar .add .i64 (.var 3000) (.lit 1)) (.len (.var 0))) (.len (.var 0))) 1) .nil))))))) (.lit 0))
 (.ret ((.v (.one (.z (.bool (.lit false))))), [], 8))
 (.next 1 ⟨[(0, (.ar .add .i64 (.var 3000) (.lit 1)))], [], []⟩)))))))))))
 (.ite (.fn 66 (.x (.var 0) .nil))
 (.ret ((.v (.one (.z (.bool (.cmp .gtr (.fn 65 (.x (.var 0) .nil)) (.lit 0)))))), [], 8))
 (.ret ((.v (.one (.z (.bool (.lit false))))), [], 8)))))))))
-- end trPoV
set_option maxRecDepth 100000 in
theorem trPoV_is : T.norm 0 (call Tryz.prog ctA (Lt.of []) 100 135 (symArgs 0 [pts]) [] 0) TT.ret = trPoV := by kernel_rfl
theorem trPoV_low : trPoV.low 1000 = true := by kernel_rfl
end Go.Proofs.YtbbjlleaofgddaaGreat
/- Chapter 38: what poly.Valid answers. -/
namespace Go.Proofs.YtbbjlleaofgddaaGreat
open Go.RowKit
def prv (n i : Nat) : Nat := if i = 0 then n - 1 else i - 1
theorem prv_lt {n i : Nat} (h : i < n) : prv n i < n := by unfold prv; split <;> omega
theorem rem_prev {n i : Nat} (h : i < n) (hn : n ≤ 281474976710656) : (IntKind.i64.wrap (IntKind.i64.wrap ((i : Int) - 1) + (n : Int))).tmod (n : Int) = (prv n i : Int) := by
  rw [wrap_in ((i : Int) - 1) (by omega) (by omega), wrap_in _ (by omega) (by omega)]
  rw [Int.tmod_eq_emod_of_nonneg (by omega)]
  unfold prv
  split
  · rename_i h1
    rw [Int.emod_eq_of_lt (by omega) (by omega)]
    omega
  · rw [Int.add_emod_right, Int.emod_eq_of_lt (by omega) (by omega)]
    omega
def plN (r : Rows) : Nat → Nat → Bool
  | 0, _ => true
  | f + 1, i => placeB (lg r i 0) (lg r i 1) && plN r f (i + 1)
def cornOk (r : Rows) (i : Nat) : Bool :=
  !(decide (0 < i) && decide (0 ≤ orderI (lg r 0 0) (lg r 0 1) (lg r i 0) (lg r i 1))) &&
  !decide (turnR [.i (lg r (prv r.length i) 0), .i (lg r (prv r.length i) 1), .i (lg r i 0), .i (lg r i 1), .i (lg r (nxt r.length i) 0), .i (lg r (nxt r.length i) 1)] = 0)
def cornN (r : Rows) : Nat → Nat → Bool
  | 0, _ => true
  | f + 1, i => cornOk r i && cornN r f (i + 1)
def polyB (r : Rows) : Bool := decide (3 ≤ r.length ∧ r.length ≤ 24) && (plN r r.length 0 && (cornN r r.length 0 && (simpleN r r.length 0 && decide (0 < twiceN r r.length 0 0))))
def polyL (ds : List D) : Bool := polyB (rAt ds 0)
section
variable (W : World) (ds l : List D)
theorem KAb3 : (envOf KA W ds).fb 3 l = placeL l := by simp only [envOf, KA, K9, K8, K7, K6, K5, K]
theorem KAi15 : (envOf KA W ds).fi 15 l = turnR l := by simp only [envOf, KA, K9, K8, K7, K6, K5, K]
theorem KAi68 : (envOf KA W ds).fi 68 l = orderL l := by simp only [envOf, KA]
theorem KAb66 : (envOf KA W ds).fb 66 l = simpleL l := by simp only [envOf, KA, K9]
theorem KAi65 : (envOf KA W ds).fi 65 l = twiceL l := by simp only [envOf, KA, K9]
end
theorem order_four (a b c d : Int) : orderL [.i a, .i b, .i c, .i d] = orderI a b c d := rfl
theorem simple_one (r : Rows) : simpleL [.l r] = simpleN r r.length 0 := rfl
theorem twice_one (r : Rows) : twiceL [.l r] = twiceN r r.length 0 0 := rfl
theorem place_two (a b : Int) : placeL [.i a, .i b] = placeB a b := rfl
theorem gPoV : Gives Tryz.prog 135 [pts] (fun ds => .bool (polyL ds)) := by
  refine GivesIf.all (fn_gives KA (by kernel_rfl) (fun ρ h => ctA_ok (Sees.of h 69)) (by kernel_rfl) trPoV_is trPoV_low (by decide) (fun W vals ds hr _ => ?_))
  have hlen := pts_len hr
  simp only [trPoV, TT.sat_ret, TT.sat_ite, TT.sat_ob, TT.sat_next, TT.sat_stuck, put_i, put_b, put_d, put_fi, put_fb, put_fd, Ob.ok, B.ev, E.ev, X.ev, AL.ev, cmp_t, cmp_f, arEv, V.plain, V2.plain, S.plain, S0.plain, V.val, V2.val, S.val, S0.val, bV, iV, List.all_cons, List.all_nil, Bool.and_true, Bool.and_self, envOf_i, envOf_b, envOf_d, List.map_cons, List.map_nil, true_and, Bool.not_eq_true', Bool.not_eq_false', Bool.not_not, Bool.and_eq_true, and_f, cell_lg, cell_lb, cell_lr, cmpP, val_i, val_b, val_d, aget, Nat.reduceBEq, beq_self_eq_true, Bool.false_eq_true, if_true, if_false, Nat.reduceLT, Nat.reduceSub, Nat.sub_self, Nat.lt_irrefl]
  generalize hr0 : rAt ds 0 = r at hlen ⊢
  have hP : polyL ds = polyB r := by rw [polyL, hr0]
  rw [hP]
  refine ⟨fun h => ?_, fun h1 => ⟨fun h => ?_, fun h2 => ?_⟩⟩
  · rw [polyB, decide_eq_false (by omega)]; rfl
  · rw [polyB, decide_eq_false (by omega)]; rfl
  have hd : decide (3 ≤ r.length ∧ r.length ≤ 24) = true := decide_eq_true (by omega)
  refine TT.sat_loop (fun v => ∃ i : Nat, v.i 0 = i ∧ i ≤ r.length ∧ (plN r (r.length - i) i && (cornN r r.length 0 && (simpleN r r.length 0 && decide (0 < twiceN r r.length 0 0)))) = polyB r) (fun v => r.length - (v.i 0).toNat)
    ⟨0, by simp [val_i, aget, E.ev], by omega, by rw [polyB, hd]; rfl⟩ (fun v hv => ?_)
  obtain ⟨i, i0, i1, i2⟩ := hv
  simp only [TT.sat_ret, TT.sat_ite, TT.sat_ob, TT.sat_next, TT.sat_stuck, put_i, put_b, put_d, put_fi, put_fb, put_fd, Ob.ok, B.ev, E.ev, X.ev, AL.ev, cmp_t, cmp_f, arEv, V.plain, V2.plain, S.plain, S0.plain, V.val, V2.val, S.val, S0.val, bV, iV, List.all_cons, List.all_nil, Bool.and_true, Bool.and_self, envOf_i, envOf_b, envOf_d, List.map_cons, List.map_nil, true_and, Bool.not_eq_true', Bool.not_eq_false', Bool.not_not, Bool.and_eq_true, and_f, cell_lg, cell_lb, cell_lr, cmpP, val_i, val_b, val_d, aget, Nat.reduceBEq, beq_self_eq_true, Bool.false_eq_true, if_true, if_false, Nat.reduceLT, Nat.reduceSub, Nat.sub_self, Nat.lt_irrefl, i0, hr0, KAb3, KAi15, KAi68, KAb66, KAi65, order_four, place_two, simple_one, twice_one]
  refine ⟨fun hc => ?_, fun hc => ?_⟩
  · have hi : i < r.length := by omega
    obtain ⟨f, hf⟩ : ∃ f, r.length - i = f + 1 := ⟨r.length - i - 1, by omega⟩
    rw [hf, plN] at i2
    refine ⟨by omega, by omega, fun p => ⟨fun q => ?_, fun q => absurd (show (0 : Int) ≤ i by omega) q⟩, fun p => ⟨⟨i + 1, ?_, by omega, ?_⟩, ?_⟩⟩
    · rw [← i2, p]; rfl
    · rw [wrap_in _ (by omega) (by omega)]; rfl
    · rw [show r.length - (i + 1) = f by omega, ← i2, p]; rfl
    · rw [wrap_in _ (by omega) (by omega)]; omega
  · have : r.length - i = 0 := by omega
    rw [this, plN, Bool.true_and] at i2
    refine TT.sat_loop (fun v => ∃ j : Nat, v.i 0 = j ∧ j ≤ r.length ∧ (cornN r (r.length - j) j && (simpleN r r.length 0 && decide (0 < twiceN r r.length 0 0))) = polyB r) (fun v => r.length - (v.i 0).toNat)
      ⟨0, by simp [val_i, aget, E.ev], by omega, i2⟩ (fun u hu => ?_)
    obtain ⟨j, j0, j1, j2⟩ := hu
    simp only [TT.sat_ret, TT.sat_ite, TT.sat_ob, TT.sat_next, TT.sat_stuck, put_i, put_b, put_d, put_fi, put_fb, put_fd, Ob.ok, B.ev, E.ev, X.ev, AL.ev, cmp_t, cmp_f, arEv, V.plain, V2.plain, S.plain, S0.plain, V.val, V2.val, S.val, S0.val, bV, iV, List.all_cons, List.all_nil, Bool.and_true, Bool.and_self, envOf_i, envOf_b, envOf_d, List.map_cons, List.map_nil, true_and, Bool.not_eq_true', Bool.not_eq_false', Bool.not_not, Bool.and_eq_true, and_f, cell_lg, cell_lb, cell_lr, cmpP, val_i, val_b, val_d, aget, Nat.reduceBEq, beq_self_eq_true, Bool.false_eq_true, if_true, if_false, Nat.reduceLT, Nat.reduceSub, Nat.sub_self, Nat.lt_irrefl, j0, hr0, KAb3, KAi15, KAi68, KAb66, KAi65, order_four, place_two, simple_one, twice_one]
    refine ⟨fun hc => ?_, fun hc => ?_⟩
    · have hj : j < r.length := by omega
      have hn := nxt_lt hj
      have hp := prv_lt hj
      obtain ⟨f, hf⟩ : ∃ f, r.length - j = f + 1 := ⟨r.length - j - 1, by omega⟩
      rw [hf, cornN] at j2
      have M : r.length - (IntKind.i64.wrap ((j : Int) + 1)).toNat < r.length - (j : Int).toNat := by rw [wrap_in _ (by omega) (by omega)]; omega
      have N : cornOk r j = true → (∃ k : Nat, IntKind.i64.wrap ((j : Int) + 1) = k ∧ k ≤ r.length ∧ (cornN r (r.length - k) k && (simpleN r r.length 0 && decide (0 < twiceN r r.length 0 0))) = polyB r) :=
        fun h => ⟨j + 1, by rw [wrap_in _ (by omega) (by omega)]; rfl, by omega, by rw [show r.length - (j + 1) = f by omega, ← j2, h]; rfl⟩
      have F : cornOk r j = false → Value.bool false = Value.bool (polyB r) := fun h => by rw [← j2, h]; rfl
      simp only [rem_prev hj hlen, rem_next hj hlen]
      refine ⟨fun a => ⟨by omega, by omega, by omega, fun b => F ?_, fun b => ⟨by omega, by omega, by omega, by omega, by omega, by omega, by omega, by omega, fun c => F ?_, fun c => ⟨N ?_, M⟩⟩⟩, fun a => ⟨by omega, by omega, by omega, by omega, by omega, by omega, by omega, by omega, fun c => F ?_, fun c => ⟨N ?_, M⟩⟩⟩
      · rw [cornOk, decide_eq_true (p := 0 < j) (by omega), decide_eq_true b]; rfl
      · rw [cornOk, decide_eq_true c]; simp
      · rw [cornOk, decide_eq_false c, decide_eq_false b]; simp
      · rw [cornOk, decide_eq_true c]; simp
      · rw [cornOk, decide_eq_false c, decide_eq_false (p := 0 < j) (by omega)]; rfl
    · have : r.length - j = 0 := by omega
      rw [this, cornN, Bool.true_and] at j2
      refine ⟨fun h => ?_, fun h => ?_⟩
      · rw [← j2, h, Bool.true_and]
        congr 1
      · rw [← j2, h]; rfl
def KB : Interp where
  fi n l := KA.fi n l
  fb n l := match n with | 69 => polyL l | n => KA.fb n l
  fd _ _ := []
theorem KB_KA {ρ : Env} (h : Sees ρ KB 70) : Sees ρ KA 69 := h.trans (by decide) fun n l hn => by
  refine ⟨?_, ?_⟩
  ·
    rfl
  ·
    simp only [KB]
    split <;> first | omega | rfl
def cPoV := ctD [pts] fun al => .ret (bV (bF 69 polyL al))
theorem cPoV_ok {ρ : Env} (h : Sees ρ KB 70) : CtOne Tryz.prog ρ 135 cPoV :=
  ctD_ok gPoV (fun _ => rfl) (fun al => by simp only [iV, bV, V.s0, V.val, V2.val, S.val, S0.val, bF_ev (s := 69) (f := polyL) (fun l => by rw [(h 69 l (by decide)).2]; simp only [KB])]; try rfl)
def ctB : Ct := (135, cPoV) :: ctA
theorem ctB_ok {ρ : Env} (h : Sees ρ KB 70) : CtOk Tryz.prog ρ ctB := .cons (cPoV_ok h) (ctA_ok (KB_KA h))
end Go.Proofs.YtbbjlleaofgddaaGreat
