/- HF, merged: Vi, Vh. -/
import Derived.Test.YtldbejmgalhdaaaGreatMD
import Derived.Test.YtldbejmgalhdaaaGreatHA
import Derived.Test.YtldbejmgalhdaaaGreatHE
import Derived.Test.YtldbejmgalhdaaaGreatHB
import Derived.Test.YtldbejmgalhdaaaGreatHC
import Derived.Test.YtldbejmgalhdaaaGreatHD
set_option linter.unusedSimpArgs false
set_option linter.unusedVariables false
/- Chapter 09: contracts of survey's Valid and current. -/
namespace Go.Proofs.YtldbejmgalhdaaaGreat
open Go.RowKit
def curL (ds : List D) : Rows := curR (rAt ds 0)
def KVb : Interp where
  fi n l := KVa.fi n l
  fb n l := match n with | 150 => surL l | n => KVa.fb n l
  fd n l := match n with | 0 => curL l | n => KVa.fd n l
theorem KVb_KVa {ρ : Env} (h : Sees ρ KVb 160) : Sees ρ KVa 150 := h.trans (by decide) fun n l hn => by
  refine ⟨?_, ?_⟩
  ·
    rfl
  ·
    simp only [KVb]
    split <;> first | omega | rfl
def cSVal := ctD [suv] fun al => .ret (bV (bF 150 surL al))
theorem cSVal_ok {ρ : Env} (h : Sees ρ KVb 160) : CtOne Tryz.prog ρ 13 cSVal :=
  ctD_ok gSVal (fun _ => rfl) (fun al => by simp only [iV, bV, V.s0, V.val, V2.val, S.val, S0.val, bF_ev (s := 150) (f := surL) (fun l => by rw [(h 150 l (by decide)).2]; simp only [KVb])]; try rfl)
def obsCur (al : AL) : List Ob := match al with
  | .x s _ => [lenOk s]
  | _ => [.tru (.lit false)]
def cSCur := cNew1 [suv] nlCur obsCur
theorem cSCur_ok {ρ : Env} (h : SeesD ρ KVb 1) : CtOne Tryz.prog ρ 46 cSCur := by
  refine cNew1_ok gSCur (by decide) (fun al ho => ?_) (fun a => ?_)
  · unfold obsCur at ho
    split at ho
    · exact lenOk_spec (ho _ (List.mem_singleton.2 rfl))
    · have := ho _ (List.mem_singleton.2 rfl)
      simp [Ob.ok, B.ev] at this
  · show ρ.fd 0 a = curR (rAt a 0)
    rw [h 0 _ (by decide)]; simp only [KVb]; rfl
end Go.Proofs.YtldbejmgalhdaaaGreat
/- Chapter 09: what the head's calls answer at places that are spelt out. -/
namespace Go.Proofs.YtldbejmgalhdaaaGreat
open Go.RowKit
theorem fn_lit (I : Interp) {P : Program} {ct : Ct} {lt : Lt} (hmix : P.follows .mixedOrders = true) (hct : ∀ ρ, CtOk P ρ ct) (hce : ct.all (fun p => entersB P p.1) = true) {n : Nat} {f : FuncId} {args : List V} {tr : TT OpR} (he : T.norm 0 (call P ct lt n f args [] 0) TT.ret = tr)
    (hlow : tr.low 1000 = true) {vals : List Value} (ha : ∀ ρ : Env, DL (V.den ρ As.none) args vals) {g : Value} (hs : ∀ ρ : Env, tr.sat ρ (fun ρ q => q.1.plain = true ∧ q.1.val ρ = g) (fun _ _ => False)) (W : World) :
    Calls P f vals.toArray W (fun e W' => e = .returned g ∧ Below W.heap.size W W') := by
  obtain ⟨ρ', q, h1, ⟨h2, h3⟩, _, h5⟩ := exec_flat (lt := lt) hmix (fun ρ' _ => hct ρ') (ctEnter_of hce) he hlow (hs (envOf I W [])) (σ := As.none) (W := W) (vals := vals)
    (fun ρ' ha => ⟨fun id b h => by simp [Mem.get] at h, fun i j a h => absurd h (none_own _ _), fun i a h => absurd h (none_own _ _), fun i a h => absurd h (none_own _ _), by rw [← ha.w]; exact Below.refl _ _⟩) (fun k _ => none_has k) (fun ρ' _ => ha ρ')
  refine (callsIn_wide (n := 0)).1 ?_
  have h' : CallsIn Fence.wide 0 P f vals.toArray W (RetTo ρ' As.none W 0 q) := h5
  refine CallsIn.mono h' ?_
  rintro e W' ⟨u, σ', rfl, e1, e2, e3⟩
  refine ⟨by rw [V.den_val h2 e1, h3], ?_⟩
  exact ⟨e2.os, e2.tape, e2.output, e2.size, fun k hk => e2.frame k hk (fun i b _ e => none_own _ _ e)⟩
def i3 : List Sh := [.one (.int .i64), .one (.int .i64), .one (.int .i64)]
theorem i3_vals {W : World} {vals : List Value} {a b c : Int} (h : repSh W i3 vals [.i a, .i b, .i c]) : vals = [.int .i64 a, .int .i64 b, .int .i64 c] := by
  obtain ⟨v1, w1, d1, e1, rfl, h1, ⟨x1, rfl, n1, rfl, rfl⟩, v2, w2, d2, e2, rfl, h2, ⟨x2, rfl, n2, rfl, rfl⟩, v3, w3, d3, e3, rfl, h3, ⟨x3, rfl, n3, rfl, rfl⟩, rfl, rfl⟩ := h
  subst h3
  subst h2
  simp only [List.cons_append, List.nil_append, List.cons.injEq, D.i.injEq, and_true] at h1
  obtain ⟨rfl, rfl, rfl⟩ := h1
  rfl
def leB (a b c : Int) : Bool := decide (a = 1 ∧ b = 2 ∧ c = 10) || decide (a = 0 ∧ b = (-5) ∧ c = 25) || decide (a = 12 ∧ b = 1 ∧ c = 40) || decide (a = 30 ∧ b = 0 ∧ c = 100000)
def alB (a b c : Int) : Bool := decide (a = 0 ∧ b = (-5) ∧ c = 25) || decide (a = 0 ∧ b = (-5) ∧ c = 29) || decide (a = 0 ∧ b = (-5) ∧ c = 24) || decide (a = 9 ∧ b = 0 ∧ c = 25) || decide (a = 9 ∧ b = 0 ∧ c = 40) || decide (a = 30 ∧ b = 0 ∧ c = 0)
def alT (a b c : Int) : Bool := decide (a = 0 ∧ b = (-5) ∧ c = 25) || decide (a = 30 ∧ b = 0 ∧ c = 0)
def okLe (ds : List D) : Prop := ∃ a b c, ds = [.i a, .i b, .i c] ∧ leB a b c = true
def okAl (ds : List D) : Prop := ∃ a b c, ds = [.i a, .i b, .i c] ∧ alB a b c = true
def alG (ds : List D) : Bool := match ds with | [.i a, .i b, .i c] => alT a b c | _ => false
theorem gLeast : GivesIf Tryz.prog 39 i3 okLe (fun _ => .bool true) := by
  rintro W vals ds hr ⟨a, b, c, rfl, hk⟩
  obtain rfl := i3_vals hr
  simp only [leB, Bool.or_eq_true, decide_eq_true_eq] at hk
  rcases hk with ((⟨rfl, rfl, rfl⟩ | ⟨rfl, rfl, rfl⟩) | ⟨rfl, rfl, rfl⟩) | ⟨rfl, rfl, rfl⟩
  · exact fn_lit (vals := [.int .i64 1, .int .i64 2, .int .i64 10]) ⟨fun _ _ => 0, fun _ _ => false, fun _ _ => []⟩ (by kernel_rfl) (fun ρ => ctVi_ok) (by kernel_rfl) trLe1_is trLe1_low (fun ρ => ⟨rfl, rfl, rfl, trivial⟩) (fun ρ => by simp only [trLe1, TT.sat_ret, TT.sat_ite, TT.sat_ob, TT.sat_next, TT.sat_stuck, put_i, put_b, put_d, put_fi, put_fb, put_fd, Ob.ok, B.ev, E.ev, X.ev, AL.ev, cmp_t, cmp_f, arEv, V.plain, V2.plain, S.plain, S0.plain, V.val, V2.val, S.val, S0.val, bV, iV, List.all_cons, List.all_nil, Bool.and_true, Bool.and_self, envOf_i, envOf_b, envOf_d, List.map_cons, List.map_nil, true_and, Bool.not_eq_true', Bool.not_eq_false', Bool.not_not, Bool.and_eq_true, and_f, cell_lg, cell_lb, cell_lr, cmpP, val_i, val_b, val_d, aget, Nat.reduceBEq, beq_self_eq_true, Bool.false_eq_true, if_true, if_false, Nat.reduceLT, Nat.reduceSub, Nat.sub_self, Nat.lt_irrefl]) W
  · exact fn_lit (vals := [.int .i64 0, .int .i64 (-5), .int .i64 25]) ⟨fun _ _ => 0, fun _ _ => false, fun _ _ => []⟩ (by kernel_rfl) (fun ρ => ctVi_ok) (by kernel_rfl) trLe2_is trLe2_low (fun ρ => ⟨rfl, rfl, rfl, trivial⟩) (fun ρ => by simp only [trLe2, TT.sat_ret, TT.sat_ite, TT.sat_ob, TT.sat_next, TT.sat_stuck, put_i, put_b, put_d, put_fi, put_fb, put_fd, Ob.ok, B.ev, E.ev, X.ev, AL.ev, cmp_t, cmp_f, arEv, V.plain, V2.plain, S.plain, S0.plain, V.val, V2.val, S.val, S0.val, bV, iV, List.all_cons, List.all_nil, Bool.and_true, Bool.and_self, envOf_i, envOf_b, envOf_d, List.map_cons, List.map_nil, true_and, Bool.not_eq_true', Bool.not_eq_false', Bool.not_not, Bool.and_eq_true, and_f, cell_lg, cell_lb, cell_lr, cmpP, val_i, val_b, val_d, aget, Nat.reduceBEq, beq_self_eq_true, Bool.false_eq_true, if_true, if_false, Nat.reduceLT, Nat.reduceSub, Nat.sub_self, Nat.lt_irrefl]) W
  · exact fn_lit (vals := [.int .i64 12, .int .i64 1, .int .i64 40]) ⟨fun _ _ => 0, fun _ _ => false, fun _ _ => []⟩ (by kernel_rfl) (fun ρ => ctVi_ok) (by kernel_rfl) trLe3_is trLe3_low (fun ρ => ⟨rfl, rfl, rfl, trivial⟩) (fun ρ => by simp only [trLe3, TT.sat_ret, TT.sat_ite, TT.sat_ob, TT.sat_next, TT.sat_stuck, put_i, put_b, put_d, put_fi, put_fb, put_fd, Ob.ok, B.ev, E.ev, X.ev, AL.ev, cmp_t, cmp_f, arEv, V.plain, V2.plain, S.plain, S0.plain, V.val, V2.val, S.val, S0.val, bV, iV, List.all_cons, List.all_nil, Bool.and_true, Bool.and_self, envOf_i, envOf_b, envOf_d, List.map_cons, List.map_nil, true_and, Bool.not_eq_true', Bool.not_eq_false', Bool.not_not, Bool.and_eq_true, and_f, cell_lg, cell_lb, cell_lr, cmpP, val_i, val_b, val_d, aget, Nat.reduceBEq, beq_self_eq_true, Bool.false_eq_true, if_true, if_false, Nat.reduceLT, Nat.reduceSub, Nat.sub_self, Nat.lt_irrefl]) W
  · exact fn_lit (vals := [.int .i64 30, .int .i64 0, .int .i64 100000]) ⟨fun _ _ => 0, fun _ _ => false, fun _ _ => []⟩ (by kernel_rfl) (fun ρ => ctVi_ok) (by kernel_rfl) trLe4_is trLe4_low (fun ρ => ⟨rfl, rfl, rfl, trivial⟩) (fun ρ => by simp only [trLe4, TT.sat_ret, TT.sat_ite, TT.sat_ob, TT.sat_next, TT.sat_stuck, put_i, put_b, put_d, put_fi, put_fb, put_fd, Ob.ok, B.ev, E.ev, X.ev, AL.ev, cmp_t, cmp_f, arEv, V.plain, V2.plain, S.plain, S0.plain, V.val, V2.val, S.val, S0.val, bV, iV, List.all_cons, List.all_nil, Bool.and_true, Bool.and_self, envOf_i, envOf_b, envOf_d, List.map_cons, List.map_nil, true_and, Bool.not_eq_true', Bool.not_eq_false', Bool.not_not, Bool.and_eq_true, and_f, cell_lg, cell_lb, cell_lr, cmpP, val_i, val_b, val_d, aget, Nat.reduceBEq, beq_self_eq_true, Bool.false_eq_true, if_true, if_false, Nat.reduceLT, Nat.reduceSub, Nat.sub_self, Nat.lt_irrefl]) W
theorem gAllows9 : GivesIf Tryz.prog 40 i3 okAl (fun ds => .bool (alG ds)) := by
  rintro W vals ds hr ⟨a, b, c, rfl, hk⟩
  obtain rfl := i3_vals hr
  simp only [alB, Bool.or_eq_true, decide_eq_true_eq] at hk
  rcases hk with ((((⟨rfl, rfl, rfl⟩ | ⟨rfl, rfl, rfl⟩) | ⟨rfl, rfl, rfl⟩) | ⟨rfl, rfl, rfl⟩) | ⟨rfl, rfl, rfl⟩) | ⟨rfl, rfl, rfl⟩
  · exact fn_lit (vals := [.int .i64 0, .int .i64 (-5), .int .i64 25]) ⟨fun _ _ => 0, fun _ _ => false, fun _ _ => []⟩ (by kernel_rfl) (fun ρ => ctVi_ok) (by kernel_rfl) trAl1_is trAl1_low (fun ρ => ⟨rfl, rfl, rfl, trivial⟩) (fun ρ => by simp only [trAl1, TT.sat_ret, TT.sat_ite, TT.sat_ob, TT.sat_next, TT.sat_stuck, put_i, put_b, put_d, put_fi, put_fb, put_fd, Ob.ok, B.ev, E.ev, X.ev, AL.ev, cmp_t, cmp_f, arEv, V.plain, V2.plain, S.plain, S0.plain, V.val, V2.val, S.val, S0.val, bV, iV, List.all_cons, List.all_nil, Bool.and_true, Bool.and_self, envOf_i, envOf_b, envOf_d, List.map_cons, List.map_nil, true_and, Bool.not_eq_true', Bool.not_eq_false', Bool.not_not, Bool.and_eq_true, and_f, cell_lg, cell_lb, cell_lr, cmpP, val_i, val_b, val_d, aget, Nat.reduceBEq, beq_self_eq_true, Bool.false_eq_true, if_true, if_false, Nat.reduceLT, Nat.reduceSub, Nat.sub_self, Nat.lt_irrefl]; simp [alG, alT]) W
  · exact fn_lit (vals := [.int .i64 0, .int .i64 (-5), .int .i64 29]) ⟨fun _ _ => 0, fun _ _ => false, fun _ _ => []⟩ (by kernel_rfl) (fun ρ => ctVi_ok) (by kernel_rfl) trAl2_is trAl2_low (fun ρ => ⟨rfl, rfl, rfl, trivial⟩) (fun ρ => by simp only [trAl2, TT.sat_ret, TT.sat_ite, TT.sat_ob, TT.sat_next, TT.sat_stuck, put_i, put_b, put_d, put_fi, put_fb, put_fd, Ob.ok, B.ev, E.ev, X.ev, AL.ev, cmp_t, cmp_f, arEv, V.plain, V2.plain, S.plain, S0.plain, V.val, V2.val, S.val, S0.val, bV, iV, List.all_cons, List.all_nil, Bool.and_true, Bool.and_self, envOf_i, envOf_b, envOf_d, List.map_cons, List.map_nil, true_and, Bool.not_eq_true', Bool.not_eq_false', Bool.not_not, Bool.and_eq_true, and_f, cell_lg, cell_lb, cell_lr, cmpP, val_i, val_b, val_d, aget, Nat.reduceBEq, beq_self_eq_true, Bool.false_eq_true, if_true, if_false, Nat.reduceLT, Nat.reduceSub, Nat.sub_self, Nat.lt_irrefl]; simp [alG, alT]) W
  · exact fn_lit (vals := [.int .i64 0, .int .i64 (-5), .int .i64 24]) ⟨fun _ _ => 0, fun _ _ => false, fun _ _ => []⟩ (by kernel_rfl) (fun ρ => ctVi_ok) (by kernel_rfl) trAl3_is trAl3_low (fun ρ => ⟨rfl, rfl, rfl, trivial⟩) (fun ρ => by simp only [trAl3, TT.sat_ret, TT.sat_ite, TT.sat_ob, TT.sat_next, TT.sat_stuck, put_i, put_b, put_d, put_fi, put_fb, put_fd, Ob.ok, B.ev, E.ev, X.ev, AL.ev, cmp_t, cmp_f, arEv, V.plain, V2.plain, S.plain, S0.plain, V.val, V2.val, S.val, S0.val, bV, iV, List.all_cons, List.all_nil, Bool.and_true, Bool.and_self, envOf_i, envOf_b, envOf_d, List.map_cons, List.map_nil, true_and, Bool.not_eq_true', Bool.not_eq_false', Bool.not_not, Bool.and_eq_true, and_f, cell_lg, cell_lb, cell_lr, cmpP, val_i, val_b, val_d, aget, Nat.reduceBEq, beq_self_eq_true, Bool.false_eq_true, if_true, if_false, Nat.reduceLT, Nat.reduceSub, Nat.sub_self, Nat.lt_irrefl]; simp [alG, alT]) W
  · exact fn_lit (vals := [.int .i64 9, .int .i64 0, .int .i64 25]) ⟨fun _ _ => 0, fun _ _ => false, fun _ _ => []⟩ (by kernel_rfl) (fun ρ => ctVi_ok) (by kernel_rfl) trAl4_is trAl4_low (fun ρ => ⟨rfl, rfl, rfl, trivial⟩) (fun ρ => by simp only [trAl4, TT.sat_ret, TT.sat_ite, TT.sat_ob, TT.sat_next, TT.sat_stuck, put_i, put_b, put_d, put_fi, put_fb, put_fd, Ob.ok, B.ev, E.ev, X.ev, AL.ev, cmp_t, cmp_f, arEv, V.plain, V2.plain, S.plain, S0.plain, V.val, V2.val, S.val, S0.val, bV, iV, List.all_cons, List.all_nil, Bool.and_true, Bool.and_self, envOf_i, envOf_b, envOf_d, List.map_cons, List.map_nil, true_and, Bool.not_eq_true', Bool.not_eq_false', Bool.not_not, Bool.and_eq_true, and_f, cell_lg, cell_lb, cell_lr, cmpP, val_i, val_b, val_d, aget, Nat.reduceBEq, beq_self_eq_true, Bool.false_eq_true, if_true, if_false, Nat.reduceLT, Nat.reduceSub, Nat.sub_self, Nat.lt_irrefl]; simp [alG, alT]) W
  · exact fn_lit (vals := [.int .i64 9, .int .i64 0, .int .i64 40]) ⟨fun _ _ => 0, fun _ _ => false, fun _ _ => []⟩ (by kernel_rfl) (fun ρ => ctVi_ok) (by kernel_rfl) trAl5_is trAl5_low (fun ρ => ⟨rfl, rfl, rfl, trivial⟩) (fun ρ => by simp only [trAl5, TT.sat_ret, TT.sat_ite, TT.sat_ob, TT.sat_next, TT.sat_stuck, put_i, put_b, put_d, put_fi, put_fb, put_fd, Ob.ok, B.ev, E.ev, X.ev, AL.ev, cmp_t, cmp_f, arEv, V.plain, V2.plain, S.plain, S0.plain, V.val, V2.val, S.val, S0.val, bV, iV, List.all_cons, List.all_nil, Bool.and_true, Bool.and_self, envOf_i, envOf_b, envOf_d, List.map_cons, List.map_nil, true_and, Bool.not_eq_true', Bool.not_eq_false', Bool.not_not, Bool.and_eq_true, and_f, cell_lg, cell_lb, cell_lr, cmpP, val_i, val_b, val_d, aget, Nat.reduceBEq, beq_self_eq_true, Bool.false_eq_true, if_true, if_false, Nat.reduceLT, Nat.reduceSub, Nat.sub_self, Nat.lt_irrefl]; simp [alG, alT]) W
  · exact fn_lit (vals := [.int .i64 30, .int .i64 0, .int .i64 0]) ⟨fun _ _ => 0, fun _ _ => false, fun _ _ => []⟩ (by kernel_rfl) (fun ρ => ctVi_ok) (by kernel_rfl) trAl6_is trAl6_low (fun ρ => ⟨rfl, rfl, rfl, trivial⟩) (fun ρ => by simp only [trAl6, TT.sat_ret, TT.sat_ite, TT.sat_ob, TT.sat_next, TT.sat_stuck, put_i, put_b, put_d, put_fi, put_fb, put_fd, Ob.ok, B.ev, E.ev, X.ev, AL.ev, cmp_t, cmp_f, arEv, V.plain, V2.plain, S.plain, S0.plain, V.val, V2.val, S.val, S0.val, bV, iV, List.all_cons, List.all_nil, Bool.and_true, Bool.and_self, envOf_i, envOf_b, envOf_d, List.map_cons, List.map_nil, true_and, Bool.not_eq_true', Bool.not_eq_false', Bool.not_not, Bool.and_eq_true, and_f, cell_lg, cell_lb, cell_lr, cmpP, val_i, val_b, val_d, aget, Nat.reduceBEq, beq_self_eq_true, Bool.false_eq_true, if_true, if_false, Nat.reduceLT, Nat.reduceSub, Nat.sub_self, Nat.lt_irrefl]; simp [alG, alT]) W
def litO (ok : Int → Int → Int → Bool) (g : Int → Int → Int → Bool) (al : AL) : T V := match al with
  | .i (.lit a) (.i (.lit b) (.i (.lit c) .nil)) => if ok a b c then .ret (bV (.lit (g a b c))) else .stuck "spelt out"
  | _ => .stuck "spelt out"
def cLeast := ctD i3 (litO leB fun _ _ _ => true)
theorem cLeast_ok {ρ : Env} : CtOne Tryz.prog ρ 39 cLeast := by
  refine ctD_if gLeast (fun al v hv => ?_)
  unfold litO at hv
  split at hv
  · split at hv
    · rename_i a b c hk
      obtain rfl := res_ret hv
      exact ⟨rfl, ⟨a, b, c, rfl, hk⟩, rfl⟩
    · exact hv.elim
  · exact hv.elim
def cAllows9 := ctD i3 (litO alB alT)
theorem cAllows9_ok {ρ : Env} : CtOne Tryz.prog ρ 40 cAllows9 := by
  refine ctD_if gAllows9 (fun al v hv => ?_)
  unfold litO at hv
  split at hv
  · split at hv
    · rename_i a b c hk
      obtain rfl := res_ret hv
      exact ⟨rfl, ⟨a, b, c, rfl, hk⟩, rfl⟩
    · exact hv.elim
  · exact hv.elim
def ctVj : Ct := (39, cLeast) :: (40, cAllows9) :: (13, cSVal) :: (46, cSCur) :: (90, cInsSnd) :: (49, cInsFt) :: (48, cCloneFt) :: (77, cCloneSnd) :: ctE14
theorem ctVj_ok {ρ : Env} (h : Sees ρ KVb 160) (hd : SeesD ρ KVb 1) : CtOk Tryz.prog ρ ctVj := .cons cLeast_ok <| .cons cAllows9_ok <| .cons (cSVal_ok h) <| .cons (cSCur_ok hd) <| .cons cInsSnd_ok <| .cons cInsFt_ok <| .cons cCloneFt_ok <| .cons cCloneSnd_ok (ctE14_ok (KVa_K80 (KVb_KVa h)))
end Go.Proofs.YtldbejmgalhdaaaGreat
