/- MR, merged: TWg, Wk, TWh, Wl. -/
import Derived.Test.YtglepdhapakmbaaGreatMX
set_option linter.unusedSimpArgs false
set_option linter.unusedVariables false
/- Chapter 07: trees of the reference's Holds, Stands, Touch. -/
namespace Go.Proofs.YtglepdhapakmbaaGreat
open Go.RowKit
-- term trR7Ho: call Tryz.prog ctW6 (Lt.of []) 100 14 (symArgs 0 [feat, feat]) [] 0
def trR7Ho : TT OpR :=
(.ite (.not (.fn 76 (.i (.var 0) (.i (.var 1) (.i (.var 2) (.i (.var 3) (.i (.var 4) (.x (.var 5) (.i (.var 6) (.i (.var 7) (.x (.var 8) .nil)))))))))))
 (.ret ((.tup [(.one (.z (.bool (.lit false)))), (.one (.z (.int .i64 (.lit 1))))]), [], 2))
 (.ite (.not (.fn 76 (.i (.var 9) (.i (.var 10) (.i (.var 11) (.i (.var 12) (.i (.var 13) (.x (.var 14) (.i (.var 15) (.i (.var 16) (.x (.var 17) .nil)))))))))))
 (.ret ((.tup [(.one (.z (.bool (.lit false)))), (.one (.z (.int .i64 (.lit 1))))]), [], 2))
 (.ob (.tru (.fn 152 (.i (.var 0) (.i (.var 1) (.i (.var 2) (.i (.var 3) (.i (.var 4) (.x (.var 5) (.i (.var 6) (.i (.var 7) (.x (.var 8) (.i (.var 9) (.i (.var 10) (.i (.var 11) (.i (.var 12) (.i (.var 13) (.x (.var 14) (.i (.var 15) (.i (.var 16) (.x (.var 17) .nil))))))))))))))))))))
 (.ret ((.tup [(.one (.z (.bool (.fn 150 (.i (.var 0) (.i (.var 1) (.i (.var 2) (.i (.var 3) (.i (.var 4) (.x (.var 5) (.i (.var 6) (.i (.var 7) (.x (.var 8) (.i (.var 9) (.i (.var 10) (.i (.var 11) (.i (.var 12) (.i (.var 13) (.x (.var 14) (.i (.var 15) (.i (.var 16) (.x (.var 17) .nil)))))))))))))))))))))), (.one (.z (.int .i64 (.lit 0))))]), [], 2)))))
-- end trR7Ho
set_option maxRecDepth 100000 in
theorem trR7Ho_is : T.norm 0 (call Tryz.prog ctW6 (Lt.of []) 100 14 (symArgs 0 [feat, feat]) [] 0) TT.ret = trR7Ho := by kernel_rfl
theorem trR7Ho_low : trR7Ho.low 1000 = true := by kernel_rfl
-- term trR7St: call Tryz.prog ctW6 (Lt.of []) 100 16 (symArgs 0 [feat, feat]) [] 0
def trR7St : TT OpR :=
(.ite (.not (.fn 76 (.i (.var 0) (.i (.var 1) (.i (.var 2) (.i (.var 3) (.i (.var 4) (.x (.var 5) (.i (.var 6) (.i (.var 7) (.x (.var 8) .nil)))))))))))
 (.ret ((.tup [(.one (.z (.bool (.lit false)))), (.one (.z (.int .i64 (.lit 1))))]), [], 2))
 (.ite (.not (.fn 76 (.i (.var 9) (.i (.var 10) (.i (.var 11) (.i (.var 12) (.i (.var 13) (.x (.var 14) (.i (.var 15) (.i (.var 16) (.x (.var 17) .nil)))))))))))
 (.ret ((.tup [(.one (.z (.bool (.lit false)))), (.one (.z (.int .i64 (.lit 1))))]), [], 2))
 (.ite (.cmp .eql (.var 1) (.lit 4))
 (.ite (.cmp .eql (.var 10) (.lit 4))
 (.ite (.and (.cmp .eql (.var 11) (.var 2)) (.cmp .eql (.var 12) (.var 3)))
 (.ret ((.tup [(.one (.z (.bool (.not (.fn 117 (.x (.var 8) (.x (.var 17) .nil))))))), (.one (.z (.int .i64 (.lit 0))))]), [], 4))
 (.ret ((.tup [(.one (.z (.bool (.lit false)))), (.one (.z (.int .i64 (.lit 0))))]), [], 4)))
 (.ret ((.tup [(.one (.z (.bool (.lit false)))), (.one (.z (.int .i64 (.lit 0))))]), [], 4)))
 (.ob (.tru (.fn 152 (.i (.var 9) (.i (.var 10) (.i (.var 11) (.i (.var 12) (.i (.var 13) (.x (.var 14) (.i (.var 15) (.i (.var 16) (.x (.var 17) (.i (.var 0) (.i (.var 1) (.i (.var 2) (.i (.var 3) (.i (.var 4) (.x (.var 5) (.i (.var 6) (.i (.var 7) (.x (.var 8) .nil))))))))))))))))))))
 (.ite (.fn 150 (.i (.var 9) (.i (.var 10) (.i (.var 11) (.i (.var 12) (.i (.var 13) (.x (.var 14) (.i (.var 15) (.i (.var 16) (.x (.var 17) (.i (.var 0) (.i (.var 1) (.i (.var 2) (.i (.var 3) (.i (.var 4) (.x (.var 5) (.i (.var 6) (.i (.var 7) (.x (.var 8) .nil)))))))))))))))))))
 (.ret ((.tup [(.one (.z (.bool (.cmp .leq (.var 15) (.var 6))))), (.one (.z (.int .i64 (.lit 0))))]), [], 4))
 (.ret ((.tup [(.one (.z (.bool (.lit false)))), (.one (.z (.int .i64 (.lit 0))))]), [], 4)))))))
-- end trR7St
set_option maxRecDepth 100000 in
theorem trR7St_is : T.norm 0 (call Tryz.prog ctW6 (Lt.of []) 100 16 (symArgs 0 [feat, feat]) [] 0) TT.ret = trR7St := by kernel_rfl
theorem trR7St_low : trR7St.low 1000 = true := by kernel_rfl
-- term trR7To: call Tryz.prog ctW6 (Lt.of []) 100 18 (symArgs 0 [feat, feat]) [] 0
def trR7To : TT OpR :=
(.ite (.not (.fn 76 (.i (.var 0) (.i (.var 1) (.i (.var 2) (.i (.var 3) (.i (.var 4) (.x (.var 5) (.i (.var 6) (.i (.var 7) (.x (.var 8) .nil)))))))))))
 (.ret ((.tup [(.one (.z (.bool (.lit false)))), (.one (.z (.int .i64 (.lit 1))))]), [], 2))
 (.ite (.not (.fn 76 (.i (.var 9) (.i (.var 10) (.i (.var 11) (.i (.var 12) (.i (.var 13) (.x (.var 14) (.i (.var 15) (.i (.var 16) (.x (.var 17) .nil)))))))))))
 (.ret ((.tup [(.one (.z (.bool (.lit false)))), (.one (.z (.int .i64 (.lit 1))))]), [], 2))
 (.ob (.tru (.fn 152 (.i (.var 0) (.i (.var 1) (.i (.var 2) (.i (.var 3) (.i (.var 4) (.x (.var 5) (.i (.var 6) (.i (.var 7) (.x (.var 8) (.i (.var 9) (.i (.var 10) (.i (.var 11) (.i (.var 12) (.i (.var 13) (.x (.var 14) (.i (.var 15) (.i (.var 16) (.x (.var 17) .nil))))))))))))))))))))
 (.ret ((.tup [(.one (.z (.bool (.fn 151 (.i (.var 0) (.i (.var 1) (.i (.var 2) (.i (.var 3) (.i (.var 4) (.x (.var 5) (.i (.var 6) (.i (.var 7) (.x (.var 8) (.i (.var 9) (.i (.var 10) (.i (.var 11) (.i (.var 12) (.i (.var 13) (.x (.var 14) (.i (.var 15) (.i (.var 16) (.x (.var 17) .nil)))))))))))))))))))))), (.one (.z (.int .i64 (.lit 0))))]), [], 2)))))
-- end trR7To
set_option maxRecDepth 100000 in
theorem trR7To_is : T.norm 0 (call Tryz.prog ctW6 (Lt.of []) 100 18 (symArgs 0 [feat, feat]) [] 0) TT.ret = trR7To := by kernel_rfl
theorem trR7To_low : trR7To.low 1000 = true := by kernel_rfl
end Go.Proofs.YtglepdhapakmbaaGreat
/- Chapter 07: the reference's Holds, Stands, Touch; contracts at the symbols of package feature. -/
namespace Go.Proofs.YtglepdhapakmbaaGreat
open Go.RowKit
theorem KWfb76 (W : World) (ds l : List D) : (envOf KWf W ds).fb 76 l = featL l := by simp only [envOf, KWf, KWe, KWd, KWc, KWb, KWa, KX, KW, KV, KU, KT, KR, KG, KF]
theorem KWfb150 (W : World) (ds l : List D) : (envOf KWf W ds).fb 150 l = holdXL l := by simp only [envOf, KWf]
theorem KWfb151 (W : World) (ds l : List D) : (envOf KWf W ds).fb 151 l = touchXL l := by simp only [envOf, KWf]
theorem KWfb152 (W : World) (ds l : List D) : (envOf KWf W ds).fb 152 l = two9 l := by simp only [envOf, KWf]
theorem KWfb117 (W : World) (ds l : List D) : (envOf KWf W ds).fb 117 l = saR l := by simp only [envOf, KWf, KWe, KWd, KWc, KWb]
theorem hold_18 (a b c d e : Int) (r : Rows) (f g : Int) (s : Rows) (a' b' c' d' e' : Int) (r' : Rows) (f' g' : Int) (s' : Rows) : holdXL [.i a, .i b, .i c, .i d, .i e, .l r, .i f, .i g, .l s, .i a', .i b', .i c', .i d', .i e', .l r', .i f', .i g', .l s'] = holdX b c d e r b' c' d' e' r' := rfl
theorem touch_18 (a b c d e : Int) (r : Rows) (f g : Int) (s : Rows) (a' b' c' d' e' : Int) (r' : Rows) (f' g' : Int) (s' : Rows) : touchXL [.i a, .i b, .i c, .i d, .i e, .l r, .i f, .i g, .l s, .i a', .i b', .i c', .i d', .i e', .l r', .i f', .i g', .l s'] = touchX b c d e r b' c' d' e' r' := rfl
theorem two_18 (a b c d e : Int) (r : Rows) (f g : Int) (s : Rows) (a' b' c' d' e' : Int) (r' : Rows) (f' g' : Int) (s' : Rows) : two9 [.i a, .i b, .i c, .i d, .i e, .l r, .i f, .i g, .l s, .i a', .i b', .i c', .i d', .i e', .l r', .i f', .i g', .l s'] = (featB a b c d e r f g s && featB a' b' c' d' e' r' f' g' s') := rfl
theorem gR7Ho : Gives Tryz.prog 14 [feat, feat] (fun ds => .tuple #[.bool (feHoR ds), .int .i64 (feE ds)]) := by
  refine GivesIf.all (fn_gives KWf (by kernel_rfl) (fun ρ h => ctW6_ok (Sees.of h 160)) (by kernel_rfl) trR7Ho_is trR7Ho_low (by decide) (fun W vals ds hr _ => ?_))
  simp only [trR7Ho, TT.sat_ret, TT.sat_ite, TT.sat_ob, TT.sat_next, TT.sat_stuck, put_i, put_b, put_d, put_fi, put_fb, put_fd, Ob.ok, B.ev, E.ev, X.ev, AL.ev, cmp_t, cmp_f, arEv, V.plain, V2.plain, S.plain, S0.plain, V.val, V2.val, S.val, S0.val, bV, iV, List.all_cons, List.all_nil, Bool.and_true, Bool.and_self, envOf_i, envOf_b, envOf_d, List.map_cons, List.map_nil, true_and, Bool.not_eq_true', Bool.not_eq_false', Bool.not_not, Bool.and_eq_true, and_f, cell_lg, cell_lb, cell_lr, cmpP, val_i, val_b, val_d, aget, Nat.reduceBEq, beq_self_eq_true, Bool.false_eq_true, if_true, if_false, Nat.reduceLT, Nat.reduceSub, Nat.sub_self, Nat.lt_irrefl, KWfb76, KWfb150, KWfb152, feat_nine, hold_18, two_18]
  refine ⟨fun h => ?_, fun h1 => ⟨fun h => ?_, fun h2 => ⟨by rw [h1, h2]; exact ⟨rfl, rfl⟩, ?_⟩⟩⟩
  · simp [feHoR, feE, two9, h]
  · simp [feHoR, feE, two9, h]
  · simp [feHoR, feE, two9, h1, h2]
theorem gR7To : Gives Tryz.prog 18 [feat, feat] (fun ds => .tuple #[.bool (feToR ds), .int .i64 (feE ds)]) := by
  refine GivesIf.all (fn_gives KWf (by kernel_rfl) (fun ρ h => ctW6_ok (Sees.of h 160)) (by kernel_rfl) trR7To_is trR7To_low (by decide) (fun W vals ds hr _ => ?_))
  simp only [trR7To, TT.sat_ret, TT.sat_ite, TT.sat_ob, TT.sat_next, TT.sat_stuck, put_i, put_b, put_d, put_fi, put_fb, put_fd, Ob.ok, B.ev, E.ev, X.ev, AL.ev, cmp_t, cmp_f, arEv, V.plain, V2.plain, S.plain, S0.plain, V.val, V2.val, S.val, S0.val, bV, iV, List.all_cons, List.all_nil, Bool.and_true, Bool.and_self, envOf_i, envOf_b, envOf_d, List.map_cons, List.map_nil, true_and, Bool.not_eq_true', Bool.not_eq_false', Bool.not_not, Bool.and_eq_true, and_f, cell_lg, cell_lb, cell_lr, cmpP, val_i, val_b, val_d, aget, Nat.reduceBEq, beq_self_eq_true, Bool.false_eq_true, if_true, if_false, Nat.reduceLT, Nat.reduceSub, Nat.sub_self, Nat.lt_irrefl, KWfb76, KWfb151, KWfb152, feat_nine, touch_18, two_18]
  refine ⟨fun h => ?_, fun h1 => ⟨fun h => ?_, fun h2 => ⟨by rw [h1, h2]; exact ⟨rfl, rfl⟩, ?_⟩⟩⟩
  · simp [feToR, feE, two9, h]
  · simp [feToR, feE, two9, h]
  · simp [feToR, feE, two9, h1, h2]
set_option maxHeartbeats 1000000 in
theorem gR7St : Gives Tryz.prog 16 [feat, feat] (fun ds => .tuple #[.bool (feStR ds), .int .i64 (feE ds)]) := by
  refine GivesIf.all (fn_gives KWf (by kernel_rfl) (fun ρ h => ctW6_ok (Sees.of h 160)) (by kernel_rfl) trR7St_is trR7St_low (by decide) (fun W vals ds hr _ => ?_))
  simp only [trR7St, TT.sat_ret, TT.sat_ite, TT.sat_ob, TT.sat_next, TT.sat_stuck, put_i, put_b, put_d, put_fi, put_fb, put_fd, Ob.ok, B.ev, E.ev, X.ev, AL.ev, cmp_t, cmp_f, arEv, V.plain, V2.plain, S.plain, S0.plain, V.val, V2.val, S.val, S0.val, bV, iV, List.all_cons, List.all_nil, Bool.and_true, Bool.and_self, envOf_i, envOf_b, envOf_d, List.map_cons, List.map_nil, true_and, Bool.not_eq_true', Bool.not_eq_false', Bool.not_not, Bool.and_eq_true, and_f, cell_lg, cell_lb, cell_lr, cmpP, val_i, val_b, val_d, aget, Nat.reduceBEq, beq_self_eq_true, Bool.false_eq_true, if_true, if_false, Nat.reduceLT, Nat.reduceSub, Nat.sub_self, Nat.lt_irrefl, KWfb76, KWfb150, KWfb152, KWfb117, feat_nine, hold_18, two_18]
  refine ⟨fun h => by simp [feStR, feE, two9, h], fun h1 => ⟨fun h => by simp [feStR, feE, two9, h], fun h2 => ?_⟩⟩
  have hE : feE ds = 0 := by simp [feE, two9, h1, h2]
  have hR : feStR ds = standX (iAt ds 1) (iAt ds 2) (iAt ds 3) (iAt ds 4) (rAt ds 5) (iAt ds 6) (rAt ds 8) (iAt ds 10) (iAt ds 11) (iAt ds 12) (iAt ds 13) (rAt ds 14) (iAt ds 15) (rAt ds 17) := by simp [feStR, two9, h1, h2]
  rw [hE, hR]
  have S1 := feat_secs h1
  have S2 := feat_secs h2
  have V : ∀ {a b : Bool}, a = b → Value.tuple #[.bool a, .int .i64 0] = Value.tuple #[.bool b, .int .i64 0] := fun h => by rw [h]
  unfold standX
  refine ⟨fun e1 => ⟨fun e2 => ⟨fun e3 => ?_, fun e3 => ?_⟩, fun e2 => ?_⟩, fun n1 => ⟨by rw [h1, h2]; exact ⟨rfl, rfl⟩, fun g => ?_, fun g => ?_⟩⟩
  · rw [if_neg (fun q => q e1), decide_eq_true ⟨e2, e3⟩, (sa_two (S1 e1) (S2 e2)).1]; rfl
  · rw [if_neg (fun q => q e1), decide_eq_false (fun q => e3 q.2)]; rfl
  · rw [if_neg (fun q => q e1), decide_eq_false (fun q => e2 q.1)]; rfl
  · rw [if_pos n1, g, Bool.and_true]; rfl
  · rw [if_pos n1, g, Bool.and_false]
theorem gFeList7 : Gives Tryz.prog 7 [feats] (fun ds => .bool (listL ds)) := by
  refine GivesIf.all (fn_gives K79 (by kernel_rfl) (fun ρ h => ctE11_ok (Sees.of h 132)) (by kernel_rfl) trList_is trList_low (by decide) (fun W vals ds hr _ => ?_))
  have hlen := feats_len hr
  simp only [trList]
  have hO : listL ds = listB (rAt ds 0) := rfl
  rw [hO]
  clear hr
  generalize e0 : rAt ds 0 = r at *
  refine TT.sat_loop (fun v => ∃ i : Nat, v.i 1 = i ∧ i ≤ r.length ∧ (lisN r (r.length - i) i (v.i 0) && decide (r.length ≤ 300)) = listB r) (fun v => r.length - (v.i 1).toNat)
    ⟨0, by simp [val_i, aget, E.ev], by omega, rfl⟩ (fun v hv => ?_)
  obtain ⟨i, i0, i1, i2⟩ := hv
  simp only [TT.sat_ret, TT.sat_ite, TT.sat_ob, TT.sat_next, TT.sat_stuck, put_i, put_b, put_d, put_fi, put_fb, put_fd, Ob.ok, B.ev, E.ev, X.ev, AL.ev, cmp_t, cmp_f, arEv, V.plain, V2.plain, S.plain, S0.plain, V.val, V2.val, S.val, S0.val, bV, iV, List.all_cons, List.all_nil, Bool.and_true, Bool.and_self, envOf_i, envOf_b, envOf_d, List.map_cons, List.map_nil, true_and, Bool.not_eq_true', Bool.not_eq_false', Bool.not_not, Bool.and_eq_true, and_f, cell_lg, cell_lb, cell_lr, cmpP, val_i, val_b, val_d, aget, Nat.reduceBEq, beq_self_eq_true, Bool.false_eq_true, if_true, if_false, Nat.reduceLT, Nat.reduceSub, Nat.sub_self, Nat.lt_irrefl, i0, e0, K79b76, feat_nine, featRow_eq]
  refine ⟨fun hc => ?_, fun hc => ?_⟩
  · have hi : i < r.length := by omega
    obtain ⟨f, hf⟩ : ∃ f, r.length - i = f + 1 := ⟨r.length - i - 1, by omega⟩
    have hf' : r.length - (i + 1) = f := by omega
    rw [hf, lisN] at i2
    rw [wrap_in ((i : Int) + 1) (by omega) (by omega)]
    refine ⟨by omega, by omega, fun h => ?_, fun h => ⟨fun g => ?_, fun g => ⟨⟨i + 1, rfl, by omega, ?_⟩, by omega⟩⟩⟩
    · rw [← i2, h]; rfl
    · rw [← i2, h, decide_eq_false (by omega)]; rfl
    · rw [hf', ← i2, h, decide_eq_true (p := v.i 0 < lg r i 0) (by omega)]; rfl
  · have h0 : r.length - i = 0 := by omega
    rw [h0, lisN, Bool.true_and] at i2
    rw [← i2]
    refine congrArg Value.bool ?_
    rw [Bool.eq_iff_iff]
    simp only [cmp_t, cmpP, decide_eq_true_eq]
    omega
def K82 : Interp where
  fi n l := K80.fi n l
  fb n l := match n with | 134 => listL l | n => K80.fb n l
  fd _ _ := []
theorem K82_K80 {ρ : Env} (h : Sees ρ K82 136) : Sees ρ K80 134 := h.trans (by decide) fun n l hn => by
  refine ⟨?_, ?_⟩
  ·
    rfl
  ·
    simp only [K82]
    split <;> first | omega | rfl
def cFeList := ctD [feats] fun al => .ret (bV (bF 134 listL al))
theorem cFeList_ok {ρ : Env} (h : Sees ρ K82 136) : CtOne Tryz.prog ρ 7 cFeList :=
  ctD_ok gFeList7 (fun _ => rfl) (fun al => by simp only [iV, bV, V.s0, V.val, V2.val, S.val, S0.val, bF_ev (s := 134) (f := listL) (fun l => by rw [(h 134 l (by decide)).2]; simp only [K82])]; try rfl)
def cR7List := ctD [feats] fun al => .ret (bV (bF 134 listL al))
theorem cR7List_ok {ρ : Env} (h : Sees ρ K82 136) : CtOne Tryz.prog ρ 8 cR7List :=
  ctD_ok gR7Li (fun _ => rfl) (fun al => by simp only [iV, bV, V.s0, V.val, V2.val, S.val, S0.val, bF_ev (s := 134) (f := listL) (fun l => by rw [(h 134 l (by decide)).2]; simp only [K82])]; try rfl)
theorem K82_K79 {ρ : Env} (h : Sees ρ K82 136) : Sees ρ K79 132 := K80_K79 (K82_K80 h)
theorem K82_KG {ρ : Env} (h : Sees ρ K82 136) : Sees ρ KG 80 := KH_KG (KI_KH (K71_KI (K72_K71 (K73_K72 (K74_K73 (K75_K74 (K76_K75 (K77_K76 (K78_K77 (K79_K78 (K82_K79 h)))))))))))
def cR7Stands := ctD [feat, feat] fun al => .ret (.tup [.one (sBF 128 feStR al), .one (sIF 119 feE al)])
theorem cR7Stands_ok {ρ : Env} (h : Sees ρ K79 132) : CtOne Tryz.prog ρ 16 cR7Stands :=
  ctD_ok gR7St (fun _ => rfl) (fun al => by simp only [V.val, V2.val, S.val, S0.val, sIF, sBF, List.map_cons, List.map_nil, bF_ev (s := 128) (f := feStR) (fun l => by rw [(h 128 l (by decide)).2]; simp only [K79]), iF_ev (s := 119) (f := feE) (fun l => by rw [(h 119 l (by decide)).1]; simp only [K79, K78, K77, K76])]; try rfl)
def cR7Same := ctD [feat, feat] fun al => .ret (bV (bF 129 sameL al))
theorem cR7Same_ok {ρ : Env} (h : Sees ρ K79 132) : CtOne Tryz.prog ρ 10 cR7Same :=
  ctD_ok gR7Sm (fun _ => rfl) (fun al => by simp only [iV, bV, V.s0, V.val, V2.val, S.val, S0.val, bF_ev (s := 129) (f := sameL) (fun l => by rw [(h 129 l (by decide)).2]; simp only [K79])]; try rfl)
def cR7Holds := ctD [feat, feat] fun al => .ret (.tup [.one (sBF 119 feHoR al), .one (sIF 119 feE al)])
theorem cR7Holds_ok {ρ : Env} (h : Sees ρ K76 122) : CtOne Tryz.prog ρ 14 cR7Holds :=
  ctD_ok gR7Ho (fun _ => rfl) (fun al => by simp only [V.val, V2.val, S.val, S0.val, sIF, sBF, List.map_cons, List.map_nil, bF_ev (s := 119) (f := feHoR) (fun l => by rw [(h 119 l (by decide)).2]; simp only [K76]), iF_ev (s := 119) (f := feE) (fun l => by rw [(h 119 l (by decide)).1]; simp only [K76])]; try rfl)
def cR7Touch := ctD [feat, feat] fun al => .ret (.tup [.one (sBF 120 feToR al), .one (sIF 119 feE al)])
theorem cR7Touch_ok {ρ : Env} (h : Sees ρ K76 122) : CtOne Tryz.prog ρ 18 cR7Touch :=
  ctD_ok gR7To (fun _ => rfl) (fun al => by simp only [V.val, V2.val, S.val, S0.val, sIF, sBF, List.map_cons, List.map_nil, bF_ev (s := 120) (f := feToR) (fun l => by rw [(h 120 l (by decide)).2]; simp only [K76]), iF_ev (s := 119) (f := feE) (fun l => by rw [(h 119 l (by decide)).1]; simp only [K76])]; try rfl)
def cR7Shown := ctD [feats, pt] fun al => .ret (.tup [.one (sIF 132 shownR al), .one (sIF 133 shownE al)])
theorem cR7Shown_ok {ρ : Env} (h : Sees ρ K80 134) : CtOne Tryz.prog ρ 20 cR7Shown :=
  ctD_ok gR7Sh (fun _ => rfl) (fun al => by simp only [V.val, V2.val, S.val, S0.val, sIF, sBF, List.map_cons, List.map_nil, iF_ev (s := 132) (f := shownR) (fun l => by rw [(h 132 l (by decide)).1]; simp only [K80]), iF_ev (s := 133) (f := shownE) (fun l => by rw [(h 133 l (by decide)).1]; simp only [K80])]; try rfl)
def cR7Covers := ctD [feat, pt] fun al => .ret (.tup [.one (sBF 78 covR al), .one (sIF 78 covE al)])
theorem cR7Covers_ok {ρ : Env} (h : Sees ρ KG 80) : CtOne Tryz.prog ρ 12 cR7Covers :=
  ctD_ok gR7Co (fun _ => rfl) (fun al => by simp only [V.val, V2.val, S.val, S0.val, sIF, sBF, List.map_cons, List.map_nil, bF_ev (s := 78) (f := covR) (fun l => by rw [(h 78 l (by decide)).2]; simp only [KG]), iF_ev (s := 78) (f := covE) (fun l => by rw [(h 78 l (by decide)).1]; simp only [KG])]; try rfl)
def cR7Box := ctD [feat] fun al => .ret (.tup [.agg [sIF 85 fbA al, sIF 86 fbB al, sIF 87 fbC al, sIF 88 fbD al], .one (sIF 89 fbE al)])
theorem cR7Box_ok {ρ : Env} (h : Sees ρ KI 90) : CtOne Tryz.prog ρ 22 cR7Box :=
  ctD_ok gR7Bo (fun _ => rfl) (fun al => by simp only [V.val, V2.val, S.val, S0.val, sIF, sBF, List.map_cons, List.map_nil, iF_ev (s := 85) (f := fbA) (fun l => by rw [(h 85 l (by decide)).1]; simp only [KI]), iF_ev (s := 86) (f := fbB) (fun l => by rw [(h 86 l (by decide)).1]; simp only [KI]), iF_ev (s := 87) (f := fbC) (fun l => by rw [(h 87 l (by decide)).1]; simp only [KI]), iF_ev (s := 88) (f := fbD) (fun l => by rw [(h 88 l (by decide)).1]; simp only [KI]), iF_ev (s := 89) (f := fbE) (fun l => by rw [(h 89 l (by decide)).1]; simp only [KI])]; try rfl)
theorem K82_K76 {ρ : Env} (h : Sees ρ K82 136) : Sees ρ K76 122 := K77_K76 (K78_K77 (K79_K78 (K82_K79 h)))
theorem K82_KI {ρ : Env} (h : Sees ρ K82 136) : Sees ρ KI 90 := K71_KI (K72_K71 (K73_K72 (K74_K73 (K75_K74 (K76_K75 (K82_K76 h))))))
def ctMF : Ct := (6, cR7V) :: (7, cFeList) :: (8, cR7List) :: (16, cR7Stands) :: (10, cR7Same) :: (14, cR7Holds) :: (18, cR7Touch) :: (20, cR7Shown) :: (12, cR7Covers) :: (22, cR7Box) :: ctE14
theorem ctMF_ok {ρ : Env} (h : Sees ρ K82 136) : CtOk Tryz.prog ρ ctMF := .cons (cR7V_ok (K82_KG h)) <| .cons (cFeList_ok h) <| .cons (cR7List_ok h) <| .cons (cR7Stands_ok (K82_K79 h)) <| .cons (cR7Same_ok (K82_K79 h)) <| .cons (cR7Holds_ok (K82_K76 h)) <| .cons (cR7Touch_ok (K82_K76 h)) <| .cons (cR7Shown_ok (K82_K80 h)) <| .cons (cR7Covers_ok (K82_KG h)) <| .cons (cR7Box_ok (K82_KI h)) (ctE14_ok (K82_K80 h))
end Go.Proofs.YtglepdhapakmbaaGreat
/- Chapter 07: tree of the law FeatureMatchesReference. -/
namespace Go.Proofs.YtglepdhapakmbaaGreat
open Go.RowKit
-- term trMatchF: call Tryz.prog ctMF (Lt.of []) 100 3 (symArgs 0 [feat, feat, feats, pt]) [] 0
def trMatchF : TT OpR :=
(.ret ((.v (.one (.z (.bool (.lit true))))), [], 5))
-- end trMatchF
set_option maxRecDepth 100000 in
theorem trMatchF_is : T.norm 0 (call Tryz.prog ctMF (Lt.of []) 100 3 (symArgs 0 [feat, feat, feats, pt]) [] 0) TT.ret = trMatchF := by kernel_rfl
theorem trMatchF_low : trMatchF.low 1000 = true := by kernel_rfl
end Go.Proofs.YtglepdhapakmbaaGreat
/- Chapter 07: the law FeatureMatchesReference. -/
namespace Go.Proofs.YtglepdhapakmbaaGreat
open Go.RowKit
theorem gMatchF : Gives Tryz.prog 3 [feat, feat, feats, pt] (fun _ => .bool true) := by
  refine GivesIf.all (fn_gives K82 (by kernel_rfl) (fun ρ h => ctMF_ok (Sees.of h 136)) (by kernel_rfl) trMatchF_is trMatchF_low (by decide) (fun W vals ds hr _ => ?_))
  simp only [trMatchF, TT.sat_ret, TT.sat_ite, TT.sat_ob, TT.sat_next, TT.sat_stuck, put_i, put_b, put_d, put_fi, put_fb, put_fd, Ob.ok, B.ev, E.ev, X.ev, AL.ev, cmp_t, cmp_f, arEv, V.plain, V2.plain, S.plain, S0.plain, V.val, V2.val, S.val, S0.val, bV, iV, List.all_cons, List.all_nil, Bool.and_true, Bool.and_self, envOf_i, envOf_b, envOf_d, List.map_cons, List.map_nil, true_and, Bool.not_eq_true', Bool.not_eq_false', Bool.not_not, Bool.and_eq_true, and_f, cell_lg, cell_lb, cell_lr, cmpP, val_i, val_b, val_d, aget, Nat.reduceBEq, beq_self_eq_true, Bool.false_eq_true, if_true, if_false, Nat.reduceLT, Nat.reduceSub, Nat.sub_self, Nat.lt_irrefl]
end Go.Proofs.YtglepdhapakmbaaGreat
