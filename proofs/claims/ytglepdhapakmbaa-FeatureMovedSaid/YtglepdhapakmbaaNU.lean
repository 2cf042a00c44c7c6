/- NU, merged: Fu. -/
import Derived.Test.YtglepdhapakmbaaNT
import Derived.Test.YtglepdhapakmbaaNN
set_option linter.unusedSimpArgs false
set_option linter.unusedVariables false
/- Chapter 07: the law FeatureMoved. -/
namespace Go.Proofs.Ytglepdhapakmbaa
open Go.RowKit
theorem K81b3 (W : World) (ds l : List D) : (envOf K81 W ds).fb 3 l = placeL l := by simp only [envOf, K81, K79, K78, K77, K76, K75, K74, K73, K72, K71, KI, KH, KG, KF, KE, KD, KC, KB, KA, K9, K8, K7, K6, K5, K]
theorem K81b133 (W : World) (ds l : List D) : (envOf K81 W ds).fb 133 l = shA l := by simp only [envOf, K81, K79, K78, K77, K76, K75, K74, K73, K72, K71, KI, KH, KG, KF, KE, KD, KC, KB, KA, K9, K8, K7, K6, K5, K]
theorem K81b134 (W : World) (ds l : List D) : (envOf K81 W ds).fb 134 l = mvOkL l := by simp only [envOf, K81, K79, K78, K77, K76, K75, K74, K73, K72, K71, KI, KH, KG, KF, KE, KD, KC, KB, KA, K9, K8, K7, K6, K5, K]
theorem K81b135 (W : World) (ds l : List D) : (envOf K81 W ds).fb 135 l = shOk l := by simp only [envOf, K81, K79, K78, K77, K76, K75, K74, K73, K72, K71, KI, KH, KG, KF, KE, KD, KC, KB, KA, K9, K8, K7, K6, K5, K]
theorem K81b78 (W : World) (ds l : List D) : (envOf K81 W ds).fb 78 l = covR l := by simp only [envOf, K81, K79, K78, K77, K76, K75, K74, K73, K72, K71, KI, KH, KG, KF, KE, KD, KC, KB, KA, K9, K8, K7, K6, K5, K]
theorem K81i78 (W : World) (ds l : List D) : (envOf K81 W ds).fi 78 l = covE l := by simp only [envOf, K81, K79, K78, K77, K76, K75, K74, K73, K72, K71, KI, KH, KG, KF, KE, KD, KC, KB, KA, K9, K8, K7, K6, K5, K]
theorem K81b119 (W : World) (ds l : List D) : (envOf K81 W ds).fb 119 l = feHoR l := by simp only [envOf, K81, K79, K78, K77, K76, K75, K74, K73, K72, K71, KI, KH, KG, KF, KE, KD, KC, KB, KA, K9, K8, K7, K6, K5, K]
theorem K81i119 (W : World) (ds l : List D) : (envOf K81 W ds).fi 119 l = feE l := by simp only [envOf, K81, K79, K78, K77, K76, K75, K74, K73, K72, K71, KI, KH, KG, KF, KE, KD, KC, KB, KA, K9, K8, K7, K6, K5, K]
theorem K81b120 (W : World) (ds l : List D) : (envOf K81 W ds).fb 120 l = feToR l := by simp only [envOf, K81, K79, K78, K77, K76, K75, K74, K73, K72, K71, KI, KH, KG, KF, KE, KD, KC, KB, KA, K9, K8, K7, K6, K5, K]
theorem K81b128 (W : World) (ds l : List D) : (envOf K81 W ds).fb 128 l = feStR l := by simp only [envOf, K81, K79, K78, K77, K76, K75, K74, K73, K72, K71, KI, KH, KG, KF, KE, KD, KC, KB, KA, K9, K8, K7, K6, K5, K]
theorem K81i85 (W : World) (ds l : List D) : (envOf K81 W ds).fi 85 l = fbA l := by simp only [envOf, K81, K79, K78, K77, K76, K75, K74, K73, K72, K71, KI, KH, KG, KF, KE, KD, KC, KB, KA, K9, K8, K7, K6, K5, K]
theorem K81i86 (W : World) (ds l : List D) : (envOf K81 W ds).fi 86 l = fbB l := by simp only [envOf, K81, K79, K78, K77, K76, K75, K74, K73, K72, K71, KI, KH, KG, KF, KE, KD, KC, KB, KA, K9, K8, K7, K6, K5, K]
theorem K81i87 (W : World) (ds l : List D) : (envOf K81 W ds).fi 87 l = fbC l := by simp only [envOf, K81, K79, K78, K77, K76, K75, K74, K73, K72, K71, KI, KH, KG, KF, KE, KD, KC, KB, KA, K9, K8, K7, K6, K5, K]
theorem K81i88 (W : World) (ds l : List D) : (envOf K81 W ds).fi 88 l = fbD l := by simp only [envOf, K81, K79, K78, K77, K76, K75, K74, K73, K72, K71, KI, KH, KG, KF, KE, KD, KC, KB, KA, K9, K8, K7, K6, K5, K]
theorem K81i89 (W : World) (ds l : List D) : (envOf K81 W ds).fi 89 l = fbE l := by simp only [envOf, K81, K79, K78, K77, K76, K75, K74, K73, K72, K71, KI, KH, KG, KF, KE, KD, KC, KB, KA, K9, K8, K7, K6, K5, K]
theorem eMvb (W : World) (ds : List D) (n : Nat) (l : List D) : (envOf KMv W ds).fb n l = (envOf K81 W ds).fb n l := rfl
theorem eMvi (W : World) (ds : List D) (n : Nat) (l : List D) : (envOf KMv W ds).fi n l = (envOf K81 W ds).fi n l := rfl
theorem eMvd (W : World) (ds : List D) (l : List D) : (envOf KMv W ds).fd 200 l = mvL l := rfl
theorem sh_eq (a b c d e f g h i : Int) (r s : Rows) : shA [.i a, .i b, .i c, .i d, .i e, .l r, .i f, .i g, .l s, .i h, .i i] = decide (b = 3 ∨ b = 6) := rfl
theorem shOk_eq (a b c d e f g h i : Int) (r s : Rows) : shOk [.i a, .i b, .i c, .i d, .i e, .l r, .i f, .i g, .l s, .i h, .i i] = (featB a b c d e r f g s && placeB h i) := rfl
theorem mvOk_eq (a b c d e f g h i : Int) (r s : Rows) : mvOkL [.i a, .i b, .i c, .i d, .i e, .l r, .i f, .i g, .l s, .i h, .i i] = mvOkN r h i r.length := rfl
theorem mvL_eq (a b c d e f g h i : Int) (r s : Rows) : mvL [.i a, .i b, .i c, .i d, .i e, .l r, .i f, .i g, .l s, .i h, .i i] = mvN r h i r.length := rfl
theorem pl_two (a b : Int) : placeL [.i a, .i b] = placeB a b := rfl
theorem area_rl2 {W : World} {vals : List Value} {ds : List D} {sh : List Sh} (hr : repSh W (feat :: feat :: sh) vals ds) : (∀ i : Nat, i < (rAt ds 5).length → rl (rAt ds 5) i = 2) ∧ ∀ i : Nat, i < (rAt ds 14).length → rl (rAt ds 14) i = 2 := by
  refine ⟨area_rl hr, ?_⟩
  obtain ⟨v, vs', d, ds', rfl, rfl, ⟨us, rfl, h⟩, hr⟩ := hr
  have h1 := area_rl hr
  have hl : d.length = 9 := (reps_len h).2
  have e : rAt (d ++ ds') 14 = rAt ds' 5 := by
    unfold rAt
    rw [List.getD_eq_getElem?_getD, List.getElem?_append_right (by omega), hl, List.getD_eq_getElem?_getD]
  rw [e]
  exact h1
set_option maxHeartbeats 4000000 in
theorem gMvAA : GivesIf Try.prog 8 [feat, feat, pt, pt] (fun ds => (iAt ds 1 = 3 ∨ iAt ds 1 = 6) ∧ (iAt ds 10 = 3 ∨ iAt ds 10 = 6)) (fun _ => .bool true) := by
  refine fn_gives KMv (by kernel_rfl) (fun ρ h => ctMv_ok h _) (by kernel_rfl) trMvAA_is trMvAA_low (by decide) (fun W vals ds hr ⟨hk1, hk2⟩ => ?_)
  obtain ⟨hrl1, hrl2⟩ := area_rl2 hr
  clear hr
  simp only [trMvAA, TT.sat_ret, TT.sat_ite, TT.sat_ob, TT.sat_next, TT.sat_stuck, put_i, put_b, put_d, put_fi, put_fb, put_fd, Ob.ok, B.ev, E.ev, X.ev, AL.ev, cmp_t, cmp_f, arEv, V.plain, V2.plain, S.plain, S0.plain, V.val, V2.val, S.val, S0.val, bV, iV, List.all_cons, List.all_nil, Bool.and_true, Bool.and_self, envOf_i, envOf_b, envOf_d, List.map_cons, List.map_nil, true_and, Bool.not_eq_true', Bool.not_eq_false', Bool.not_not, Bool.and_eq_true, and_f, cell_lg, cell_lb, cell_lr, cmpP, val_i, val_b, val_d, aget, Nat.reduceBEq, beq_self_eq_true, Bool.false_eq_true, if_true, if_false, Nat.reduceLT, Nat.reduceSub, Nat.sub_self, Nat.lt_irrefl, eMvb, eMvi, eMvd, K81b3, K81b133, K81b134, K81b135, K81b76, feat_nine, sh_eq, shOk_eq, mvOk_eq, mvL_eq, pl_two]
  refine ⟨fun _ => trivial, fun f1 => ⟨fun _ => trivial, fun g1 => ⟨fun _ => trivial, fun p1 => ⟨fun _ => trivial, fun v1 => ⟨decide_eq_true hk1, fun m1 => ⟨⟨f1, v1⟩, decide_eq_true hk2, fun m2 => ⟨⟨g1, v1⟩, fun _ => trivial, fun q1 => ?_⟩, fun _ => ⟨⟨g1, v1⟩, trivial⟩⟩, fun _ => ⟨⟨f1, v1⟩, ?_⟩⟩⟩⟩⟩⟩
  case refine_2 => exact ⟨decide_eq_true hk2, fun _ => ⟨⟨g1, v1⟩, trivial⟩, fun _ => ⟨⟨g1, v1⟩, trivial⟩⟩
  obtain ⟨M1, F1⟩ := mvF_area hk1 f1 hrl1 m1
  obtain ⟨M2, F2⟩ := mvF_area hk2 g1 hrl2 m2
  have p2 := p1
  have v2 := v1
  rw [placeB_iff] at p2 v2
  have w1 : IntKind.i64.wrap (iAt ds 18 + iAt ds 20) = iAt ds 18 + iAt ds 20 := wrap_in _ (by omega) (by omega)
  have w2 : IntKind.i64.wrap (iAt ds 19 + iAt ds 21) = iAt ds 19 + iAt ds 21 := wrap_in _ (by omega) (by omega)
  rw [w1, w2] at q1
  obtain ⟨⟨c1, c2⟩, c3, ⟨h1, h2⟩, h3, h4, h5⟩ := two_mv f1 F1 M1 g1 F2 M2 ⟨p1, q1⟩
  obtain ⟨b1, b2, b3, b4, b5, b6⟩ := box_mv f1 F1 M1 v1
  clear M1 M2 F1 F2 hrl1 hrl2
  refine TT.sat_join (fun v => v.b 1 = true) (fun v hv => ?_) (fun v hv hR => ?_)
  · simp only [TT.sat_ret, TT.sat_ite, TT.sat_ob, TT.sat_next, TT.sat_stuck, put_i, put_b, put_d, put_fi, put_fb, put_fd, Ob.ok, B.ev, E.ev, X.ev, AL.ev, cmp_t, cmp_f, arEv, V.plain, V2.plain, S.plain, S0.plain, V.val, V2.val, S.val, S0.val, bV, iV, List.all_cons, List.all_nil, Bool.and_true, Bool.and_self, envOf_i, envOf_b, envOf_d, List.map_cons, List.map_nil, true_and, Bool.not_eq_true', Bool.not_eq_false', Bool.not_not, Bool.and_eq_true, and_f, cell_lg, cell_lb, cell_lr, cmpP, val_i, val_b, val_d, aget, Nat.reduceBEq, beq_self_eq_true, Bool.false_eq_true, if_true, if_false, Nat.reduceLT, Nat.reduceSub, Nat.sub_self, Nat.lt_irrefl, eMvb, eMvi, eMvd, K81b78, K81i78, mvL_eq, w1, w2, c1, c2, c3]
    simp
  refine TT.sat_join (fun v => v.b 1 = true) (fun u hu => ?_) (fun u hu hU => ?_)
  · simp only [TT.sat_ret, TT.sat_ite, TT.sat_ob, TT.sat_next, TT.sat_stuck, put_i, put_b, put_d, put_fi, put_fb, put_fd, Ob.ok, B.ev, E.ev, X.ev, AL.ev, cmp_t, cmp_f, arEv, V.plain, V2.plain, S.plain, S0.plain, V.val, V2.val, S.val, S0.val, bV, iV, List.all_cons, List.all_nil, Bool.and_true, Bool.and_self, envOf_i, envOf_b, envOf_d, List.map_cons, List.map_nil, true_and, Bool.not_eq_true', Bool.not_eq_false', Bool.not_not, Bool.and_eq_true, and_f, cell_lg, cell_lb, cell_lr, cmpP, val_i, val_b, val_d, aget, Nat.reduceBEq, beq_self_eq_true, Bool.false_eq_true, if_true, if_false, Nat.reduceLT, Nat.reduceSub, Nat.sub_self, Nat.lt_irrefl, eMvb, eMvi, eMvd, K81b119, K81i119, mvL_eq, hR, h1, h2, h3]
    simp
  refine TT.sat_join (fun v => v.b 1 = true) (fun y hy => ?_) (fun y hy hY => ?_)
  · simp only [TT.sat_ret, TT.sat_ite, TT.sat_ob, TT.sat_next, TT.sat_stuck, put_i, put_b, put_d, put_fi, put_fb, put_fd, Ob.ok, B.ev, E.ev, X.ev, AL.ev, cmp_t, cmp_f, arEv, V.plain, V2.plain, S.plain, S0.plain, V.val, V2.val, S.val, S0.val, bV, iV, List.all_cons, List.all_nil, Bool.and_true, Bool.and_self, envOf_i, envOf_b, envOf_d, List.map_cons, List.map_nil, true_and, Bool.not_eq_true', Bool.not_eq_false', Bool.not_not, Bool.and_eq_true, and_f, cell_lg, cell_lb, cell_lr, cmpP, val_i, val_b, val_d, aget, Nat.reduceBEq, beq_self_eq_true, Bool.false_eq_true, if_true, if_false, Nat.reduceLT, Nat.reduceSub, Nat.sub_self, Nat.lt_irrefl, eMvb, eMvi, eMvd, K81b128, K81i119, mvL_eq, hU, h1, h2, h5]
    simp
  refine TT.sat_join (fun v => v.b 1 = true) (fun z hz => ?_) (fun z hz hZ => ?_)
  · simp only [TT.sat_ret, TT.sat_ite, TT.sat_ob, TT.sat_next, TT.sat_stuck, put_i, put_b, put_d, put_fi, put_fb, put_fd, Ob.ok, B.ev, E.ev, X.ev, AL.ev, cmp_t, cmp_f, arEv, V.plain, V2.plain, S.plain, S0.plain, V.val, V2.val, S.val, S0.val, bV, iV, List.all_cons, List.all_nil, Bool.and_true, Bool.and_self, envOf_i, envOf_b, envOf_d, List.map_cons, List.map_nil, true_and, Bool.not_eq_true', Bool.not_eq_false', Bool.not_not, Bool.and_eq_true, and_f, cell_lg, cell_lb, cell_lr, cmpP, val_i, val_b, val_d, aget, Nat.reduceBEq, beq_self_eq_true, Bool.false_eq_true, if_true, if_false, Nat.reduceLT, Nat.reduceSub, Nat.sub_self, Nat.lt_irrefl, eMvb, eMvi, eMvd, K81b120, K81i119, mvL_eq, hY, h1, h2, h4]
    simp
  simp only [TT.sat_ret, TT.sat_ite, TT.sat_ob, TT.sat_next, TT.sat_stuck, put_i, put_b, put_d, put_fi, put_fb, put_fd, Ob.ok, B.ev, E.ev, X.ev, AL.ev, cmp_t, cmp_f, arEv, V.plain, V2.plain, S.plain, S0.plain, V.val, V2.val, S.val, S0.val, bV, iV, List.all_cons, List.all_nil, Bool.and_true, Bool.and_self, envOf_i, envOf_b, envOf_d, List.map_cons, List.map_nil, true_and, Bool.not_eq_true', Bool.not_eq_false', Bool.not_not, Bool.and_eq_true, and_f, cell_lg, cell_lb, cell_lr, cmpP, val_i, val_b, val_d, aget, Nat.reduceBEq, beq_self_eq_true, Bool.false_eq_true, if_true, if_false, Nat.reduceLT, Nat.reduceSub, Nat.sub_self, Nat.lt_irrefl, eMvb, eMvi, eMvd, K81i85, K81i86, K81i87, K81i88, K81i89, mvL_eq, hZ, b1, b2, b3, b4, b5, b6]
  simp [cmpEv]
set_option maxHeartbeats 4000000 in
theorem gMvAD : GivesIf Try.prog 8 [feat, feat, pt, pt] (fun ds => (iAt ds 1 = 3 ∨ iAt ds 1 = 6) ∧ ¬(iAt ds 10 = 3 ∨ iAt ds 10 = 6)) (fun _ => .bool true) := by
  refine fn_gives KMv (by kernel_rfl) (fun ρ h => ctMv_ok h _) (by kernel_rfl) trMvAD_is trMvAD_low (by decide) (fun W vals ds hr ⟨hk1, hk2⟩ => ?_)
  obtain ⟨hrl1, hrl2⟩ := area_rl2 hr
  clear hr
  simp only [trMvAD, TT.sat_ret, TT.sat_ite, TT.sat_ob, TT.sat_next, TT.sat_stuck, put_i, put_b, put_d, put_fi, put_fb, put_fd, Ob.ok, B.ev, E.ev, X.ev, AL.ev, cmp_t, cmp_f, arEv, V.plain, V2.plain, S.plain, S0.plain, V.val, V2.val, S.val, S0.val, bV, iV, List.all_cons, List.all_nil, Bool.and_true, Bool.and_self, envOf_i, envOf_b, envOf_d, List.map_cons, List.map_nil, true_and, Bool.not_eq_true', Bool.not_eq_false', Bool.not_not, Bool.and_eq_true, and_f, cell_lg, cell_lb, cell_lr, cmpP, val_i, val_b, val_d, aget, Nat.reduceBEq, beq_self_eq_true, Bool.false_eq_true, if_true, if_false, Nat.reduceLT, Nat.reduceSub, Nat.sub_self, Nat.lt_irrefl, eMvb, eMvi, eMvd, K81b3, K81b133, K81b134, K81b135, K81b76, feat_nine, sh_eq, shOk_eq, mvOk_eq, mvL_eq, pl_two]
  refine ⟨fun _ => trivial, fun f1 => ⟨fun _ => trivial, fun g1 => ⟨fun _ => trivial, fun p1 => ⟨fun _ => trivial, fun v1 => ⟨decide_eq_true hk1, fun m1 => ⟨⟨f1, v1⟩, decide_eq_false hk2, ⟨g1, v1⟩, fun _ => trivial, fun F2 => ⟨fun _ => trivial, fun q1 => ?_⟩⟩, fun _ => ⟨⟨f1, v1⟩, decide_eq_false hk2, ⟨g1, v1⟩, by simp⟩⟩⟩⟩⟩⟩
  obtain ⟨M1, F1⟩ := mvF_area hk1 f1 hrl1 m1
  have M2 := mvF_disc hk2 g1 F2
  have p2 := p1
  have v2 := v1
  rw [placeB_iff] at p2 v2
  have w1 : IntKind.i64.wrap (iAt ds 18 + iAt ds 20) = iAt ds 18 + iAt ds 20 := wrap_in _ (by omega) (by omega)
  have w2 : IntKind.i64.wrap (iAt ds 19 + iAt ds 21) = iAt ds 19 + iAt ds 21 := wrap_in _ (by omega) (by omega)
  rw [w1, w2] at q1
  obtain ⟨⟨c1, c2⟩, c3, ⟨h1, h2⟩, h3, h4, h5⟩ := two_mv f1 F1 M1 g1 F2 M2 ⟨p1, q1⟩
  obtain ⟨b1, b2, b3, b4, b5, b6⟩ := box_mv f1 F1 M1 v1
  clear M1 M2 F1 F2 hrl1 hrl2
  refine TT.sat_join (fun v => v.b 1 = true) (fun v hv => ?_) (fun v hv hR => ?_)
  · simp only [TT.sat_ret, TT.sat_ite, TT.sat_ob, TT.sat_next, TT.sat_stuck, put_i, put_b, put_d, put_fi, put_fb, put_fd, Ob.ok, B.ev, E.ev, X.ev, AL.ev, cmp_t, cmp_f, arEv, V.plain, V2.plain, S.plain, S0.plain, V.val, V2.val, S.val, S0.val, bV, iV, List.all_cons, List.all_nil, Bool.and_true, Bool.and_self, envOf_i, envOf_b, envOf_d, List.map_cons, List.map_nil, true_and, Bool.not_eq_true', Bool.not_eq_false', Bool.not_not, Bool.and_eq_true, and_f, cell_lg, cell_lb, cell_lr, cmpP, val_i, val_b, val_d, aget, Nat.reduceBEq, beq_self_eq_true, Bool.false_eq_true, if_true, if_false, Nat.reduceLT, Nat.reduceSub, Nat.sub_self, Nat.lt_irrefl, eMvb, eMvi, eMvd, K81b78, K81i78, mvL_eq, w1, w2, c1, c2, c3]
    simp
  refine TT.sat_join (fun v => v.b 1 = true) (fun u hu => ?_) (fun u hu hU => ?_)
  · simp only [TT.sat_ret, TT.sat_ite, TT.sat_ob, TT.sat_next, TT.sat_stuck, put_i, put_b, put_d, put_fi, put_fb, put_fd, Ob.ok, B.ev, E.ev, X.ev, AL.ev, cmp_t, cmp_f, arEv, V.plain, V2.plain, S.plain, S0.plain, V.val, V2.val, S.val, S0.val, bV, iV, List.all_cons, List.all_nil, Bool.and_true, Bool.and_self, envOf_i, envOf_b, envOf_d, List.map_cons, List.map_nil, true_and, Bool.not_eq_true', Bool.not_eq_false', Bool.not_not, Bool.and_eq_true, and_f, cell_lg, cell_lb, cell_lr, cmpP, val_i, val_b, val_d, aget, Nat.reduceBEq, beq_self_eq_true, Bool.false_eq_true, if_true, if_false, Nat.reduceLT, Nat.reduceSub, Nat.sub_self, Nat.lt_irrefl, eMvb, eMvi, eMvd, K81b119, K81i119, mvL_eq, hR, h1, h2, h3]
    simp
  refine TT.sat_join (fun v => v.b 1 = true) (fun y hy => ?_) (fun y hy hY => ?_)
  · simp only [TT.sat_ret, TT.sat_ite, TT.sat_ob, TT.sat_next, TT.sat_stuck, put_i, put_b, put_d, put_fi, put_fb, put_fd, Ob.ok, B.ev, E.ev, X.ev, AL.ev, cmp_t, cmp_f, arEv, V.plain, V2.plain, S.plain, S0.plain, V.val, V2.val, S.val, S0.val, bV, iV, List.all_cons, List.all_nil, Bool.and_true, Bool.and_self, envOf_i, envOf_b, envOf_d, List.map_cons, List.map_nil, true_and, Bool.not_eq_true', Bool.not_eq_false', Bool.not_not, Bool.and_eq_true, and_f, cell_lg, cell_lb, cell_lr, cmpP, val_i, val_b, val_d, aget, Nat.reduceBEq, beq_self_eq_true, Bool.false_eq_true, if_true, if_false, Nat.reduceLT, Nat.reduceSub, Nat.sub_self, Nat.lt_irrefl, eMvb, eMvi, eMvd, K81b128, K81i119, mvL_eq, hU, h1, h2, h5]
    simp
  refine TT.sat_join (fun v => v.b 1 = true) (fun z hz => ?_) (fun z hz hZ => ?_)
  · simp only [TT.sat_ret, TT.sat_ite, TT.sat_ob, TT.sat_next, TT.sat_stuck, put_i, put_b, put_d, put_fi, put_fb, put_fd, Ob.ok, B.ev, E.ev, X.ev, AL.ev, cmp_t, cmp_f, arEv, V.plain, V2.plain, S.plain, S0.plain, V.val, V2.val, S.val, S0.val, bV, iV, List.all_cons, List.all_nil, Bool.and_true, Bool.and_self, envOf_i, envOf_b, envOf_d, List.map_cons, List.map_nil, true_and, Bool.not_eq_true', Bool.not_eq_false', Bool.not_not, Bool.and_eq_true, and_f, cell_lg, cell_lb, cell_lr, cmpP, val_i, val_b, val_d, aget, Nat.reduceBEq, beq_self_eq_true, Bool.false_eq_true, if_true, if_false, Nat.reduceLT, Nat.reduceSub, Nat.sub_self, Nat.lt_irrefl, eMvb, eMvi, eMvd, K81b120, K81i119, mvL_eq, hY, h1, h2, h4]
    simp
  simp only [TT.sat_ret, TT.sat_ite, TT.sat_ob, TT.sat_next, TT.sat_stuck, put_i, put_b, put_d, put_fi, put_fb, put_fd, Ob.ok, B.ev, E.ev, X.ev, AL.ev, cmp_t, cmp_f, arEv, V.plain, V2.plain, S.plain, S0.plain, V.val, V2.val, S.val, S0.val, bV, iV, List.all_cons, List.all_nil, Bool.and_true, Bool.and_self, envOf_i, envOf_b, envOf_d, List.map_cons, List.map_nil, true_and, Bool.not_eq_true', Bool.not_eq_false', Bool.not_not, Bool.and_eq_true, and_f, cell_lg, cell_lb, cell_lr, cmpP, val_i, val_b, val_d, aget, Nat.reduceBEq, beq_self_eq_true, Bool.false_eq_true, if_true, if_false, Nat.reduceLT, Nat.reduceSub, Nat.sub_self, Nat.lt_irrefl, eMvb, eMvi, eMvd, K81i85, K81i86, K81i87, K81i88, K81i89, mvL_eq, hZ, b1, b2, b3, b4, b5, b6]
  simp [cmpEv]
set_option maxHeartbeats 4000000 in
theorem gMvDA : GivesIf Try.prog 8 [feat, feat, pt, pt] (fun ds => ¬(iAt ds 1 = 3 ∨ iAt ds 1 = 6) ∧ (iAt ds 10 = 3 ∨ iAt ds 10 = 6)) (fun _ => .bool true) := by
  refine fn_gives KMv (by kernel_rfl) (fun ρ h => ctMv_ok h _) (by kernel_rfl) trMvDA_is trMvDA_low (by decide) (fun W vals ds hr ⟨hk1, hk2⟩ => ?_)
  obtain ⟨hrl1, hrl2⟩ := area_rl2 hr
  clear hr
  simp only [trMvDA, TT.sat_ret, TT.sat_ite, TT.sat_ob, TT.sat_next, TT.sat_stuck, put_i, put_b, put_d, put_fi, put_fb, put_fd, Ob.ok, B.ev, E.ev, X.ev, AL.ev, cmp_t, cmp_f, arEv, V.plain, V2.plain, S.plain, S0.plain, V.val, V2.val, S.val, S0.val, bV, iV, List.all_cons, List.all_nil, Bool.and_true, Bool.and_self, envOf_i, envOf_b, envOf_d, List.map_cons, List.map_nil, true_and, Bool.not_eq_true', Bool.not_eq_false', Bool.not_not, Bool.and_eq_true, and_f, cell_lg, cell_lb, cell_lr, cmpP, val_i, val_b, val_d, aget, Nat.reduceBEq, beq_self_eq_true, Bool.false_eq_true, if_true, if_false, Nat.reduceLT, Nat.reduceSub, Nat.sub_self, Nat.lt_irrefl, eMvb, eMvi, eMvd, K81b3, K81b133, K81b134, K81b135, K81b76, feat_nine, sh_eq, shOk_eq, mvOk_eq, mvL_eq, pl_two]
  refine ⟨fun _ => trivial, fun f1 => ⟨fun _ => trivial, fun g1 => ⟨fun _ => trivial, fun p1 => ⟨fun _ => trivial, fun v1 => ⟨decide_eq_false hk1, ⟨f1, v1⟩, decide_eq_true hk2, fun m2 => ⟨⟨g1, v1⟩, fun _ => trivial, fun F1 => ⟨fun _ => trivial, fun q1 => ?_⟩⟩, fun _ => ⟨⟨g1, v1⟩, by simp⟩⟩⟩⟩⟩⟩
  have M1 := mvF_disc hk1 f1 F1
  obtain ⟨M2, F2⟩ := mvF_area hk2 g1 hrl2 m2
  have p2 := p1
  have v2 := v1
  rw [placeB_iff] at p2 v2
  have w1 : IntKind.i64.wrap (iAt ds 18 + iAt ds 20) = iAt ds 18 + iAt ds 20 := wrap_in _ (by omega) (by omega)
  have w2 : IntKind.i64.wrap (iAt ds 19 + iAt ds 21) = iAt ds 19 + iAt ds 21 := wrap_in _ (by omega) (by omega)
  rw [w1, w2] at q1
  obtain ⟨⟨c1, c2⟩, c3, ⟨h1, h2⟩, h3, h4, h5⟩ := two_mv f1 F1 M1 g1 F2 M2 ⟨p1, q1⟩
  obtain ⟨b1, b2, b3, b4, b5, b6⟩ := box_mv f1 F1 M1 v1
  clear M1 M2 F1 F2 hrl1 hrl2
  refine TT.sat_join (fun v => v.b 1 = true) (fun v hv => ?_) (fun v hv hR => ?_)
  · simp only [TT.sat_ret, TT.sat_ite, TT.sat_ob, TT.sat_next, TT.sat_stuck, put_i, put_b, put_d, put_fi, put_fb, put_fd, Ob.ok, B.ev, E.ev, X.ev, AL.ev, cmp_t, cmp_f, arEv, V.plain, V2.plain, S.plain, S0.plain, V.val, V2.val, S.val, S0.val, bV, iV, List.all_cons, List.all_nil, Bool.and_true, Bool.and_self, envOf_i, envOf_b, envOf_d, List.map_cons, List.map_nil, true_and, Bool.not_eq_true', Bool.not_eq_false', Bool.not_not, Bool.and_eq_true, and_f, cell_lg, cell_lb, cell_lr, cmpP, val_i, val_b, val_d, aget, Nat.reduceBEq, beq_self_eq_true, Bool.false_eq_true, if_true, if_false, Nat.reduceLT, Nat.reduceSub, Nat.sub_self, Nat.lt_irrefl, eMvb, eMvi, eMvd, K81b78, K81i78, mvL_eq, w1, w2, c1, c2, c3]
    simp
  refine TT.sat_join (fun v => v.b 1 = true) (fun u hu => ?_) (fun u hu hU => ?_)
  · simp only [TT.sat_ret, TT.sat_ite, TT.sat_ob, TT.sat_next, TT.sat_stuck, put_i, put_b, put_d, put_fi, put_fb, put_fd, Ob.ok, B.ev, E.ev, X.ev, AL.ev, cmp_t, cmp_f, arEv, V.plain, V2.plain, S.plain, S0.plain, V.val, V2.val, S.val, S0.val, bV, iV, List.all_cons, List.all_nil, Bool.and_true, Bool.and_self, envOf_i, envOf_b, envOf_d, List.map_cons, List.map_nil, true_and, Bool.not_eq_true', Bool.not_eq_false', Bool.not_not, Bool.and_eq_true, and_f, cell_lg, cell_lb, cell_lr, cmpP, val_i, val_b, val_d, aget, Nat.reduceBEq, beq_self_eq_true, Bool.false_eq_true, if_true, if_false, Nat.reduceLT, Nat.reduceSub, Nat.sub_self, Nat.lt_irrefl, eMvb, eMvi, eMvd, K81b119, K81i119, mvL_eq, hR, h1, h2, h3]
    simp
  refine TT.sat_join (fun v => v.b 1 = true) (fun y hy => ?_) (fun y hy hY => ?_)
  · simp only [TT.sat_ret, TT.sat_ite, TT.sat_ob, TT.sat_next, TT.sat_stuck, put_i, put_b, put_d, put_fi, put_fb, put_fd, Ob.ok, B.ev, E.ev, X.ev, AL.ev, cmp_t, cmp_f, arEv, V.plain, V2.plain, S.plain, S0.plain, V.val, V2.val, S.val, S0.val, bV, iV, List.all_cons, List.all_nil, Bool.and_true, Bool.and_self, envOf_i, envOf_b, envOf_d, List.map_cons, List.map_nil, true_and, Bool.not_eq_true', Bool.not_eq_false', Bool.not_not, Bool.and_eq_true, and_f, cell_lg, cell_lb, cell_lr, cmpP, val_i, val_b, val_d, aget, Nat.reduceBEq, beq_self_eq_true, Bool.false_eq_true, if_true, if_false, Nat.reduceLT, Nat.reduceSub, Nat.sub_self, Nat.lt_irrefl, eMvb, eMvi, eMvd, K81b128, K81i119, mvL_eq, hU, h1, h2, h5]
    simp
  refine TT.sat_join (fun v => v.b 1 = true) (fun z hz => ?_) (fun z hz hZ => ?_)
  · simp only [TT.sat_ret, TT.sat_ite, TT.sat_ob, TT.sat_next, TT.sat_stuck, put_i, put_b, put_d, put_fi, put_fb, put_fd, Ob.ok, B.ev, E.ev, X.ev, AL.ev, cmp_t, cmp_f, arEv, V.plain, V2.plain, S.plain, S0.plain, V.val, V2.val, S.val, S0.val, bV, iV, List.all_cons, List.all_nil, Bool.and_true, Bool.and_self, envOf_i, envOf_b, envOf_d, List.map_cons, List.map_nil, true_and, Bool.not_eq_true', Bool.not_eq_false', Bool.not_not, Bool.and_eq_true, and_f, cell_lg, cell_lb, cell_lr, cmpP, val_i, val_b, val_d, aget, Nat.reduceBEq, beq_self_eq_true, Bool.false_eq_true, if_true, if_false, Nat.reduceLT, Nat.reduceSub, Nat.sub_self, Nat.lt_irrefl, eMvb, eMvi, eMvd, K81b120, K81i119, mvL_eq, hY, h1, h2, h4]
    simp
  simp only [TT.sat_ret, TT.sat_ite, TT.sat_ob, TT.sat_next, TT.sat_stuck, put_i, put_b, put_d, put_fi, put_fb, put_fd, Ob.ok, B.ev, E.ev, X.ev, AL.ev, cmp_t, cmp_f, arEv, V.plain, V2.plain, S.plain, S0.plain, V.val, V2.val, S.val, S0.val, bV, iV, List.all_cons, List.all_nil, Bool.and_true, Bool.and_self, envOf_i, envOf_b, envOf_d, List.map_cons, List.map_nil, true_and, Bool.not_eq_true', Bool.not_eq_false', Bool.not_not, Bool.and_eq_true, and_f, cell_lg, cell_lb, cell_lr, cmpP, val_i, val_b, val_d, aget, Nat.reduceBEq, beq_self_eq_true, Bool.false_eq_true, if_true, if_false, Nat.reduceLT, Nat.reduceSub, Nat.sub_self, Nat.lt_irrefl, eMvb, eMvi, eMvd, K81i85, K81i86, K81i87, K81i88, K81i89, mvL_eq, hZ, b1, b2, b3, b4, b5, b6]
  simp [cmpEv]
set_option maxHeartbeats 4000000 in
theorem gMvDD : GivesIf Try.prog 8 [feat, feat, pt, pt] (fun ds => ¬(iAt ds 1 = 3 ∨ iAt ds 1 = 6) ∧ ¬(iAt ds 10 = 3 ∨ iAt ds 10 = 6)) (fun _ => .bool true) := by
  refine fn_gives KMv (by kernel_rfl) (fun ρ h => ctMv_ok h _) (by kernel_rfl) trMvDD_is trMvDD_low (by decide) (fun W vals ds hr ⟨hk1, hk2⟩ => ?_)
  obtain ⟨hrl1, hrl2⟩ := area_rl2 hr
  clear hr
  simp only [trMvDD, TT.sat_ret, TT.sat_ite, TT.sat_ob, TT.sat_next, TT.sat_stuck, put_i, put_b, put_d, put_fi, put_fb, put_fd, Ob.ok, B.ev, E.ev, X.ev, AL.ev, cmp_t, cmp_f, arEv, V.plain, V2.plain, S.plain, S0.plain, V.val, V2.val, S.val, S0.val, bV, iV, List.all_cons, List.all_nil, Bool.and_true, Bool.and_self, envOf_i, envOf_b, envOf_d, List.map_cons, List.map_nil, true_and, Bool.not_eq_true', Bool.not_eq_false', Bool.not_not, Bool.and_eq_true, and_f, cell_lg, cell_lb, cell_lr, cmpP, val_i, val_b, val_d, aget, Nat.reduceBEq, beq_self_eq_true, Bool.false_eq_true, if_true, if_false, Nat.reduceLT, Nat.reduceSub, Nat.sub_self, Nat.lt_irrefl, eMvb, eMvi, eMvd, K81b3, K81b133, K81b134, K81b135, K81b76, feat_nine, sh_eq, shOk_eq, mvOk_eq, mvL_eq, pl_two]
  refine ⟨fun _ => trivial, fun f1 => ⟨fun _ => trivial, fun g1 => ⟨fun _ => trivial, fun p1 => ⟨fun _ => trivial, fun v1 => ⟨decide_eq_false hk1, ⟨f1, v1⟩, decide_eq_false hk2, ⟨g1, v1⟩, fun _ => trivial, fun F1 => ⟨fun _ => trivial, fun F2 => ⟨fun _ => trivial, fun q1 => ?_⟩⟩⟩⟩⟩⟩⟩
  have M1 := mvF_disc hk1 f1 F1
  have M2 := mvF_disc hk2 g1 F2
  have p2 := p1
  have v2 := v1
  rw [placeB_iff] at p2 v2
  have w1 : IntKind.i64.wrap (iAt ds 18 + iAt ds 20) = iAt ds 18 + iAt ds 20 := wrap_in _ (by omega) (by omega)
  have w2 : IntKind.i64.wrap (iAt ds 19 + iAt ds 21) = iAt ds 19 + iAt ds 21 := wrap_in _ (by omega) (by omega)
  rw [w1, w2] at q1
  obtain ⟨⟨c1, c2⟩, c3, ⟨h1, h2⟩, h3, h4, h5⟩ := two_mv f1 F1 M1 g1 F2 M2 ⟨p1, q1⟩
  obtain ⟨b1, b2, b3, b4, b5, b6⟩ := box_mv f1 F1 M1 v1
  clear M1 M2 F1 F2 hrl1 hrl2
  refine TT.sat_join (fun v => v.b 1 = true) (fun v hv => ?_) (fun v hv hR => ?_)
  · simp only [TT.sat_ret, TT.sat_ite, TT.sat_ob, TT.sat_next, TT.sat_stuck, put_i, put_b, put_d, put_fi, put_fb, put_fd, Ob.ok, B.ev, E.ev, X.ev, AL.ev, cmp_t, cmp_f, arEv, V.plain, V2.plain, S.plain, S0.plain, V.val, V2.val, S.val, S0.val, bV, iV, List.all_cons, List.all_nil, Bool.and_true, Bool.and_self, envOf_i, envOf_b, envOf_d, List.map_cons, List.map_nil, true_and, Bool.not_eq_true', Bool.not_eq_false', Bool.not_not, Bool.and_eq_true, and_f, cell_lg, cell_lb, cell_lr, cmpP, val_i, val_b, val_d, aget, Nat.reduceBEq, beq_self_eq_true, Bool.false_eq_true, if_true, if_false, Nat.reduceLT, Nat.reduceSub, Nat.sub_self, Nat.lt_irrefl, eMvb, eMvi, eMvd, K81b78, K81i78, mvL_eq, w1, w2, c1, c2, c3]
    simp
  refine TT.sat_join (fun v => v.b 1 = true) (fun u hu => ?_) (fun u hu hU => ?_)
  · simp only [TT.sat_ret, TT.sat_ite, TT.sat_ob, TT.sat_next, TT.sat_stuck, put_i, put_b, put_d, put_fi, put_fb, put_fd, Ob.ok, B.ev, E.ev, X.ev, AL.ev, cmp_t, cmp_f, arEv, V.plain, V2.plain, S.plain, S0.plain, V.val, V2.val, S.val, S0.val, bV, iV, List.all_cons, List.all_nil, Bool.and_true, Bool.and_self, envOf_i, envOf_b, envOf_d, List.map_cons, List.map_nil, true_and, Bool.not_eq_true', Bool.not_eq_false', Bool.not_not, Bool.and_eq_true, and_f, cell_lg, cell_lb, cell_lr, cmpP, val_i, val_b, val_d, aget, Nat.reduceBEq, beq_self_eq_true, Bool.false_eq_true, if_true, if_false, Nat.reduceLT, Nat.reduceSub, Nat.sub_self, Nat.lt_irrefl, eMvb, eMvi, eMvd, K81b119, K81i119, mvL_eq, hR, h1, h2, h3]
    simp
  refine TT.sat_join (fun v => v.b 1 = true) (fun y hy => ?_) (fun y hy hY => ?_)
  · simp only [TT.sat_ret, TT.sat_ite, TT.sat_ob, TT.sat_next, TT.sat_stuck, put_i, put_b, put_d, put_fi, put_fb, put_fd, Ob.ok, B.ev, E.ev, X.ev, AL.ev, cmp_t, cmp_f, arEv, V.plain, V2.plain, S.plain, S0.plain, V.val, V2.val, S.val, S0.val, bV, iV, List.all_cons, List.all_nil, Bool.and_true, Bool.and_self, envOf_i, envOf_b, envOf_d, List.map_cons, List.map_nil, true_and, Bool.not_eq_true', Bool.not_eq_false', Bool.not_not, Bool.and_eq_true, and_f, cell_lg, cell_lb, cell_lr, cmpP, val_i, val_b, val_d, aget, Nat.reduceBEq, beq_self_eq_true, Bool.false_eq_true, if_true, if_false, Nat.reduceLT, Nat.reduceSub, Nat.sub_self, Nat.lt_irrefl, eMvb, eMvi, eMvd, K81b128, K81i119, mvL_eq, hU, h1, h2, h5]
    simp
  refine TT.sat_join (fun v => v.b 1 = true) (fun z hz => ?_) (fun z hz hZ => ?_)
  · simp only [TT.sat_ret, TT.sat_ite, TT.sat_ob, TT.sat_next, TT.sat_stuck, put_i, put_b, put_d, put_fi, put_fb, put_fd, Ob.ok, B.ev, E.ev, X.ev, AL.ev, cmp_t, cmp_f, arEv, V.plain, V2.plain, S.plain, S0.plain, V.val, V2.val, S.val, S0.val, bV, iV, List.all_cons, List.all_nil, Bool.and_true, Bool.and_self, envOf_i, envOf_b, envOf_d, List.map_cons, List.map_nil, true_and, Bool.not_eq_true', Bool.not_eq_false', Bool.not_not, Bool.and_eq_true, and_f, cell_lg, cell_lb, cell_lr, cmpP, val_i, val_b, val_d, aget, Nat.reduceBEq, beq_self_eq_true, Bool.false_eq_true, if_true, if_false, Nat.reduceLT, Nat.reduceSub, Nat.sub_self, Nat.lt_irrefl, eMvb, eMvi, eMvd, K81b120, K81i119, mvL_eq, hY, h1, h2, h4]
    simp
  simp only [TT.sat_ret, TT.sat_ite, TT.sat_ob, TT.sat_next, TT.sat_stuck, put_i, put_b, put_d, put_fi, put_fb, put_fd, Ob.ok, B.ev, E.ev, X.ev, AL.ev, cmp_t, cmp_f, arEv, V.plain, V2.plain, S.plain, S0.plain, V.val, V2.val, S.val, S0.val, bV, iV, List.all_cons, List.all_nil, Bool.and_true, Bool.and_self, envOf_i, envOf_b, envOf_d, List.map_cons, List.map_nil, true_and, Bool.not_eq_true', Bool.not_eq_false', Bool.not_not, Bool.and_eq_true, and_f, cell_lg, cell_lb, cell_lr, cmpP, val_i, val_b, val_d, aget, Nat.reduceBEq, beq_self_eq_true, Bool.false_eq_true, if_true, if_false, Nat.reduceLT, Nat.reduceSub, Nat.sub_self, Nat.lt_irrefl, eMvb, eMvi, eMvd, K81i85, K81i86, K81i87, K81i88, K81i89, mvL_eq, hZ, b1, b2, b3, b4, b5, b6]
  simp [cmpEv]
theorem gMovedLaw7 : Gives Try.prog 8 [feat, feat, pt, pt] (fun _ => .bool true) := by
  intro W vals ds hr
  by_cases h1 : iAt ds 1 = 3 ∨ iAt ds 1 = 6
  · by_cases h2 : iAt ds 10 = 3 ∨ iAt ds 10 = 6
    · exact gMvAA W vals ds hr ⟨h1, h2⟩
    · exact gMvAD W vals ds hr ⟨h1, h2⟩
  · by_cases h2 : iAt ds 10 = 3 ∨ iAt ds 10 = 6
    · exact gMvDA W vals ds hr ⟨h1, h2⟩
    · exact gMvDD W vals ds hr ⟨h1, h2⟩
end Go.Proofs.Ytglepdhapakmbaa
