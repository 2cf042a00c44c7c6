/- MV, merged: TEf, Ef, Eg, Gr, TEk, Ek, TEl, El, TEm, Em, TEh, Eh, En, TEs, Es. -/
import Derived.Test.YtcjaembdcfppfaaGreatMT
import Derived.Test.YtcjaembdcfppfaaGreatMK
import Derived.OwnWalk
import Derived.Maps.AppendAt
set_option linter.unusedSimpArgs false
set_option linter.unusedVariables false
/- Chapter 07: trees of feature.Holds, feature.Touch. -/
namespace Go.Proofs.YtcjaembdcfppfaaGreat
open Go.RowKit
def trFeTouch : TT OpR :=
(.ite (.not (.fn 76 (.i (.var 0) (.i (.var 1) (.i (.var 2) (.i (.var 3) (.i (.var 4) (.x (.var 5) (.i (.var 6) (.i (.var 7) (.x (.var 8) .nil)))))))))))
 (.ret ((.tup [(.one (.z (.bool (.lit false)))), (.one (.z (.int .i64 (.lit 1))))]), [], 2))
 (.ite (.not (.fn 76 (.i (.var 9) (.i (.var 10) (.i (.var 11) (.i (.var 12) (.i (.var 13) (.x (.var 14) (.i (.var 15) (.i (.var 16) (.x (.var 17) .nil)))))))))))
 (.ret ((.tup [(.one (.z (.bool (.lit false)))), (.one (.z (.int .i64 (.lit 1))))]), [], 2))
 (.ite (.cmp .eql (.var 1) (.lit 4))
 (.ite (.cmp .eql (.var 10) (.lit 4))
 (.ret ((.tup [(.one (.z (.bool (.lit false)))), (.one (.z (.int .i64 (.lit 0))))]), [], 5))
 (.ite (.cmp .eql (.var 10) (.lit 3))
 (.ite (.cmp .eql (.var 10) (.lit 3))
 (.ret ((.tup [(.one (.z (.bool (.lit false)))), (.one (.z (.int .i64 (.lit 0))))]), [], 5))
 (.ret ((.tup [(.one (.z (.bool (.lit false)))), (.one (.z (.int .i64 (.lit 0))))]), [], 5)))
 (.ite (.cmp .eql (.var 10) (.lit 6))
 (.ret ((.tup [(.one (.z (.bool (.lit false)))), (.one (.z (.int .i64 (.lit 0))))]), [], 5))
 (.ret ((.tup [(.one (.z (.bool (.lit false)))), (.one (.z (.int .i64 (.lit 0))))]), [], 5)))))
 (.ite (.cmp .eql (.var 1) (.lit 3))
 (.ite (.cmp .eql (.var 1) (.lit 3))
 (.ite (.cmp .eql (.var 10) (.lit 4))
 (.ret ((.tup [(.one (.z (.bool (.lit false)))), (.one (.z (.int .i64 (.lit 0))))]), [], 4))
 (.ite (.cmp .eql (.var 10) (.lit 3))
 (.ite (.cmp .eql (.var 10) (.lit 3))
 (.ite (.cmp .eql (.fn 112 (.x (.var 5) (.x (.var 14) .nil))) (.lit 0))
 (.ret ((.tup [(.one (.z (.bool (.fn 112 (.x (.var 5) (.x (.var 14) .nil)))))), (.one (.z (.int .i64 (.lit 0))))]), [], 4))
 (.ret ((.tup [(.one (.z (.bool (.lit false)))), (.one (.z (.int .i64 (.lit 0))))]), [], 4)))
 (.ite (.cmp .eql (.fn 114 (.x (.var 5) (.i (.var 11) (.i (.var 12) (.i (.var 13) .nil))))) (.lit 0))
 (.ret ((.tup [(.one (.z (.bool (.cmp .geq (.fn 113 (.x (.var 5) (.i (.var 11) (.i (.var 12) (.i (.var 13) .nil))))) (.lit 0))))), (.one (.z (.int .i64 (.lit 0))))]), [], 5))
 (.ret ((.tup [(.one (.z (.bool (.lit false)))), (.one (.z (.int .i64 (.lit 0))))]), [], 5))))
 (.ite (.cmp .eql (.var 10) (.lit 6))
 (.ite (.cmp .eql (.fn 112 (.x (.var 5) (.x (.var 14) .nil))) (.lit 0))
 (.ret ((.tup [(.one (.z (.bool (.fn 112 (.x (.var 5) (.x (.var 14) .nil)))))), (.one (.z (.int .i64 (.lit 0))))]), [], 4))
 (.ret ((.tup [(.one (.z (.bool (.lit false)))), (.one (.z (.int .i64 (.lit 0))))]), [], 4)))
 (.ite (.cmp .eql (.fn 114 (.x (.var 5) (.i (.var 11) (.i (.var 12) (.i (.var 13) .nil))))) (.lit 0))
 (.ret ((.tup [(.one (.z (.bool (.cmp .geq (.fn 113 (.x (.var 5) (.i (.var 11) (.i (.var 12) (.i (.var 13) .nil))))) (.lit 0))))), (.one (.z (.int .i64 (.lit 0))))]), [], 5))
 (.ret ((.tup [(.one (.z (.bool (.lit false)))), (.one (.z (.int .i64 (.lit 0))))]), [], 5))))))
 (.ite (.cmp .eql (.var 10) (.lit 4))
 (.ret ((.tup [(.one (.z (.bool (.lit false)))), (.one (.z (.int .i64 (.lit 0))))]), [], 5))
 (.ite (.cmp .eql (.var 10) (.lit 3))
 (.ite (.cmp .eql (.var 10) (.lit 3))
 (.ite (.cmp .eql (.fn 114 (.x (.var 14) (.i (.var 2) (.i (.var 3) (.i (.var 4) .nil))))) (.lit 0))
 (.ret ((.tup [(.one (.z (.bool (.cmp .geq (.fn 113 (.x (.var 14) (.i (.var 2) (.i (.var 3) (.i (.var 4) .nil))))) (.lit 0))))), (.one (.z (.int .i64 (.lit 0))))]), [], 6))
 (.ret ((.tup [(.one (.z (.bool (.lit false)))), (.one (.z (.int .i64 (.lit 0))))]), [], 6)))
 (.ite (.cmp .eql (.fn 13 (.i (.var 11) (.i (.var 12) (.i (.var 2) (.i (.var 3) (.i (.var 2) (.i (.var 3) (.i (.ar .add .i64 (.var 13) (.var 4)) .nil)))))))) (.lit 0))
 (.ret ((.tup [(.one (.z (.bool (.fn 7 (.i (.var 11) (.i (.var 12) (.i (.var 2) (.i (.var 3) (.i (.var 2) (.i (.var 3) (.i (.ar .add .i64 (.var 13) (.var 4)) .nil))))))))))), (.one (.z (.int .i64 (.lit 0))))]), [], 6))
 (.ret ((.tup [(.one (.z (.bool (.lit false)))), (.one (.z (.int .i64 (.lit 0))))]), [], 6))))
 (.ite (.cmp .eql (.var 10) (.lit 6))
 (.ite (.cmp .eql (.fn 114 (.x (.var 14) (.i (.var 2) (.i (.var 3) (.i (.var 4) .nil))))) (.lit 0))
 (.ret ((.tup [(.one (.z (.bool (.cmp .geq (.fn 113 (.x (.var 14) (.i (.var 2) (.i (.var 3) (.i (.var 4) .nil))))) (.lit 0))))), (.one (.z (.int .i64 (.lit 0))))]), [], 6))
 (.ret ((.tup [(.one (.z (.bool (.lit false)))), (.one (.z (.int .i64 (.lit 0))))]), [], 6)))
 (.ite (.cmp .eql (.fn 13 (.i (.var 11) (.i (.var 12) (.i (.var 2) (.i (.var 3) (.i (.var 2) (.i (.var 3) (.i (.ar .add .i64 (.var 13) (.var 4)) .nil)))))))) (.lit 0))
 (.ret ((.tup [(.one (.z (.bool (.fn 7 (.i (.var 11) (.i (.var 12) (.i (.var 2) (.i (.var 3) (.i (.var 2) (.i (.var 3) (.i (.ar .add .i64 (.var 13) (.var 4)) .nil))))))))))), (.one (.z (.int .i64 (.lit 0))))]), [], 6))
 (.ret ((.tup [(.one (.z (.bool (.lit false)))), (.one (.z (.int .i64 (.lit 0))))]), [], 6)))))))
 (.ite (.cmp .eql (.var 1) (.lit 6))
 (.ite (.cmp .eql (.var 10) (.lit 4))
 (.ret ((.tup [(.one (.z (.bool (.lit false)))), (.one (.z (.int .i64 (.lit 0))))]), [], 4))
 (.ite (.cmp .eql (.var 10) (.lit 3))
 (.ite (.cmp .eql (.var 10) (.lit 3))
 (.ite (.cmp .eql (.fn 112 (.x (.var 5) (.x (.var 14) .nil))) (.lit 0))
 (.ret ((.tup [(.one (.z (.bool (.fn 112 (.x (.var 5) (.x (.var 14) .nil)))))), (.one (.z (.int .i64 (.lit 0))))]), [], 4))
 (.ret ((.tup [(.one (.z (.bool (.lit false)))), (.one (.z (.int .i64 (.lit 0))))]), [], 4)))
 (.ite (.cmp .eql (.fn 114 (.x (.var 5) (.i (.var 11) (.i (.var 12) (.i (.var 13) .nil))))) (.lit 0))
 (.ret ((.tup [(.one (.z (.bool (.cmp .geq (.fn 113 (.x (.var 5) (.i (.var 11) (.i (.var 12) (.i (.var 13) .nil))))) (.lit 0))))), (.one (.z (.int .i64 (.lit 0))))]), [], 5))
 (.ret ((.tup [(.one (.z (.bool (.lit false)))), (.one (.z (.int .i64 (.lit 0))))]), [], 5))))
 (.ite (.cmp .eql (.var 10) (.lit 6))
 (.ite (.cmp .eql (.fn 112 (.x (.var 5) (.x (.var 14) .nil))) (.lit 0))
 (.ret ((.tup [(.one (.z (.bool (.fn 112 (.x (.var 5) (.x (.var 14) .nil)))))), (.one (.z (.int .i64 (.lit 0))))]), [], 4))
 (.ret ((.tup [(.one (.z (.bool (.lit false)))), (.one (.z (.int .i64 (.lit 0))))]), [], 4)))
 (.ite (.cmp .eql (.fn 114 (.x (.var 5) (.i (.var 11) (.i (.var 12) (.i (.var 13) .nil))))) (.lit 0))
 (.ret ((.tup [(.one (.z (.bool (.cmp .geq (.fn 113 (.x (.var 5) (.i (.var 11) (.i (.var 12) (.i (.var 13) .nil))))) (.lit 0))))), (.one (.z (.int .i64 (.lit 0))))]), [], 5))
 (.ret ((.tup [(.one (.z (.bool (.lit false)))), (.one (.z (.int .i64 (.lit 0))))]), [], 5))))))
 (.ite (.cmp .eql (.var 10) (.lit 4))
 (.ret ((.tup [(.one (.z (.bool (.lit false)))), (.one (.z (.int .i64 (.lit 0))))]), [], 5))
 (.ite (.cmp .eql (.var 10) (.lit 3))
 (.ite (.cmp .eql (.var 10) (.lit 3))
 (.ite (.cmp .eql (.fn 114 (.x (.var 14) (.i (.var 2) (.i (.var 3) (.i (.var 4) .nil))))) (.lit 0))
 (.ret ((.tup [(.one (.z (.bool (.cmp .geq (.fn 113 (.x (.var 14) (.i (.var 2) (.i (.var 3) (.i (.var 4) .nil))))) (.lit 0))))), (.one (.z (.int .i64 (.lit 0))))]), [], 6))
 (.ret ((.tup [(.one (.z (.bool (.lit false)))), (.one (.z (.int .i64 (.lit 0))))]), [], 6)))
 (.ite (.cmp .eql (.fn 13 (.i (.var 11) (.i (.var 12) (.i (.var 2) (.i (.var 3) (.i (.var 2) (.i (.var 3) (.i (.ar .add .i64 (.var 13) (.var 4)) .nil)))))))) (.lit 0))
 (.ret ((.tup [(.one (.z (.bool (.fn 7 (.i (.var 11) (.i (.var 12) (.i (.var 2) (.i (.var 3) (.i (.var 2) (.i (.var 3) (.i (.ar .add .i64 (.var 13) (.var 4)) .nil))))))))))), (.one (.z (.int .i64 (.lit 0))))]), [], 6))
 (.ret ((.tup [(.one (.z (.bool (.lit false)))), (.one (.z (.int .i64 (.lit 0))))]), [], 6))))
 (.ite (.cmp .eql (.var 10) (.lit 6))
 (.ite (.cmp .eql (.fn 114 (.x (.var 14) (.i (.var 2) (.i (.var 3) (.i (.var 4) .nil))))) (.lit 0))
 (.ret ((.tup [(.one (.z (.bool (.cmp .geq (.fn 113 (.x (.var 14) (.i (.var 2) (.i (.var 3) (.i (.var 4) .nil))))) (.lit 0))))), (.one (.z (.int .i64 (.lit 0))))]), [], 6))
 (.ret ((.tup [(.one (.z (.bool (.lit false)))), (.one (.z (.int .i64 (.lit 0))))]), [], 6)))
 (.ite (.cmp .eql (.fn 13 (.i (.var 11) (.i (.var 12) (.i (.var 2) (.i (.var 3) (.i (.var 2) (.i (.var 3) (.i (.ar .add .i64 (.var 13) (.var 4)) .nil)))))))) (.lit 0))
 (.ret ((.tup [(.one (.z (.bool (.fn 7 (.i (.var 11) (.i (.var 12) (.i (.var 2) (.i (.var 3) (.i (.var 2) (.i (.var 3) (.i (.ar .add .i64 (.var 13) (.var 4)) .nil))))))))))), (.one (.z (.int .i64 (.lit 0))))]), [], 6))
 (.ret ((.tup [(.one (.z (.bool (.lit false)))), (.one (.z (.int .i64 (.lit 0))))]), [], 6)))))))))))
-- end trFeTouch
set_option maxRecDepth 100000 in
theorem trFeTouch_is : T.norm 0 (call Tryz.prog ctE5 (Lt.of []) 100 35 (symArgs 0 [feat, feat]) [] 0) TT.ret = trFeTouch := by kernel_rfl
theorem trFeTouch_low : trFeTouch.low 1000 = true := by kernel_rfl
end Go.Proofs.YtcjaembdcfppfaaGreat
/- Chapter 07: feature.Holds, feature.Touch. -/
namespace Go.Proofs.YtcjaembdcfppfaaGreat
open Go.RowKit
def allD (a : Rows) (x y r : Int) : Nat → Nat → Bool
  | 0, _ => true
  | f + 1, i => nearB (lg a i 0) (lg a i 1) x y x y r && allD a x y r f (i + 1)
def holdX (k1 x1 y1 r1 : Int) (a1 : Rows) (k2 x2 y2 r2 : Int) (a2 : Rows) : Bool :=
  if k1 = 4 then decide (k2 = 4)
  else if k1 = 3 ∨ k1 = 6 then (if k2 = 4 then true else if k2 = 3 ∨ k2 = 6 then hoX a1 a2 else decide (disX a1 x2 y2 r2 = 1))
  else (if k2 = 4 then true else if k2 = 3 ∨ k2 = 6 then allD a2 x1 y1 r1 a2.length 0 else liesB x2 y2 r2 x1 y1 r1)
def touchX (k1 x1 y1 r1 : Int) (a1 : Rows) (k2 x2 y2 r2 : Int) (a2 : Rows) : Bool :=
  if k1 = 4 ∨ k2 = 4 then false
  else if k1 = 3 ∨ k1 = 6 then (if k2 = 3 ∨ k2 = 6 then touX a1 a2 else decide (0 ≤ disX a1 x2 y2 r2))
  else (if k2 = 3 ∨ k2 = 6 then decide (0 ≤ disX a2 x1 y1 r1) else nearB x2 y2 x1 y1 x1 y1 (r2 + r1))
def two9 (ds : List D) : Bool := featB (iAt ds 0) (iAt ds 1) (iAt ds 2) (iAt ds 3) (iAt ds 4) (rAt ds 5) (iAt ds 6) (iAt ds 7) (rAt ds 8) && featB (iAt ds 9) (iAt ds 10) (iAt ds 11) (iAt ds 12) (iAt ds 13) (rAt ds 14) (iAt ds 15) (iAt ds 16) (rAt ds 17)
def feE (ds : List D) : Int := if two9 ds then 0 else 1
def feHoR (ds : List D) : Bool := two9 ds && holdX (iAt ds 1) (iAt ds 2) (iAt ds 3) (iAt ds 4) (rAt ds 5) (iAt ds 10) (iAt ds 11) (iAt ds 12) (iAt ds 13) (rAt ds 14)
def feToR (ds : List D) : Bool := two9 ds && touchX (iAt ds 1) (iAt ds 2) (iAt ds 3) (iAt ds 4) (rAt ds 5) (iAt ds 10) (iAt ds 11) (iAt ds 12) (iAt ds 13) (rAt ds 14)
theorem K75b76 (W : World) (ds l : List D) : (envOf K75 W ds).fb 76 l = featL l := by simp only [envOf, K75, K74, K73, K72, K71, KI, KH, KG, KF]
theorem K75b112 (W : World) (ds l : List D) : (envOf K75 W ds).fb 112 l = touR l := by simp only [envOf, K75, K74, K73, K72]
theorem K75i112 (W : World) (ds l : List D) : (envOf K75 W ds).fi 112 l = touE l := by simp only [envOf, K75, K74, K73, K72]
theorem K75i113 (W : World) (ds l : List D) : (envOf K75 W ds).fi 113 l = disR l := by simp only [envOf, K75, K74, K73, K72]
theorem K75i114 (W : World) (ds l : List D) : (envOf K75 W ds).fi 114 l = disE l := by simp only [envOf, K75, K74, K73, K72]
theorem K75b7 (W : World) (ds l : List D) : (envOf K75 W ds).fb 7 l = nearR l := by simp only [envOf, K75, K74, K73, K72, K71, KI, KH, KG, KF, KE, KD, KC, KB, KA, K9, K8, K7, K6, K5, K]
theorem K75i13 (W : World) (ds l : List D) : (envOf K75 W ds).fi 13 l = nearE l := by simp only [envOf, K75, K74, K73, K72, K71, KI, KH, KG, KF, KE, KD, KC, KB, KA, K9, K8, K7, K6, K5, K]
section
variable {id1 k1 x1 y1 r1 d1 s1 id2 k2 x2 y2 r2 d2 s2 : Int} {a1 t1 a2 t2 : Rows}
theorem feat_area (h : featB id1 k1 x1 y1 r1 a1 d1 s1 t1 = true) (hk : k1 = 3 ∨ k1 = 6) : polyB a1 = true := by
  have := (featB_iff.mp h).2.2.2.2
  rcases this with q | q | q
  · omega
  · exact q.2.1
  · omega
theorem feat_disc (h : featB id1 k1 x1 y1 r1 a1 d1 s1 t1 = true) (h3 : k1 ≠ 3) (h6 : k1 ≠ 6) : placeB x1 y1 = true ∧ 0 ≤ r1 ∧ r1 ≤ 100000 := by
  obtain ⟨_, _, _, hr, this⟩ := featB_iff.mp h
  rcases this with q | q | q
  · exact ⟨q.2.1, hr⟩
  · omega
  · exact ⟨q.2.1, hr⟩
theorem ho_two (h1 : polyB a1 = true) (h2 : polyB a2 = true) : hoR [.l a1, .l a2] = hoX a1 a2 ∧ touR [.l a1, .l a2] = touX a1 a2 ∧ touE [.l a1, .l a2] = 0 := by
  have : touO [.l a1, .l a2] = true := by show (polyB a1 && polyB a2) = true; rw [h1, h2]; rfl
  unfold hoR touR touE
  rw [this]
  exact ⟨rfl, rfl, rfl⟩
theorem dis_two (h1 : polyB a1 = true) (h2 : placeB x2 y2 = true) (hr : 0 ≤ r2 ∧ r2 ≤ 3000000) : disR [.l a1, .i x2, .i y2, .i r2] = disX a1 x2 y2 r2 ∧ disE [.l a1, .i x2, .i y2, .i r2] = 0 := by
  have : disO [.l a1, .i x2, .i y2, .i r2] = true := by
    show (polyB a1 && placeB x2 y2 && distB r2) = true
    rw [h1, h2, distB, decide_eq_true hr]; rfl
  unfold disR disE
  rw [this]
  exact ⟨rfl, rfl⟩
theorem near_two (h1 : placeB x1 y1 = true) (h2 : placeB x2 y2 = true) {r : Int} (hr : 0 ≤ r ∧ r ≤ 3000000) : nearR [.i x2, .i y2, .i x1, .i y1, .i x1, .i y1, .i r] = nearB x2 y2 x1 y1 x1 y1 r ∧ nearE [.i x2, .i y2, .i x1, .i y1, .i x1, .i y1, .i r] = 0 :=
  ⟨(nearR_eq h2 h1 h1 hr).1, (nearR_eq h2 h1 h1 hr).2⟩
end
end Go.Proofs.YtcjaembdcfppfaaGreat
/- Chapter 07: contracts of feature.Holds and feature.Touch. -/
namespace Go.Proofs.YtcjaembdcfppfaaGreat
open Go.RowKit
set_option maxHeartbeats 4000000 in
theorem gFeTouch : Gives Tryz.prog 35 [feat, feat] (fun ds => .tuple #[.bool (feToR ds), .int .i64 (feE ds)]) := by
  refine GivesIf.all (fn_gives K75 (by kernel_rfl) (fun ρ h => ctE5_ok (Sees.of h 119)) (by kernel_rfl) trFeTouch_is trFeTouch_low (by decide) (fun W vals ds hr _ => ?_))
  simp only [trFeTouch, TT.sat_ret, TT.sat_ite, TT.sat_ob, TT.sat_next, TT.sat_stuck, put_i, put_b, put_d, put_fi, put_fb, put_fd, Ob.ok, B.ev, E.ev, X.ev, AL.ev, cmp_t, cmp_f, arEv, V.plain, V2.plain, S.plain, S0.plain, V.val, V2.val, S.val, S0.val, bV, iV, List.all_cons, List.all_nil, Bool.and_true, Bool.and_self, envOf_i, envOf_b, envOf_d, List.map_cons, List.map_nil, true_and, Bool.not_eq_true', Bool.not_eq_false', Bool.not_not, Bool.and_eq_true, and_f, cell_lg, cell_lb, cell_lr, cmpP, val_i, val_b, val_d, aget, Nat.reduceBEq, beq_self_eq_true, Bool.false_eq_true, if_true, if_false, Nat.reduceLT, Nat.reduceSub, Nat.sub_self, Nat.lt_irrefl, K75b76, K75b112, K75i112, K75i113, K75i114, K75i13, K75b7, feat_nine]
  have F : two9 ds = false → Value.tuple #[.bool false, .int .i64 1] = Value.tuple #[.bool (feToR ds), .int .i64 (feE ds)] := fun h => by simp [feToR, feE, h]
  have T : ∀ b, two9 ds = true → touchX (iAt ds 1) (iAt ds 2) (iAt ds 3) (iAt ds 4) (rAt ds 5) (iAt ds 10) (iAt ds 11) (iAt ds 12) (iAt ds 13) (rAt ds 14) = b → Value.tuple #[.bool b, .int .i64 0] = Value.tuple #[.bool (feToR ds), .int .i64 (feE ds)] := fun b h h' => by simp [feToR, feE, h, h']
  refine ⟨fun h => F (by simp only [two9, h, Bool.false_and]), fun f1 => ⟨fun h => F (by simp only [two9, h, Bool.and_false]), fun f2 => ?_⟩⟩
  have hO : two9 ds = true := by simp only [two9, f1, f2, Bool.and_self]
  replace T := fun b => T b hO
  clear F hr hO
  generalize iAt ds 1 = k1 at *
  generalize iAt ds 2 = x1 at *
  generalize iAt ds 3 = y1 at *
  generalize iAt ds 4 = r1 at *
  generalize rAt ds 5 = a1 at *
  generalize iAt ds 10 = k2 at *
  generalize iAt ds 11 = x2 at *
  generalize iAt ds 12 = y2 at *
  generalize iAt ds 13 = r2 at *
  generalize rAt ds 14 = a2 at *
  have A1 := feat_area f1
  have A2 := feat_area f2
  have D1 := feat_disc f1
  have D2 := feat_disc f2
  have H4 : (k1 = 4 ∨ k2 = 4) → touchX k1 x1 y1 r1 a1 k2 x2 y2 r2 a2 = false := fun h => by unfold touchX; rw [if_pos h]
  have HAA : (k1 = 3 ∨ k1 = 6) → (k2 = 3 ∨ k2 = 6) → touchX k1 x1 y1 r1 a1 k2 x2 y2 r2 a2 = touX a1 a2 := fun h h' => by unfold touchX; rw [if_neg (by omega), if_pos h, if_pos h']
  have HAD : (k1 = 3 ∨ k1 = 6) → k2 ≠ 3 → k2 ≠ 6 → k2 ≠ 4 → touchX k1 x1 y1 r1 a1 k2 x2 y2 r2 a2 = cmpEv BinOp.geq (disX a1 x2 y2 r2) 0 := fun h h1 h2 h3 => by
    unfold touchX; rw [if_neg (by omega), if_pos h, if_neg (by omega), Bool.eq_iff_iff, cmp_t]; simp only [cmpP, decide_eq_true_eq, ge_iff_le]
  have HDA : k1 ≠ 3 → k1 ≠ 6 → k1 ≠ 4 → (k2 = 3 ∨ k2 = 6) → touchX k1 x1 y1 r1 a1 k2 x2 y2 r2 a2 = cmpEv BinOp.geq (disX a2 x1 y1 r1) 0 := fun h1 h2 h3 h => by
    unfold touchX; rw [if_neg (by omega), if_neg (by omega), if_pos h, Bool.eq_iff_iff, cmp_t]; simp only [cmpP, decide_eq_true_eq, ge_iff_le]
  have HDD : k1 ≠ 3 → k1 ≠ 6 → k1 ≠ 4 → k2 ≠ 3 → k2 ≠ 6 → k2 ≠ 4 → touchX k1 x1 y1 r1 a1 k2 x2 y2 r2 a2 = nearB x2 y2 x1 y1 x1 y1 (r2 + r1) := fun h1 h2 h3 h4 h5 h6 => by unfold touchX; rw [if_neg (by omega), if_neg (by omega), if_neg (by omega)]
  have EAA : (k1 = 3 ∨ k1 = 6) → (k2 = 3 ∨ k2 = 6) → touR [.l a1, .l a2] = touX a1 a2 ∧ touE [.l a1, .l a2] = 0 := fun h h' => (ho_two (A1 h) (A2 h')).2
  have EAD : (k1 = 3 ∨ k1 = 6) → k2 ≠ 3 → k2 ≠ 6 → disR [.l a1, .i x2, .i y2, .i r2] = disX a1 x2 y2 r2 ∧ disE [.l a1, .i x2, .i y2, .i r2] = 0 := fun h h1 h2 => dis_two (A1 h) (D2 h1 h2).1 (by have := (D2 h1 h2).2; omega)
  have EDA : k1 ≠ 3 → k1 ≠ 6 → (k2 = 3 ∨ k2 = 6) → disR [.l a2, .i x1, .i y1, .i r1] = disX a2 x1 y1 r1 ∧ disE [.l a2, .i x1, .i y1, .i r1] = 0 := fun h1 h2 h => dis_two (A2 h) (D1 h1 h2).1 (by have := (D1 h1 h2).2; omega)
  have EDD : k1 ≠ 3 → k1 ≠ 6 → k2 ≠ 3 → k2 ≠ 6 → nearR [.i x2, .i y2, .i x1, .i y1, .i x1, .i y1, .i (IntKind.i64.wrap (r2 + r1))] = nearB x2 y2 x1 y1 x1 y1 (r2 + r1) ∧ nearE [.i x2, .i y2, .i x1, .i y1, .i x1, .i y1, .i (IntKind.i64.wrap (r2 + r1))] = 0 := fun h1 h2 h3 h4 => by
    have q1 := (D1 h1 h2).2
    have q2 := (D2 h3 h4).2
    rw [wrap_in (r2 + r1) (by omega) (by omega)]
    exact near_two (D1 h1 h2).1 (D2 h3 h4).1 (by omega)
  clear A1 A2 D1 D2 f1 f2
  repeat' (first | (intro h; skip) | (refine And.intro ?_ ?_))
  all_goals first
    | omega
    | exact T _ (H4 (by omega))
    | (rw [(EAA (by omega) (by omega)).1]; exact T _ (HAA (by omega) (by omega)))
    | (exact absurd (EAA (by omega) (by omega)).2 (by assumption))
    | (rw [(EAD (by omega) (by omega) (by omega)).1]; exact T _ (HAD (by omega) (by omega) (by omega) (by omega)))
    | (exact absurd (EAD (by omega) (by omega) (by omega)).2 (by assumption))
    | (rw [(EDA (by omega) (by omega) (by omega)).1]; exact T _ (HDA (by omega) (by omega) (by omega) (by omega)))
    | (exact absurd (EDA (by omega) (by omega) (by omega)).2 (by assumption))
    | (rw [(EDD (by omega) (by omega) (by omega) (by omega)).1]; exact T _ (HDD (by omega) (by omega) (by omega) (by omega) (by omega) (by omega)))
    | (exact absurd (EDD (by omega) (by omega) (by omega) (by omega)).2 (by assumption))
def K76 : Interp where
  fi n l := match n with | 119 => feE l | n => K75.fi n l
  fb n l := match n with | 119 => feHoR l | 120 => feToR l | n => K75.fb n l
  fd _ _ := []
theorem K76_K75 {ρ : Env} (h : Sees ρ K76 122) : Sees ρ K75 119 := h.trans (by decide) fun n l hn => by
  refine ⟨?_, ?_⟩
  ·
    simp only [K76]
    split <;> first | omega | rfl
  ·
    simp only [K76]
    split <;> first | omega | rfl
def cFeTouch := ctD [feat, feat] fun al => .ret (.tup [.one (sBF 120 feToR al), .one (sIF 119 feE al)])
theorem cFeTouch_ok {ρ : Env} (h : Sees ρ K76 122) : CtOne Tryz.prog ρ 35 cFeTouch :=
  ctD_ok gFeTouch (fun _ => rfl) (fun al => by simp only [V.val, V2.val, S.val, S0.val, sIF, sBF, List.map_cons, List.map_nil, bF_ev (s := 120) (f := feToR) (fun l => by rw [(h 120 l (by decide)).2]; simp only [K76]), iF_ev (s := 119) (f := feE) (fun l => by rw [(h 119 l (by decide)).1]; simp only [K76])]; try rfl)
def ctE6 : Ct := (35, cFeTouch) :: ctE5
theorem ctE6_ok {ρ : Env} (h : Sees ρ K76 122) : CtOk Tryz.prog ρ ctE6 := .cons (cFeTouch_ok h) (ctE5_ok (K76_K75 h))
end Go.Proofs.YtcjaembdcfppfaaGreat
/- Chapter 07: slices.Grow of a nil list of sectors. -/
namespace Go.Proofs.YtcjaembdcfppfaaGreat
open Go.RowKit
end Go.Proofs.YtcjaembdcfppfaaGreat
/- Chapter 07: the tree of sector.shown. -/
namespace Go.Proofs.YtcjaembdcfppfaaGreat
open Go.RowKit
def ctE8 : Ct := ctE6
end Go.Proofs.YtcjaembdcfppfaaGreat
/- Chapter 07: sector.shown. -/
namespace Go.Proofs.YtcjaembdcfppfaaGreat
open Go.RowKit
def shI (r : Rows) (x y : Int) : Nat → Nat → Nat
  | 0, i => i
  | f + 1, i => if hasB (lg r i 0) (lg r i 1) (lg r i 2) (lg r i 3) x y = true then i else shI r x y f (i + 1)
def shC (r : Rows) (x y : Int) : Int := if shI r x y r.length 0 < r.length then lg r (shI r x y r.length 0) 4 else 0
def shR (r : Rows) (x y : Int) : Int := if shI r x y r.length 0 < r.length then lg r (shI r x y r.length 0) 5 else 0
def shCL (ds : List D) : Int := shC (rAt ds 0) (iAt ds 1) (iAt ds 2)
def shRL (ds : List D) : Int := shR (rAt ds 0) (iAt ds 1) (iAt ds 2)
theorem ctE8_ok {ρ : Env} (h : Sees ρ K76 122) : CtOk Tryz.prog ρ ctE8 := (ctE6_ok h)
def K77 : Interp where
  fi n l := match n with | 122 => shCL l | 123 => shRL l | n => K76.fi n l
  fb n l := K76.fb n l
  fd _ _ := []
theorem K77_K76 {ρ : Env} (h : Sees ρ K77 126) : Sees ρ K76 122 := h.trans (by decide) fun n l hn => by
  refine ⟨?_, ?_⟩
  ·
    simp only [K77]
    split <;> first | omega | rfl
  ·
    rfl
def ctE9 : Ct := ctE8
theorem ctE9_ok {ρ : Env} (h : Sees ρ K77 126) : CtOk Tryz.prog ρ ctE9 := (ctE8_ok (K77_K76 h))
end Go.Proofs.YtcjaembdcfppfaaGreat
/- Chapter 07: the tree of sector.Safer. -/
namespace Go.Proofs.YtcjaembdcfppfaaGreat
open Go.RowKit
end Go.Proofs.YtcjaembdcfppfaaGreat
/- Chapter 07: sector.Safer. -/
namespace Go.Proofs.YtcjaembdcfppfaaGreat
open Go.RowKit
def wrD (x y : Rows) (dx dy : Int) : Bool := decide (shC x dx dy = 1) && (decide (¬ shC y dx dy = 1) || decide (shR y dx dy < shR x dx dy))
def sfN (x y l : Rows) : Nat → Nat → Bool
  | 0, _ => false
  | f + 1, i => wrD x y (lg l i 0) (lg l i 1) || (wrD x y (lg l i 2) (lg l i 3) || sfN x y l f (i + 1))
def saferX (a b : Rows) : Bool := sfN b a (b ++ a) (b ++ a).length 0
def saO (ds : List D) : Bool := secsB (rAt ds 0) && secsB (rAt ds 1)
def saR (ds : List D) : Bool := saO ds && saferX (rAt ds 0) (rAt ds 1)
def saE (ds : List D) : Int := if saO ds then 0 else 1
def K78 : Interp where
  fi n l := match n with | 126 => saE l | n => K77.fi n l
  fb n l := match n with | 126 => saR l | n => K77.fb n l
  fd _ _ := []
theorem K78_K77 {ρ : Env} (h : Sees ρ K78 128) : Sees ρ K77 126 := h.trans (by decide) fun n l hn => by
  refine ⟨?_, ?_⟩
  ·
    simp only [K78]
    split <;> first | omega | rfl
  ·
    simp only [K78]
    split <;> first | omega | rfl
def ctE10 : Ct := ctE9
theorem ctE10_ok {ρ : Env} (h : Sees ρ K78 128) : CtOk Tryz.prog ρ ctE10 := (ctE9_ok (K78_K77 h))
end Go.Proofs.YtcjaembdcfppfaaGreat
/- Chapter 07: trees of feature.Stands, feature.Same. -/
namespace Go.Proofs.YtcjaembdcfppfaaGreat
open Go.RowKit
end Go.Proofs.YtcjaembdcfppfaaGreat
/- Chapter 07: feature.Stands, feature.Same. -/
namespace Go.Proofs.YtcjaembdcfppfaaGreat
open Go.RowKit
def standX (k2 x2 y2 r2 : Int) (a2 : Rows) (d2 : Int) (t2 : Rows) (k1 x1 y1 r1 : Int) (a1 : Rows) (d1 : Int) (t1 : Rows) : Bool :=
  if k2 ≠ 4 then decide (d1 ≤ d2) && holdX k1 x1 y1 r1 a1 k2 x2 y2 r2 a2
  else decide (k1 = 4 ∧ x1 = x2 ∧ y1 = y2) && !saferX t2 t1
def feStR (ds : List D) : Bool := two9 ds && standX (iAt ds 1) (iAt ds 2) (iAt ds 3) (iAt ds 4) (rAt ds 5) (iAt ds 6) (rAt ds 8) (iAt ds 10) (iAt ds 11) (iAt ds 12) (iAt ds 13) (rAt ds 14) (iAt ds 15) (rAt ds 17)
end Go.Proofs.YtcjaembdcfppfaaGreat
/- Chapter 07: the tree of the laws' head. -/
namespace Go.Proofs.YtcjaembdcfppfaaGreat
open Go.RowKit
end Go.Proofs.YtcjaembdcfppfaaGreat
/- Chapter 07: the laws' head is true. -/
namespace Go.Proofs.YtcjaembdcfppfaaGreat
open Go.RowKit
end Go.Proofs.YtcjaembdcfppfaaGreat
/- Chapter 07: feature.Same. -/
namespace Go.Proofs.YtcjaembdcfppfaaGreat
open Go.RowKit
def eqC (r s : Rows) (i : Nat) : Nat → Bool
  | 0 => true
  | c + 1 => eqC r s i c && decide (lg r i c = lg s i c)
def eqN (c : Nat) (r s : Rows) : Nat → Nat → Bool
  | 0, _ => true
  | f + 1, i => eqC r s i c && eqN c r s f (i + 1)
def eqX (c : Nat) (r s : Rows) : Bool := decide (r.length = s.length) && eqN c r s r.length 0
def sameB (i1 k1 x1 y1 r1 : Int) (a1 : Rows) (d1 s1 : Int) (t1 : Rows) (i2 k2 x2 y2 r2 : Int) (a2 : Rows) (d2 s2 : Int) (t2 : Rows) : Bool :=
  decide ((i1 = i2 ∧ k1 = k2 ∧ x1 = x2 ∧ y1 = y2) ∧ r1 = r2 ∧ d1 = d2 ∧ s1 = s2) && (eqX 2 a1 a2 && eqX 6 t1 t2)
def sameL (ds : List D) : Bool := sameB (iAt ds 0) (iAt ds 1) (iAt ds 2) (iAt ds 3) (iAt ds 4) (rAt ds 5) (iAt ds 6) (iAt ds 7) (rAt ds 8) (iAt ds 9) (iAt ds 10) (iAt ds 11) (iAt ds 12) (iAt ds 13) (rAt ds 14) (iAt ds 15) (iAt ds 16) (rAt ds 17)
def K79 : Interp where
  fi n l := K78.fi n l
  fb n l := match n with | 128 => feStR l | 129 => sameL l | n => K78.fb n l
  fd _ _ := []
theorem K79_K78 {ρ : Env} (h : Sees ρ K79 132) : Sees ρ K78 128 := h.trans (by decide) fun n l hn => by
  refine ⟨?_, ?_⟩
  ·
    rfl
  ·
    simp only [K79]
    split <;> first | omega | rfl
def ctE11 : Ct := ctE10
theorem ctE11_ok {ρ : Env} (h : Sees ρ K79 132) : CtOk Tryz.prog ρ ctE11 := (ctE10_ok (K79_K78 h))
end Go.Proofs.YtcjaembdcfppfaaGreat
/- Chapter 07: the tree of feature.Shown. -/
namespace Go.Proofs.YtcjaembdcfppfaaGreat
open Go.RowKit
def featK : List CK := [.int .i64, .int .i64, .int .i64, .int .i64, .int .i64, .sl ptK, .int .i64, .int .i64, .sl secK]
def feats : Sh := .one (.sl featK)
-- term trList: call Tryz.prog ctE11 (Lt.of []) 100 32 (symArgs 0 [feats]) [] 0
def trList : TT OpR :=
(.loop 0 1000 ⟨[(0, (.lit 0)), (1, (.lit 0))], [], []⟩
 (.ite (.cmp .lss (.var 1001) (.len (.var 0)))
 (.ob (.tru (.cmp .leq (.lit 0) (.var 1001)))
 (.ob (.tru (.cmp .lss (.var 1001) (.len (.var 0))))
 (.ite (.not (.fn 76 (.i (.rd (.var 0) (.var 1001) 0) (.i (.rd (.var 0) (.var 1001) 1) (.i (.rd (.var 0) (.var 1001) 2) (.i (.rd (.var 0) (.var 1001) 3) (.i (.rd (.var 0) (.var 1001) 4) (.x (.rd (.var 0) (.var 1001) 5) (.i (.rd (.var 0) (.var 1001) 6) (.i (.rd (.var 0) (.var 1001) 7) (.x (.rd (.var 0) (.var 1001) 8) .nil)))))))))))
 (.ret ((.v (.one (.z (.bool (.lit false))))), [], 2))
 (.ite (.cmp .leq (.rd (.var 0) (.var 1001) 0) (.var 1000))
 (.ret ((.v (.one (.z (.bool (.lit false))))), [], 2))
 (.next 0 ⟨[(0, (.rd (.var 0) (.var 1001) 0)), (1, (.ar .add .i64 (.var 1001) (.lit 1)))], [], []⟩)))))
 (.ret ((.v (.one (.z (.bool (.cmp .leq (.len (.var 0)) (.lit 300)))))), [], 2))))
-- end trList
def trFeShown : TT OpR :=
(.loop 0 2000 ⟨[(0, (.lit 0)), (1, (.lit 0))], [], []⟩
 (.ite (.cmp .lss (.var 2001) (.len (.var 0)))
 (.ob (.tru (.cmp .leq (.lit 0) (.var 2001)))
 (.ob (.tru (.cmp .lss (.var 2001) (.len (.var 0))))
 (.ite (.not (.fn 76 (.i (.rd (.var 0) (.var 2001) 0) (.i (.rd (.var 0) (.var 2001) 1) (.i (.rd (.var 0) (.var 2001) 2) (.i (.rd (.var 0) (.var 2001) 3) (.i (.rd (.var 0) (.var 2001) 4) (.x (.rd (.var 0) (.var 2001) 5) (.i (.rd (.var 0) (.var 2001) 6) (.i (.rd (.var 0) (.var 2001) 7) (.x (.rd (.var 0) (.var 2001) 8) .nil)))))))))))
 (.ret ((.tup [(.one (.z (.int .i64 (.lit 0)))), (.one (.z (.int .i64 (.lit 1))))]), [], 3))
 (.ite (.cmp .leq (.rd (.var 0) (.var 2001) 0) (.var 2000))
 (.ret ((.tup [(.one (.z (.int .i64 (.lit 0)))), (.one (.z (.int .i64 (.lit 1))))]), [], 3))
 (.next 0 ⟨[(0, (.rd (.var 0) (.var 2001) 0)), (1, (.ar .add .i64 (.var 2001) (.lit 1)))], [], []⟩)))))
 (.ite (.not (.cmp .leq (.len (.var 0)) (.lit 300)))
 (.ret ((.tup [(.one (.z (.int .i64 (.lit 0)))), (.one (.z (.int .i64 (.lit 1))))]), [], 3))
 (.ite (.not (.fn 3 (.i (.var 1) (.i (.var 2) .nil))))
 (.ret ((.tup [(.one (.z (.int .i64 (.lit 0)))), (.one (.z (.int .i64 (.lit 1))))]), [], 3))
 (.loop 1 4000 ⟨[(1, (.lit 100000)), (0, (.lit 0))], [], []⟩
 (.ite (.cmp .lss (.var 4000) (.len (.var 0)))
 (.ob (.tru (.cmp .leq (.lit 0) (.var 4000)))
 (.ob (.tru (.cmp .lss (.var 4000) (.len (.var 0))))
 (.ite (.cmp .lss (.rd (.var 0) (.var 4000) 6) (.var 4001))
 (.ite (.cmp .eql (.rd (.var 0) (.var 4000) 1) (.lit 4))
 (.next 1 ⟨[(1, (.var 4001)), (0, (.ar .add .i64 (.var 4000) (.lit 1)))], [], []⟩)
 (.ite (.cmp .eql (.rd (.var 0) (.var 4000) 1) (.lit 3))
 (.ite (.cmp .eql (.rd (.var 0) (.var 4000) 1) (.lit 3))
 (.ite (.cmp .eql (.fn 71 (.i (.var 1) (.i (.var 2) (.x (.rd (.var 0) (.var 4000) 5) .nil)))) (.lit 0))
 (.ite (.cmp .geq (.fn 70 (.i (.var 1) (.i (.var 2) (.x (.rd (.var 0) (.var 4000) 5) .nil)))) (.lit 0))
 (.next 1 ⟨[(1, (.rd (.var 0) (.var 4000) 6)), (0, (.ar .add .i64 (.var 4000) (.lit 1)))], [], []⟩)
 (.next 1 ⟨[(1, (.var 4001)), (0, (.ar .add .i64 (.var 4000) (.lit 1)))], [], []⟩))
 (.next 1 ⟨[(1, (.var 4001)), (0, (.ar .add .i64 (.var 4000) (.lit 1)))], [], []⟩))
 (.ite (.cmp .eql (.fn 13 (.i (.var 1) (.i (.var 2) (.i (.rd (.var 0) (.var 4000) 2) (.i (.rd (.var 0) (.var 4000) 3) (.i (.rd (.var 0) (.var 4000) 2) (.i (.rd (.var 0) (.var 4000) 3) (.i (.rd (.var 0) (.var 4000) 4) .nil)))))))) (.lit 0))
 (.ite (.fn 7 (.i (.var 1) (.i (.var 2) (.i (.rd (.var 0) (.var 4000) 2) (.i (.rd (.var 0) (.var 4000) 3) (.i (.rd (.var 0) (.var 4000) 2) (.i (.rd (.var 0) (.var 4000) 3) (.i (.rd (.var 0) (.var 4000) 4) .nil))))))))
 (.next 1 ⟨[(1, (.rd (.var 0) (.var 4000) 6)), (0, (.ar .add .i64 (.var 4000) (.lit 1)))], [], []⟩)
 (.next 1 ⟨[(1, (.var 4001)), (0, (.ar .add .i64 (.var 4000) (.lit 1)))], [], []⟩))
 (.next 1 ⟨[(1, (.var 4001)), (0, (.ar .add .i64 (.var 4000) (.lit 1)))], [], []⟩)))
 (.ite (.cmp .eql (.rd (.var 0) (.var 4000) 1) (.lit 6))
 (.ite (.cmp .eql (.fn 71 (.i (.var 1) (.i (.var 2) (.x (.rd (.var 0) (.var 4000) 5) .nil)))) (.lit 0))
 (.ite (.cmp .geq (.fn 70 (.i (.var 1) (.i (.var 2) (.x (.rd (.var 0) (.var 4000) 5) .nil)))) (.lit 0))
 (.next 1 ⟨[(1, (.rd (.var 0) (.var 4000) 6)), (0, (.ar .add .i64 (.var 4000) (.lit 1)))], [], []⟩)
 (.next 1 ⟨[(1, (.var 4001)), (0, (.ar .add .i64 (.var 4000) (.lit 1)))], [], []⟩))
 (.next 1 ⟨[(1, (.var 4001)), (0, (.ar .add .i64 (.var 4000) (.lit 1)))], [], []⟩))
 (.ite (.cmp .eql (.fn 13 (.i (.var 1) (.i (.var 2) (.i (.rd (.var 0) (.var 4000) 2) (.i (.rd (.var 0) (.var 4000) 3) (.i (.rd (.var 0) (.var 4000) 2) (.i (.rd (.var 0) (.var 4000) 3) (.i (.rd (.var 0) (.var 4000) 4) .nil)))))))) (.lit 0))
 (.ite (.fn 7 (.i (.var 1) (.i (.var 2) (.i (.rd (.var 0) (.var 4000) 2) (.i (.rd (.var 0) (.var 4000) 3) (.i (.rd (.var 0) (.var 4000) 2) (.i (.rd (.var 0) (.var 4000) 3) (.i (.rd (.var 0) (.var 4000) 4) .nil))))))))
 (.next 1 ⟨[(1, (.rd (.var 0) (.var 4000) 6)), (0, (.ar .add .i64 (.var 4000) (.lit 1)))], [], []⟩)
 (.next 1 ⟨[(1, (.var 4001)), (0, (.ar .add .i64 (.var 4000) (.lit 1)))], [], []⟩))
 (.next 1 ⟨[(1, (.var 4001)), (0, (.ar .add .i64 (.var 4000) (.lit 1)))], [], []⟩)))))
 (.next 1 ⟨[(1, (.var 4001)), (0, (.ar .add .i64 (.var 4000) (.lit 1)))], [], []⟩))))
 (.ret ((.tup [(.one (.z (.int .i64 (.var 4001)))), (.one (.z (.int .i64 (.lit 0))))]), [], 8))))))))
-- end trFeShown
def trFeShown_h : List (Nat × St) := [
(1, ⟨([(.v (.one (.z (.ext [(.int .i64), (.int .i64), (.int .i64), (.int .i64), (.int .i64), (.sl [(.int .i64), (.int .i64)]), (.int .i64), (.int .i64), (.sl [(.int .i64), (.int .i64), (.int .i64), (.int .i64), (.int .i64), (.int .i64)])] (.var 0) false)))), (.v (.one (.z .any))), (.v (.one (.z (.bool (.lit false))))), (.v (.one (.z (.int .i64 (.var 2000))))), (.v (.one (.z .any))), (.v (.one (.z .any))), (.v (.one (.z (.ext [(.int .i64), (.int .i64), (.int .i64), (.int .i64), (.int .i64), (.sl [(.int .i64), (.int .i64)]), (.int .i64), (.int .i64), (.sl [(.int .i64), (.int .i64), (.int .i64), (.int .i64), (.int .i64), (.int .i64)])] (.var 0) false)))), (.v (.one (.z (.int .i64 (.len (.var 0)))))), (.v (.one (.z (.int .i64 (.var 2001)))))] ++ List.replicate 18 V.any), [(0, (.cells 23 [(.z (.int .i64 (.var 1))), (.z (.int .i64 (.var 2)))]))], 2, []⟩),
(3, ⟨([(.v (.one (.z (.ext [(.int .i64), (.int .i64), (.int .i64), (.int .i64), (.int .i64), (.sl [(.int .i64), (.int .i64)]), (.int .i64), (.int .i64), (.sl [(.int .i64), (.int .i64), (.int .i64), (.int .i64), (.int .i64), (.int .i64)])] (.var 0) false)))), (.v (.agg [(.z (.int .i64 (.var 1))), (.z (.int .i64 (.var 2)))])), (.v (.one (.z .any))), (.v (.one (.z (.ptr 0 0)))), (.v (.one (.z (.int .i64 (.lit 0))))), (.v (.one (.z (.int .i64 (.lit 0))))), (.v (.one (.z (.int .i64 (.var 4001))))), (.v (.one (.z .any))), (.v (.one (.z .any))), (.v (.one (.z (.ext [(.int .i64), (.int .i64), (.int .i64), (.int .i64), (.int .i64), (.sl [(.int .i64), (.int .i64)]), (.int .i64), (.int .i64), (.sl [(.int .i64), (.int .i64), (.int .i64), (.int .i64), (.int .i64), (.int .i64)])] (.var 0) false)))), (.v (.one (.z (.bool (.cmp .leq (.len (.var 0)) (.lit 300)))))), (.v (.one (.z (.bool (.not (.cmp .leq (.len (.var 0)) (.lit 300))))))), (.v (.one (.z (.bool (.lit false))))), (.v (.agg [(.z (.int .i64 (.var 1))), (.z (.int .i64 (.var 2)))])), (.v (.one (.z (.bool (.fn 3 (.i (.var 1) (.i (.var 2) .nil))))))), (.v (.one (.z (.bool (.not (.fn 3 (.i (.var 1) (.i (.var 2) .nil)))))))), (.v (.one (.z (.bool (.not (.fn 3 (.i (.var 1) (.i (.var 2) .nil)))))))), (.v (.one (.z (.ext [(.int .i64), (.int .i64), (.int .i64), (.int .i64), (.int .i64), (.sl [(.int .i64), (.int .i64)]), (.int .i64), (.int .i64), (.sl [(.int .i64), (.int .i64), (.int .i64), (.int .i64), (.int .i64), (.int .i64)])] (.var 0) false)))), (.v (.one (.z (.int .i64 (.len (.var 0)))))), (.v (.one (.z (.int .i64 (.var 4000)))))] ++ List.replicate 17 V.any), [(0, (.cells 23 [(.z (.int .i64 (.var 1))), (.z (.int .i64 (.var 2)))]))], 4, []⟩)]
def trFeShown_j : List (FuncId × Nat × Nat × St) := [
]
set_option maxRecDepth 100000 in
theorem trFeShown_is : T.norm 0 (call Tryz.prog ctE11 ⟨Lt.un (Lt.of []), trFeShown_h, trFeShown_j⟩ 100 24 (symArgs 0 [feats, pt]) [] 0) TT.ret = trFeShown := by kernel_rfl
theorem trFeShown_low : trFeShown.low 1000 = true := by kernel_rfl
end Go.Proofs.YtcjaembdcfppfaaGreat
/- Chapter 07: feature.List, feature.Shown. -/
namespace Go.Proofs.YtcjaembdcfppfaaGreat
open Go.RowKit
def featRow (r : Rows) (i : Nat) : Bool := featB (lg r i 0) (lg r i 1) (lg r i 2) (lg r i 3) (lg r i 4) (lr r i 5) (lg r i 6) (lg r i 7) (lr r i 8)
def lisN (r : Rows) : Nat → Nat → Int → Bool
  | 0, _, _ => true
  | f + 1, i, last => (featRow r i && decide (last < lg r i 0)) && lisN r f (i + 1) (lg r i 0)
def listB (r : Rows) : Bool := lisN r r.length 0 0 && decide (r.length ≤ 300)
def listL (ds : List D) : Bool := listB (rAt ds 0)
def covRow (r : Rows) (i : Nat) (px py : Int) : Bool := covX (lg r i 1) (lg r i 2) (lg r i 3) (lg r i 4) (lr r i 5) px py
def shoN (r : Rows) (px py : Int) : Nat → Nat → Int → Int
  | 0, _, m => m
  | f + 1, i, m => shoN r px py f (i + 1) (if lg r i 6 < m ∧ covRow r i px py = true then lg r i 6 else m)
def shownO (ds : List D) : Bool := listB (rAt ds 0) && placeB (iAt ds 1) (iAt ds 2)
def shownR (ds : List D) : Int := if shownO ds then shoN (rAt ds 0) (iAt ds 1) (iAt ds 2) (rAt ds 0).length 0 100000 else 0
def shownE (ds : List D) : Int := if shownO ds then 0 else 1
theorem feats_len {W : World} {vals : List Value} {ds : List D} {sh : List Sh} (h : repSh W (feats :: sh) vals ds) : (rAt ds 0).length ≤ 281474976710656 := by
  obtain ⟨v, vs', d, ds', rfl, rfl, ⟨d, rfl, h⟩, _⟩ := h
  rw [rep_sl] at h
  obtain ⟨r, rfl, a, n, c, _, hs, _⟩ := h
  have e1 := hs.len
  have e2 := hs.big
  show r.length ≤ _
  omega
theorem K79b76 (W : World) (ds l : List D) : (envOf K79 W ds).fb 76 l = featL l := by simp only [envOf, K79, K78, K77, K76, K75, K74, K73, K72, K71, KI, KH, KG, KF]
theorem K79b3 (W : World) (ds l : List D) : (envOf K79 W ds).fb 3 l = placeL l := by simp only [envOf, K79, K78, K77, K76, K75, K74, K73, K72, K71, KI, KH, KG, KF, KE, KD, KC, KB, KA, K9, K8, K7, K6, K5, K]
theorem K79i70 (W : World) (ds l : List D) : (envOf K79 W ds).fi 70 l = pinR l := by simp only [envOf, K79, K78, K77, K76, K75, K74, K73, K72, K71, KI, KH, KG, KF, KE, KD, KC]
theorem K79i71 (W : World) (ds l : List D) : (envOf K79 W ds).fi 71 l = pinE l := by simp only [envOf, K79, K78, K77, K76, K75, K74, K73, K72, K71, KI, KH, KG, KF, KE, KD, KC]
theorem K79i13 (W : World) (ds l : List D) : (envOf K79 W ds).fi 13 l = nearE l := by simp only [envOf, K79, K78, K77, K76, K75, K74, K73, K72, K71, KI, KH, KG, KF, KE, KD, KC, KB, KA, K9, K8, K7, K6, K5, K]
theorem K79b7 (W : World) (ds l : List D) : (envOf K79 W ds).fb 7 l = nearR l := by simp only [envOf, K79, K78, K77, K76, K75, K74, K73, K72, K71, KI, KH, KG, KF, KE, KD, KC, KB, KA, K9, K8, K7, K6, K5, K]
theorem featRow_eq (r : Rows) (i : Nat) : featB (lg r i 0) (lg r i 1) (lg r i 2) (lg r i 3) (lg r i 4) (lr r i 5) (lg r i 6) (lg r i 7) (lr r i 8) = featRow r i := rfl
set_option maxHeartbeats 2000000 in
theorem gFeShown : Gives Tryz.prog 24 [feats, pt] (fun ds => .tuple #[.int .i64 (shownR ds), .int .i64 (shownE ds)]) := by
  refine GivesIf.all (fn_gives K79 (by kernel_rfl) (fun ρ h => ctE11_ok (Sees.of h 132)) (by kernel_rfl) trFeShown_is trFeShown_low (by decide) (fun W vals ds hr _ => ?_))
  have hlen := feats_len hr
  simp only [trFeShown]
  have F : shownO ds = false → Value.tuple #[.int .i64 0, .int .i64 1] = Value.tuple #[.int .i64 (shownR ds), .int .i64 (shownE ds)] := fun h => by simp [shownR, shownE, h]
  have T : shownO ds = true → ∀ m, shoN (rAt ds 0) (iAt ds 1) (iAt ds 2) (rAt ds 0).length 0 100000 = m → Value.tuple #[.int .i64 m, .int .i64 0] = Value.tuple #[.int .i64 (shownR ds), .int .i64 (shownE ds)] := fun h m h' => by simp [shownR, shownE, h, h']
  have hO : shownO ds = (listB (rAt ds 0) && placeB (iAt ds 1) (iAt ds 2)) := rfl
  clear hr
  generalize e0 : rAt ds 0 = r at *
  generalize e1 : iAt ds 1 = px at *
  generalize e2 : iAt ds 2 = py at *
  refine TT.sat_loop (fun v => ∃ i : Nat, v.i 1 = i ∧ i ≤ r.length ∧ (lisN r (r.length - i) i (v.i 0) && decide (r.length ≤ 300)) = listB r) (fun v => r.length - (v.i 1).toNat)
    ⟨0, by simp [val_i, aget, E.ev], by omega, rfl⟩ (fun v hv => ?_)
  obtain ⟨i, i0, i1, i2⟩ := hv
  simp only [TT.sat_ret, TT.sat_ite, TT.sat_ob, TT.sat_next, TT.sat_stuck, put_i, put_b, put_d, put_fi, put_fb, put_fd, Ob.ok, B.ev, E.ev, X.ev, AL.ev, cmp_t, cmp_f, arEv, V.plain, V2.plain, S.plain, S0.plain, V.val, V2.val, S.val, S0.val, bV, iV, List.all_cons, List.all_nil, Bool.and_true, Bool.and_self, envOf_i, envOf_b, envOf_d, List.map_cons, List.map_nil, true_and, Bool.not_eq_true', Bool.not_eq_false', Bool.not_not, Bool.and_eq_true, and_f, cell_lg, cell_lb, cell_lr, cmpP, val_i, val_b, val_d, aget, Nat.reduceBEq, beq_self_eq_true, Bool.false_eq_true, if_true, if_false, Nat.reduceLT, Nat.reduceSub, Nat.sub_self, Nat.lt_irrefl, i0, e0, e1, e2, K79b76, K79b3, feat_nine, place_two, featRow_eq]
  refine ⟨fun hc => ?_, fun hc => ?_⟩
  · have hi : i < r.length := by omega
    obtain ⟨f, hf⟩ : ∃ f, r.length - i = f + 1 := ⟨r.length - i - 1, by omega⟩
    have hf' : r.length - (i + 1) = f := by omega
    rw [hf, lisN] at i2
    rw [wrap_in ((i : Int) + 1) (by omega) (by omega)]
    refine ⟨by omega, by omega, fun h => F ?_, fun h => ⟨fun g => F ?_, fun g => ⟨⟨i + 1, rfl, by omega, ?_⟩, by omega⟩⟩⟩
    · rw [hO, ← i2, h]; rfl
    · rw [hO, ← i2, h, decide_eq_false (by omega)]; rfl
    · rw [hf', ← i2, h, decide_eq_true (p := v.i 0 < lg r i 0) (by omega)]; rfl
  · have h0 : r.length - i = 0 := by omega
    rw [h0, lisN, Bool.true_and] at i2
    refine ⟨fun h => F ?_, fun h => ⟨fun g => F ?_, fun g => ?_⟩⟩
    · rw [hO, ← i2, decide_eq_false (by omega)]; rfl
    · rw [hO, g, Bool.and_false]
    have hO' : shownO ds = true := by rw [hO, ← i2, g, decide_eq_true (by omega)]; rfl
    replace T := T hO'
    clear F hO hO' i2
    refine TT.sat_loop (fun v => ∃ i : Nat, v.i 0 = i ∧ i ≤ r.length ∧ shoN r px py (r.length - i) i (v.i 1) = shoN r px py r.length 0 100000) (fun v => r.length - (v.i 0).toNat)
      ⟨0, by simp [val_i, aget, E.ev], by omega, rfl⟩ (fun u hu => ?_)
    obtain ⟨j, j0, j1, j2⟩ := hu
    simp only [TT.sat_ret, TT.sat_ite, TT.sat_ob, TT.sat_next, TT.sat_stuck, put_i, put_b, put_d, put_fi, put_fb, put_fd, Ob.ok, B.ev, E.ev, X.ev, AL.ev, cmp_t, cmp_f, arEv, V.plain, V2.plain, S.plain, S0.plain, V.val, V2.val, S.val, S0.val, bV, iV, List.all_cons, List.all_nil, Bool.and_true, Bool.and_self, envOf_i, envOf_b, envOf_d, List.map_cons, List.map_nil, true_and, Bool.not_eq_true', Bool.not_eq_false', Bool.not_not, Bool.and_eq_true, and_f, cell_lg, cell_lb, cell_lr, cmpP, val_i, val_b, val_d, aget, Nat.reduceBEq, beq_self_eq_true, Bool.false_eq_true, if_true, if_false, Nat.reduceLT, Nat.reduceSub, Nat.sub_self, Nat.lt_irrefl, j0, e0, e1, e2, K79i70, K79i71, K79i13, K79b7]
    refine ⟨fun hc => ?_, fun hc => ?_⟩
    · have hj : j < r.length := by omega
      obtain ⟨f, hf⟩ : ∃ f, r.length - j = f + 1 := ⟨r.length - j - 1, by omega⟩
      have hf' : r.length - (j + 1) = f := by omega
      rw [hf, shoN] at j2
      have hw : IntKind.i64.wrap ((j : Int) + 1) = (j : Int) + 1 := wrap_in _ (by omega) (by omega)
      simp only [hw]
      have N : ∀ m, (if lg r j 6 < u.i 1 ∧ covRow r j px py = true then lg r j 6 else u.i 1) = m → ∃ i : Nat, (j : Int) + 1 = i ∧ i ≤ r.length ∧ shoN r px py (r.length - i) i m = shoN r px py r.length 0 100000 :=
        fun m h => ⟨j + 1, rfl, by omega, by rw [hf', ← j2, h]⟩
      have hm : r.length - ((j : Int) + 1).toNat < r.length - (j : Int).toNat := by omega
      have C4 : lg r j 1 = 4 → covRow r j px py = false := fun h => by unfold covRow covX; rw [if_pos h]
      have CA : (lg r j 1 = 3 ∨ lg r j 1 = 6) → covRow r j px py = decide (pinE [.i px, .i py, .l (lr r j 5)] = 0 ∧ 0 ≤ pinR [.i px, .i py, .l (lr r j 5)]) := fun h => by unfold covRow covX; rw [if_neg (by omega), if_pos h]
      have CD : lg r j 1 ≠ 4 → lg r j 1 ≠ 3 → lg r j 1 ≠ 6 → covRow r j px py = (decide (nearE [.i px, .i py, .i (lg r j 2), .i (lg r j 3), .i (lg r j 2), .i (lg r j 3), .i (lg r j 4)] = 0) && nearR [.i px, .i py, .i (lg r j 2), .i (lg r j 3), .i (lg r j 2), .i (lg r j 3), .i (lg r j 4)]) := fun h1 h2 h3 => by unfold covRow covX; rw [if_neg h1, if_neg (by omega)]
      refine ⟨by omega, by omega, ?_⟩
      clear hc hf hf' j2 T e0 e1 e2
      repeat' (first | (intro h; skip) | (refine And.intro ?_ ?_))
      all_goals first
        | exact hm
        | omega
        | (refine N _ (if_neg ?_); omega)
        | (refine N _ (if_neg ?_); rw [C4 (by omega)]; simp)
        | (refine N _ (if_neg ?_); rw [CA (by omega), decide_eq_true_eq]; omega)
        | (refine N _ (if_pos ⟨by omega, ?_⟩); rw [CA (by omega), decide_eq_true_eq]; omega)
        | (refine N _ (if_pos ⟨by omega, ?_⟩); rw [CD (by omega) (by omega) (by omega)]; simp [*]; done)
        | (refine N _ (if_neg (fun q => ?_)); have q2 := q.2; rw [CD (by omega) (by omega) (by omega), Bool.and_eq_true, decide_eq_true_eq] at q2; simp_all; done)
    · have h0 : r.length - j = 0 := by omega
      rw [h0, shoN] at j2
      exact T _ j2.symm
def K80 : Interp where
  fi n l := match n with | 132 => shownR l | 133 => shownE l | n => K79.fi n l
  fb n l := K79.fb n l
  fd _ _ := []
theorem K80_K79 {ρ : Env} (h : Sees ρ K80 134) : Sees ρ K79 132 := h.trans (by decide) fun n l hn => by
  refine ⟨?_, ?_⟩
  ·
    simp only [K80]
    split <;> first | omega | rfl
  ·
    rfl
def cFeShown := ctD [feats, pt] fun al => .ret (.tup [.one (sIF 132 shownR al), .one (sIF 133 shownE al)])
theorem cFeShown_ok {ρ : Env} (h : Sees ρ K80 134) : CtOne Tryz.prog ρ 24 cFeShown :=
  ctD_ok gFeShown (fun _ => rfl) (fun al => by simp only [V.val, V2.val, S.val, S0.val, sIF, sBF, List.map_cons, List.map_nil, iF_ev (s := 132) (f := shownR) (fun l => by rw [(h 132 l (by decide)).1]; simp only [K80]), iF_ev (s := 133) (f := shownE) (fun l => by rw [(h 133 l (by decide)).1]; simp only [K80])]; try rfl)
def ctE14 : Ct := (24, cFeShown) :: ctE11
theorem ctE14_ok {ρ : Env} (h : Sees ρ K80 134) : CtOk Tryz.prog ρ ctE14 := .cons (cFeShown_ok h) (ctE11_ok (K80_K79 h))
end Go.Proofs.YtcjaembdcfppfaaGreat
