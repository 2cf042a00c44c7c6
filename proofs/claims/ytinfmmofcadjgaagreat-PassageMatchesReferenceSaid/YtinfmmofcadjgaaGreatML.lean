/- ML, merged: TRp, Rp, Rq, TRr, Rr, Rs, Rt, TRu, Ru, TRv, Rv. -/
import Derived.Test.YtinfmmofcadjgaaGreatMK
import Derived.Test.YtinfmmofcadjgaaGreatMH
set_option linter.unusedSimpArgs false
set_option linter.unusedVariables false
/- Chapter 38: trees of the reference of layer 38: Arrives, polygon. -/
namespace Go.Proofs.YtinfmmofcadjgaaGreat
open Go.RowKit
-- term trR38A: call Tryz.prog ctR9 [] 100 9 (symArgs 0 [psg, it]) [] 0
def trR38A : TT OpR :=
(.ite (.not (.fn 20 (.i (.var 0) (.i (.var 1) (.i (.var 2) (.x (.var 3) .nil))))))
  (.ret ((.tup [(.agg [(.z (.int .i64 (.lit 0))), (.z (.int .i64 (.lit 0)))]), (.one (.z (.int .i64 (.lit 1))))]), [], 2))
  (.ite (.cmp .lss (.var 4) (.lit 0))
    (.ret ((.tup [(.agg [(.z (.int .i64 (.lit 0))), (.z (.int .i64 (.lit 0)))]), (.one (.z (.int .i64 (.lit 1))))]), [], 2))
    (.ite (.cmp .gtr (.var 4) (.len (.var 3)))
      (.ret ((.tup [(.agg [(.z (.int .i64 (.lit 0))), (.z (.int .i64 (.lit 0)))]), (.one (.z (.int .i64 (.lit 1))))]), [], 2))
      (.loop 0 4000 ⟨[(0, (.lit 0)), (1, (.var 0)), (2, (.var 1))], [], []⟩
        (.ite (.cmp .lss (.var 4000) (.var 4))
          (.ob (.tru (.cmp .leq (.lit 0) (.var 4000)))
          (.ob (.tru (.cmp .lss (.var 4000) (.len (.var 3))))
          (.ob (.tru (.cmp .leq (.lit 0) (.var 4000)))
          (.ob (.tru (.cmp .lss (.var 4000) (.len (.var 3))))
          (.ob (.tru (.cmp .leq (.lit 0) (.var 4000)))
          (.ob (.tru (.cmp .lss (.var 4000) (.len (.var 3))))
          (.ob (.tru (.cmp .neq (.rd (.var 3) (.var 4000) 5) (.lit 0)))
          (.ob (.tru (.cmp .leq (.lit 0) (.var 4000)))
          (.ob (.tru (.cmp .lss (.var 4000) (.len (.var 3))))
          (.ob (.tru (.cmp .leq (.lit 0) (.fn 11 (.i (.rd (.var 3) (.var 4000) 0) (.i (.rd (.var 3) (.var 4000) 1) (.i (.rd (.var 3) (.var 4000) 2) (.i (.rd (.var 3) (.var 4000) 3) .nil)))))))
          (.ob (.tru (.cmp .leq (.fn 11 (.i (.rd (.var 3) (.var 4000) 0) (.i (.rd (.var 3) (.var 4000) 1) (.i (.rd (.var 3) (.var 4000) 2) (.i (.rd (.var 3) (.var 4000) 3) .nil))))) (.lit 1000000000000)))
          (.ob (.tru (.cmp .leq (.lit 1) (.rd (.var 3) (.var 4000) 4)))
          (.ob (.tru (.cmp .leq (.rd (.var 3) (.var 4000) 4) (.lit 1000000000000)))
          (.next 0 ⟨[(0, (.ar .add .i64 (.var 4000) (.lit 1))), (1, (.ar .add .i64 (.var 4001) (.ar .quo .i64 (.fn 10 (.i (.rd (.var 3) (.var 4000) 0) (.i (.rd (.var 3) (.var 4000) 1) (.i (.rd (.var 3) (.var 4000) 2) (.i (.rd (.var 3) (.var 4000) 3) .nil))))) (.rd (.var 3) (.var 4000) 5)))), (2, (.ar .add .i64 (.var 4002) (.fn 94 (.i (.fn 11 (.i (.rd (.var 3) (.var 4000) 0) (.i (.rd (.var 3) (.var 4000) 1) (.i (.rd (.var 3) (.var 4000) 2) (.i (.rd (.var 3) (.var 4000) 3) .nil))))) (.i (.rd (.var 3) (.var 4000) 4) .nil)))))], [], []⟩))))))))))))))
          (.ite (.cmp .gtr (.var 4002) (.lit 10000000))
            (.ret ((.tup [(.agg [(.z (.int .i64 (.lit 0))), (.z (.int .i64 (.lit 0)))]), (.one (.z (.int .i64 (.lit 3))))]), [], 5))
            (.ret ((.tup [(.agg [(.z (.int .i64 (.var 4001))), (.z (.int .i64 (.var 4002)))]), (.one (.z (.int .i64 (.lit 0))))]), [], 5))))))))
-- end trR38A
set_option maxRecDepth 100000 in
theorem trR38A_is : T.norm 0 (call Tryz.prog ctR9 [] 100 9 (symArgs 0 [psg, it]) [] 0) TT.ret = trR38A := by kernel_rfl
theorem trR38A_low : trR38A.low 1000 = true := by kernel_rfl
-- term trR38Z: call Tryz.prog ctR9 [] 100 15 (symArgs 0 [psg, it]) [] 0
def trR38Z : TT OpR :=
(.ite (.fn 20 (.i (.var 0) (.i (.var 1) (.i (.var 2) (.x (.var 3) .nil)))))
  (.ite (.cmp .geq (.var 4) (.lit 0))
    (.ite (.not (.cmp .lss (.var 4) (.len (.var 3))))
      (.ret ((.tup [(.agg [(.z (.int .i64 (.lit 0))), (.z (.int .i64 (.lit 0))), (.z (.int .i64 (.lit 0))), (.z (.int .i64 (.lit 0)))]), (.one (.z (.int .i64 (.lit 1))))]), [], 3))
      (.ob (.tru (.cmp .leq (.lit 0) (.var 4)))
      (.ob (.tru (.cmp .lss (.var 4) (.len (.var 3))))
      (.ret ((.tup [(.agg [(.z (.int .i64 (.fn 42 (.i (.mn (.rd (.var 3) (.var 4) 0) (.rd (.var 3) (.var 4) 2)) (.i (.mx (.rd (.var 3) (.var 4) 0) (.rd (.var 3) (.var 4) 2)) (.i (.mn (.rd (.var 3) (.var 4) 1) (.rd (.var 3) (.var 4) 3)) (.i (.mx (.rd (.var 3) (.var 4) 1) (.rd (.var 3) (.var 4) 3)) (.i (.var 2) .nil)))))))), (.z (.int .i64 (.fn 43 (.i (.mn (.rd (.var 3) (.var 4) 0) (.rd (.var 3) (.var 4) 2)) (.i (.mx (.rd (.var 3) (.var 4) 0) (.rd (.var 3) (.var 4) 2)) (.i (.mn (.rd (.var 3) (.var 4) 1) (.rd (.var 3) (.var 4) 3)) (.i (.mx (.rd (.var 3) (.var 4) 1) (.rd (.var 3) (.var 4) 3)) (.i (.var 2) .nil)))))))), (.z (.int .i64 (.fn 44 (.i (.mn (.rd (.var 3) (.var 4) 0) (.rd (.var 3) (.var 4) 2)) (.i (.mx (.rd (.var 3) (.var 4) 0) (.rd (.var 3) (.var 4) 2)) (.i (.mn (.rd (.var 3) (.var 4) 1) (.rd (.var 3) (.var 4) 3)) (.i (.mx (.rd (.var 3) (.var 4) 1) (.rd (.var 3) (.var 4) 3)) (.i (.var 2) .nil)))))))), (.z (.int .i64 (.fn 45 (.i (.mn (.rd (.var 3) (.var 4) 0) (.rd (.var 3) (.var 4) 2)) (.i (.mx (.rd (.var 3) (.var 4) 0) (.rd (.var 3) (.var 4) 2)) (.i (.mn (.rd (.var 3) (.var 4) 1) (.rd (.var 3) (.var 4) 3)) (.i (.mx (.rd (.var 3) (.var 4) 1) (.rd (.var 3) (.var 4) 3)) (.i (.var 2) .nil))))))))]), (.one (.z (.int .i64 (.fn 46 (.i (.mn (.rd (.var 3) (.var 4) 0) (.rd (.var 3) (.var 4) 2)) (.i (.mx (.rd (.var 3) (.var 4) 0) (.rd (.var 3) (.var 4) 2)) (.i (.mn (.rd (.var 3) (.var 4) 1) (.rd (.var 3) (.var 4) 3)) (.i (.mx (.rd (.var 3) (.var 4) 1) (.rd (.var 3) (.var 4) 3)) (.i (.var 2) .nil)))))))))]), [], 5)))))
    (.ret ((.tup [(.agg [(.z (.int .i64 (.lit 0))), (.z (.int .i64 (.lit 0))), (.z (.int .i64 (.lit 0))), (.z (.int .i64 (.lit 0)))]), (.one (.z (.int .i64 (.lit 1))))]), [], 3)))
  (.ret ((.tup [(.agg [(.z (.int .i64 (.lit 0))), (.z (.int .i64 (.lit 0))), (.z (.int .i64 (.lit 0))), (.z (.int .i64 (.lit 0)))]), (.one (.z (.int .i64 (.lit 1))))]), [], 3)))
-- end trR38Z
set_option maxRecDepth 100000 in
theorem trR38Z_is : T.norm 0 (call Tryz.prog ctR9 [] 100 15 (symArgs 0 [psg, it]) [] 0) TT.ret = trR38Z := by kernel_rfl
theorem trR38Z_low : trR38Z.low 1000 = true := by kernel_rfl
-- term trR38P: call Tryz.prog ctR9 [] 100 48 (symArgs 0 [.agg [.int .i64, .int .i64, .int .i64, .int .i64, .int .i64, .int .i64], pts, it]) [] 0
def trR38P : TT OpR :=
(.loop 0 2000 ⟨[(0, (.lit 0))], [], []⟩
  (.ite (.cmp .lss (.var 2000) (.len (.var 6)))
    (.ob (.tru (.cmp .leq (.lit 0) (.var 2000)))
    (.ob (.tru (.cmp .lss (.var 2000) (.len (.var 6))))
    (.ob (.tru (.cmp .neq (.len (.var 6)) (.lit 0)))
    (.ob (.tru (.cmp .leq (.lit 0) (.ar .rem .i64 (.ar .add .i64 (.var 2000) (.lit 1)) (.len (.var 6)))))
    (.ob (.tru (.cmp .lss (.ar .rem .i64 (.ar .add .i64 (.var 2000) (.lit 1)) (.len (.var 6))) (.len (.var 6))))
    (.ob (.tru (.fn 5 (.i (.var 0) (.i (.var 1) (.i (.var 2) (.i (.var 3) (.i (.rd (.var 6) (.var 2000) 0) (.i (.rd (.var 6) (.var 2000) 1) (.i (.rd (.var 6) (.ar .rem .i64 (.ar .add .i64 (.var 2000) (.lit 1)) (.len (.var 6))) 0) (.i (.rd (.var 6) (.ar .rem .i64 (.ar .add .i64 (.var 2000) (.lit 1)) (.len (.var 6))) 1) .nil))))))))))
    (.ob (.tru (.cmp .leq (.lit 0) (.var 7)))
    (.ob (.tru (.cmp .leq (.var 7) (.lit 3000000)))
    (.ite (.fn 8 (.i (.var 0) (.i (.var 1) (.i (.var 2) (.i (.var 3) (.i (.rd (.var 6) (.var 2000) 0) (.i (.rd (.var 6) (.var 2000) 1) (.i (.rd (.var 6) (.ar .rem .i64 (.ar .add .i64 (.var 2000) (.lit 1)) (.len (.var 6))) 0) (.i (.rd (.var 6) (.ar .rem .i64 (.ar .add .i64 (.var 2000) (.lit 1)) (.len (.var 6))) 1) (.i (.var 7) .nil))))))))))
      (.ret ((.v (.one (.z (.bool (.lit true))))), [], 2))
      (.next 0 ⟨[(0, (.ar .add .i64 (.var 2000) (.lit 1)))], [], []⟩))))))))))
    (.ret ((.v (.one (.z (.bool (.lit false))))), [], 2))))
-- end trR38P
set_option maxRecDepth 100000 in
theorem trR38P_is : T.norm 0 (call Tryz.prog ctR9 [] 100 48 (symArgs 0 [.agg [.int .i64, .int .i64, .int .i64, .int .i64, .int .i64, .int .i64], pts, it]) [] 0) TT.ret = trR38P := by kernel_rfl
theorem trR38P_low : trR38P.low 1000 = true := by kernel_rfl
end Go.Proofs.YtinfmmofcadjgaaGreat
/- Chapter 38: the reference's Arrives, Zone, polygon. -/
namespace Go.Proofs.YtinfmmofcadjgaaGreat
open Go.RowKit
theorem KXb20 (W : World) (ds l : List D) : (envOf KX W ds).fb 20 l = psgL l := by simp only [envOf, KX, KW, KV, KU, KT, KR, KG, KF, KE, KD, KC, KB, KA, K9, K8, K7, K6, K5, K]
theorem KXi10 (W : World) (ds l : List D) : (envOf KX W ds).fi 10 l = distIL l := by simp only [envOf, KX, KW, KV, KU, KT, KR, KG, KF, KE, KD, KC, KB, KA, K9, K8, K7, K6, K5, K]
theorem KXi11 (W : World) (ds l : List D) : (envOf KX W ds).fi 11 l = distIH l := by simp only [envOf, KX, KW, KV, KU, KT, KR, KG, KF, KE, KD, KC, KB, KA, K9, K8, K7, K6, K5, K]
theorem KXi94 (W : World) (ds l : List D) : (envOf KX W ds).fi 94 l = upL l := by simp only [envOf, KX, KW, KV, KU, KT, KR, KG, KF, KE, KD, KC, KB, KA, K9, K8, K7, K6, K5, K]
theorem KXb5 (W : World) (ds l : List D) : (envOf KX W ds).fb 5 l = eight l := by simp only [envOf, KX, KW, KV, KU, KT, KR, KG, KF, KE, KD, KC, KB, KA, K9, K8, K7, K6, K5, K]
theorem KXb8 (W : World) (ds l : List D) : (envOf KX W ds).fb 8 l = closeR l := by simp only [envOf, KX, KW, KV, KU, KT, KR, KG, KF, KE, KD, KC, KB, KA, K9, K8, K7, K6, K5, K]
theorem KXi42 (W : World) (ds l : List D) : (envOf KX W ds).fi 42 l = growA l := by simp only [envOf, KX, KW, KV, KU, KT, KR, KG, KF, KE, KD, KC, KB, KA, K9, K8, K7, K6, K5, K]
theorem KXi43 (W : World) (ds l : List D) : (envOf KX W ds).fi 43 l = growB l := by simp only [envOf, KX, KW, KV, KU, KT, KR, KG, KF, KE, KD, KC, KB, KA, K9, K8, K7, K6, K5, K]
theorem KXi44 (W : World) (ds l : List D) : (envOf KX W ds).fi 44 l = growC l := by simp only [envOf, KX, KW, KV, KU, KT, KR, KG, KF, KE, KD, KC, KB, KA, K9, K8, K7, K6, K5, K]
theorem KXi45 (W : World) (ds l : List D) : (envOf KX W ds).fi 45 l = growD l := by simp only [envOf, KX, KW, KV, KU, KT, KR, KG, KF, KE, KD, KC, KB, KA, K9, K8, K7, K6, K5, K]
theorem KXi46 (W : World) (ds l : List D) : (envOf KX W ds).fi 46 l = growE l := by simp only [envOf, KX, KW, KV, KU, KT, KR, KG, KF, KE, KD, KC, KB, KA, K9, K8, K7, K6, K5, K]
theorem up_hi (r : Rows) (i : Int) : upL [.i (distIH (dl r i)), .i (lg r i 4)] = legHi r i := rfl
theorem gR38A : Gives Tryz.prog 9 [psg, it] arrV := by
  refine GivesIf.all (fn_gives KX (by kernel_rfl) (fun ρ h => ctR9_ok (Sees.of h 102)) (by kernel_rfl) trR38A_is trR38A_low (by decide) (fun W vals ds hr _ => ?_))
  simp only [trR38A, TT.sat_ret, TT.sat_ite, TT.sat_ob, TT.sat_next, TT.sat_stuck, put_i, put_b, put_d, put_fi, put_fb, put_fd, Ob.ok, B.ev, E.ev, X.ev, AL.ev, cmp_t, cmp_f, arEv, V.plain, V2.plain, S.plain, S0.plain, V.val, V2.val, S.val, S0.val, bV, iV, List.all_cons, List.all_nil, Bool.and_true, Bool.and_self, envOf_i, envOf_b, envOf_d, List.map_cons, List.map_nil, true_and, Bool.not_eq_true', Bool.not_eq_false', Bool.not_not, Bool.and_eq_true, and_f, cell_lg, cell_lb, cell_lr, cmpP, val_i, val_b, val_d, aget, Nat.reduceBEq, beq_self_eq_true, Bool.false_eq_true, if_true, if_false, Nat.reduceLT, Nat.reduceSub, Nat.sub_self, Nat.lt_irrefl, KXb20, psg_four]
  refine ⟨fun h1 => ?_, fun h1 => ⟨fun h2 => ?_, fun h2 => ⟨fun h3 => ?_, fun h3 => ?_⟩⟩⟩
  · unfold arrV; rw [if_neg (by simp [h1])]; rfl
  · unfold arrV; rw [if_neg (by omega)]; rfl
  · unfold arrV; rw [if_neg (by omega)]; rfl
  · obtain ⟨p1, p2, p3, p4⟩ := psgB_iff h1
    have hV : arrV ds = inV (tLo (rAt ds 3) (iAt ds 0) (iAt ds 4).toNat) (tHi (rAt ds 3) (iAt ds 1) (iAt ds 4).toNat) := by
      unfold arrV; rw [if_pos ⟨h1, by omega, by omega⟩]
    have ht := t_le p4 p3.2.2.2.2 p1 p2
    refine TT.sat_loop (fun v => ∃ i : Nat, v.i 0 = i ∧ (i : Int) ≤ iAt ds 4 ∧ v.i 1 = tLo (rAt ds 3) (iAt ds 0) i ∧ v.i 2 = tHi (rAt ds 3) (iAt ds 1) i) (fun v => (rAt ds 3).length - (v.i 0).toNat)
      ⟨0, by simp [val_i, aget, E.ev], by omega, by simp [val_i, aget, E.ev, tLo, envOf_i], by simp [val_i, aget, E.ev, tHi, envOf_i]⟩ (fun v hv => ?_)
    obtain ⟨i, i0, i1, i3, i4⟩ := hv
    simp only [TT.sat_ret, TT.sat_ite, TT.sat_ob, TT.sat_next, TT.sat_stuck, put_i, put_b, put_d, put_fi, put_fb, put_fd, Ob.ok, B.ev, E.ev, X.ev, AL.ev, cmp_t, cmp_f, arEv, V.plain, V2.plain, S.plain, S0.plain, V.val, V2.val, S.val, S0.val, bV, iV, List.all_cons, List.all_nil, Bool.and_true, Bool.and_self, envOf_i, envOf_b, envOf_d, List.map_cons, List.map_nil, true_and, Bool.not_eq_true', Bool.not_eq_false', Bool.not_not, Bool.and_eq_true, and_f, cell_lg, cell_lb, cell_lr, cmpP, val_i, val_b, val_d, aget, Nat.reduceBEq, beq_self_eq_true, Bool.false_eq_true, if_true, if_false, Nat.reduceLT, Nat.reduceSub, Nat.sub_self, Nat.lt_irrefl, KXi10, KXi11, KXi94, i0, i3, i4, dl_eq, legLo_eq, up_hi]
    refine ⟨fun hc => ?_, fun hc => ?_⟩
    · have hl := p4 i (by omega)
      have hq := legB_iff.1 hl
      have hle := leg_le hl
      have hti := ht i (by omega)
      obtain ⟨w1, w2, w3, w4⟩ := leg_wraps hl
      rw [wrap_in ((i : Int) + 1) (by omega) (by omega), w1, wrap_in (tLo _ _ i + legLo _ _) (by omega) (by omega), wrap_in (tHi _ _ i + legHi _ _) (by omega) (by omega)]
      exact ⟨by omega, by omega, by omega, by omega, by omega, by omega, by omega, by omega, by omega, by omega, by omega, by omega, by omega, ⟨i + 1, rfl, by omega, rfl, rfl⟩, by omega⟩
    · have he : (i : Int) = iAt ds 4 := by omega
      rw [hV, ← he, Int.toNat_natCast]
      unfold inV
      exact ⟨fun q => by rw [if_pos q]; rfl, fun q => by rw [if_neg q]; rfl⟩
theorem gR38Z : Gives Tryz.prog 15 [psg, it] (fun ds => boxE (zoneA ds) (zoneB ds) (zoneC ds) (zoneD ds) (zoneE ds)) := by
  refine GivesIf.all (fn_gives KX (by kernel_rfl) (fun ρ h => ctR9_ok (Sees.of h 102)) (by kernel_rfl) trR38Z_is trR38Z_low (by decide) (fun W vals ds hr _ => ?_))
  simp only [trR38Z, TT.sat_ret, TT.sat_ite, TT.sat_ob, TT.sat_next, TT.sat_stuck, put_i, put_b, put_d, put_fi, put_fb, put_fd, Ob.ok, B.ev, E.ev, X.ev, AL.ev, cmp_t, cmp_f, arEv, V.plain, V2.plain, S.plain, S0.plain, V.val, V2.val, S.val, S0.val, bV, iV, List.all_cons, List.all_nil, Bool.and_true, Bool.and_self, envOf_i, envOf_b, envOf_d, List.map_cons, List.map_nil, true_and, Bool.not_eq_true', Bool.not_eq_false', Bool.not_not, Bool.and_eq_true, and_f, cell_lg, cell_lb, cell_lr, cmpP, val_i, val_b, val_d, aget, Nat.reduceBEq, beq_self_eq_true, Bool.false_eq_true, if_true, if_false, Nat.reduceLT, Nat.reduceSub, Nat.sub_self, Nat.lt_irrefl, KXb20, psg_four, KXi42, KXi43, KXi44, KXi45, KXi46]
  have Z : zoneO ds = false → boxE 0 0 0 0 1 = boxE (zoneA ds) (zoneB ds) (zoneC ds) (zoneD ds) (zoneE ds) := fun h => by unfold zoneA zoneB zoneC zoneD zoneE; rw [h]; rfl
  refine ⟨fun h1 => ⟨fun h2 => ⟨fun h3 => Z ?_, fun h3 => ⟨by omega, by omega, ?_⟩⟩, fun h2 => Z ?_⟩, fun h1 => Z ?_⟩
  · unfold zoneO; rw [h1, decide_eq_false (by omega)]; rfl
  · have : zoneO ds = true := by unfold zoneO; rw [h1, decide_eq_true (by omega)]; rfl
    unfold zoneA zoneB zoneC zoneD zoneE
    rw [this]
    rfl
  · unfold zoneO; rw [h1, decide_eq_false (by omega)]; rfl
  · unfold zoneO; rw [h1]; rfl
/-- Is a leg at most off from an edge, from i on? -/
def pgN (a b c d : Int) (p : Rows) (off : Int) : Nat → Nat → Bool
  | 0, _ => false
  | f + 1, i => closeR [.i a, .i b, .i c, .i d, .i (lg p i 0), .i (lg p i 1), .i (lg p (nxt p.length i) 0), .i (lg p (nxt p.length i) 1), .i off] || pgN a b c d p off f (i + 1)
def pgL (ds : List D) : Bool := pgN (iAt ds 0) (iAt ds 1) (iAt ds 2) (iAt ds 3) (rAt ds 6) (iAt ds 7) (rAt ds 6).length 0
def pgO (ds : List D) : Bool := placeB (iAt ds 0) (iAt ds 1) && (placeB (iAt ds 2) (iAt ds 3) && (plN (rAt ds 6) (rAt ds 6).length 0 && decide ((0 ≤ iAt ds 7 ∧ iAt ds 7 ≤ 3000000) ∧ (rAt ds 6).length ≤ 1000)))
def leg6 : Sh := .agg [.int .i64, .int .i64, .int .i64, .int .i64, .int .i64, .int .i64]
theorem gR38P : GivesIf Tryz.prog 48 [leg6, pts, it] (fun ds => pgO ds = true) (fun ds => .bool (pgL ds)) := by
  refine fn_gives KX (by kernel_rfl) (fun ρ h => ctR9_ok (Sees.of h 102)) (by kernel_rfl) trR38P_is trR38P_low (by decide) (fun W vals ds hr hok => ?_)
  simp only [pgO, Bool.and_eq_true, decide_eq_true_eq] at hok
  obtain ⟨h1, h2, h3, h4, h5⟩ := hok
  have hpl : ∀ k : Nat, k < (rAt ds 6).length → placeB (lg (rAt ds 6) k 0) (lg (rAt ds 6) k 1) = true := fun k hk => (plN_iff _ _).mp h3 k (by omega) (by omega)
  simp only [trR38P]
  refine TT.sat_loop (fun v => ∃ i : Nat, v.i 0 = i ∧ i ≤ (rAt ds 6).length ∧ pgN (iAt ds 0) (iAt ds 1) (iAt ds 2) (iAt ds 3) (rAt ds 6) (iAt ds 7) ((rAt ds 6).length - i) i = pgL ds) (fun v => (rAt ds 6).length - (v.i 0).toNat)
    ⟨0, by simp [val_i, aget, E.ev], by omega, rfl⟩ (fun v hv => ?_)
  obtain ⟨i, i0, i1, i2⟩ := hv
  simp only [TT.sat_ret, TT.sat_ite, TT.sat_ob, TT.sat_next, TT.sat_stuck, put_i, put_b, put_d, put_fi, put_fb, put_fd, Ob.ok, B.ev, E.ev, X.ev, AL.ev, cmp_t, cmp_f, arEv, V.plain, V2.plain, S.plain, S0.plain, V.val, V2.val, S.val, S0.val, bV, iV, List.all_cons, List.all_nil, Bool.and_true, Bool.and_self, envOf_i, envOf_b, envOf_d, List.map_cons, List.map_nil, true_and, Bool.not_eq_true', Bool.not_eq_false', Bool.not_not, Bool.and_eq_true, and_f, cell_lg, cell_lb, cell_lr, cmpP, val_i, val_b, val_d, aget, Nat.reduceBEq, beq_self_eq_true, Bool.false_eq_true, if_true, if_false, Nat.reduceLT, Nat.reduceSub, Nat.sub_self, Nat.lt_irrefl, KXb5, KXb8, i0, eight_eight]
  refine ⟨fun hc => ?_, fun hc => ?_⟩
  · have hi : i < (rAt ds 6).length := by omega
    have hn := nxt_lt hi
    obtain ⟨f, hf⟩ : ∃ f, (rAt ds 6).length - i = f + 1 := ⟨(rAt ds 6).length - i - 1, by omega⟩
    rw [hf, pgN] at i2
    simp only [rem_next1 hi (show (rAt ds 6).length ≤ 281474976710656 by omega), h1, h2, hpl i hi, hpl _ hn, Bool.and_self]
    refine ⟨by omega, by omega, by omega, by omega, by omega, by simp, by omega, by omega, fun q => ?_, fun q => ⟨⟨i + 1, ?_, by omega, ?_⟩, ?_⟩⟩
    · rw [← i2, q]; rfl
    · rw [wrap_in _ (by omega) (by omega)]; rfl
    · rw [show (rAt ds 6).length - (i + 1) = f by omega, ← i2, q]; rfl
    · rw [wrap_in _ (by omega) (by omega)]; omega
  · have : (rAt ds 6).length - i = 0 := by omega
    rw [this, pgN] at i2
    rw [← i2]
end Go.Proofs.YtinfmmofcadjgaaGreat
/- Chapter 38: contracts of the reference's Arrives, Zone, polygon. -/
namespace Go.Proofs.YtinfmmofcadjgaaGreat
open Go.RowKit
/-- All symbols so far. -/
def KY : Interp where
  fi n l := KX.fi n l
  fb n l := match n with | 102 => pgL l | 103 => pgO l | n => KX.fb n l
  fd _ _ := []
theorem KY_KX {ρ : Env} (h : Sees ρ KY 104) : Sees ρ KX 102 := h.trans (by decide) fun n l hn => by
  refine ⟨?_, ?_⟩
  ·
    rfl
  ·
    simp only [KY]
    split <;> first | omega | rfl
theorem KY_KG {ρ : Env} (h : Sees ρ KY 104) : Sees ρ KG 80 := KX_KG (KY_KX h)
theorem gR38A2 : Gives Tryz.prog 9 [psg, it] (fun ds => spanE (arrL ds) (arrH ds) (arrE ds)) := by
  have h := gR38A
  rw [show arrV = fun ds => spanE (arrL ds) (arrH ds) (arrE ds) from funext arrV_eq] at h
  exact h
def cR38A := ctD [psg, it] fun al => .ret (.tup [.agg [sIF 21 arrL al, sIF 22 arrH al], .one (sIF 23 arrE al)])
theorem cR38A_ok {ρ : Env} (h : Sees ρ KG 80) : CtOne Tryz.prog ρ 9 cR38A :=
  ctD_ok gR38A2 (fun _ => rfl) (fun al => by simp only [V.val, V2.val, S.val, S0.val, sIF, sBF, List.map_cons, List.map_nil, iF_ev (s := 21) (f := arrL) (fun l => by rw [(h 21 l (by decide)).1]; simp only [KG, KF, KE, KD, KC, KB, KA, K9, K8, K7, K6, K5, K]), iF_ev (s := 22) (f := arrH) (fun l => by rw [(h 22 l (by decide)).1]; simp only [KG, KF, KE, KD, KC, KB, KA, K9, K8, K7, K6, K5, K]), iF_ev (s := 23) (f := arrE) (fun l => by rw [(h 23 l (by decide)).1]; simp only [KG, KF, KE, KD, KC, KB, KA, K9, K8, K7, K6, K5, K])]; try rfl)
def cR38Z := ctD [psg, it] fun al => .ret (.tup [.agg [sIF 54 zoneA al, sIF 55 zoneB al, sIF 56 zoneC al, sIF 57 zoneD al], .one (sIF 58 zoneE al)])
theorem cR38Z_ok {ρ : Env} (h : Sees ρ KG 80) : CtOne Tryz.prog ρ 15 cR38Z :=
  ctD_ok gR38Z (fun _ => rfl) (fun al => by simp only [V.val, V2.val, S.val, S0.val, sIF, sBF, List.map_cons, List.map_nil, iF_ev (s := 54) (f := zoneA) (fun l => by rw [(h 54 l (by decide)).1]; simp only [KG, KF, KE, KD, KC, KB, KA, K9, K8, K7, K6, K5, K]), iF_ev (s := 55) (f := zoneB) (fun l => by rw [(h 55 l (by decide)).1]; simp only [KG, KF, KE, KD, KC, KB, KA, K9, K8, K7, K6, K5, K]), iF_ev (s := 56) (f := zoneC) (fun l => by rw [(h 56 l (by decide)).1]; simp only [KG, KF, KE, KD, KC, KB, KA, K9, K8, K7, K6, K5, K]), iF_ev (s := 57) (f := zoneD) (fun l => by rw [(h 57 l (by decide)).1]; simp only [KG, KF, KE, KD, KC, KB, KA, K9, K8, K7, K6, K5, K]), iF_ev (s := 58) (f := zoneE) (fun l => by rw [(h 58 l (by decide)).1]; simp only [KG, KF, KE, KD, KC, KB, KA, K9, K8, K7, K6, K5, K])]; try rfl)
def cPgR := ctD [leg6, pts, it] fun al => .ob (.tru (bF 103 pgO al)) (.ret (bV (bF 102 pgL al)))
theorem cPgR_ok {ρ : Env} (h : Sees ρ KY 104) : CtOne Tryz.prog ρ 48 cPgR := by
  refine ctD_if gR38P (fun al v hv => ?_)
  obtain ⟨ho, hv⟩ := hv
  obtain rfl := res_ret hv
  have ho : (bF 103 pgO al).ev ρ = true := ho
  rw [bF_ev (fun l => by rw [(h 103 l (by decide)).2]; simp only [KY])] at ho
  refine ⟨rfl, ho, ?_⟩
  simp only [bV, V.s0, V.val, V2.val, S.val, S0.val, bF_ev (s := 102) (f := pgL) (fun l => by rw [(h 102 l (by decide)).2]; simp only [KY])]
def ctRA : Ct := (9, cR38A) :: (15, cR38Z) :: (48, cPgR) :: ctR9
theorem ctRA_ok {ρ : Env} (h : Sees ρ KY 104) : CtOk Tryz.prog ρ ctRA := .cons (cR38A_ok (KY_KG h)) <| .cons (cR38Z_ok (KY_KG h)) <| .cons (cPgR_ok h) (ctR9_ok (KY_KX h))
end Go.Proofs.YtinfmmofcadjgaaGreat
/- Chapter 38: trees of the reference: During, Near, Rest, Concerns. -/
namespace Go.Proofs.YtinfmmofcadjgaaGreat
open Go.RowKit
-- term trR38D: call Tryz.prog ctRA [] 100 11 (symArgs 0 [psg, it]) [] 0
def trR38D : TT OpR :=
(.ite (.fn 20 (.i (.var 0) (.i (.var 1) (.i (.var 2) (.x (.var 3) .nil)))))
  (.ite (.cmp .geq (.var 4) (.lit 0))
    (.ite (.not (.cmp .lss (.var 4) (.len (.var 3))))
      (.ret ((.tup [(.agg [(.z (.int .i64 (.lit 0))), (.z (.int .i64 (.lit 0)))]), (.one (.z (.int .i64 (.lit 1))))]), [], 3))
      (.ite (.cmp .neq (.fn 23 (.i (.var 0) (.i (.var 1) (.i (.var 2) (.x (.var 3) (.i (.var 4) .nil)))))) (.lit 0))
        (.ret ((.tup [(.agg [(.z (.int .i64 (.lit 0))), (.z (.int .i64 (.lit 0)))]), (.one (.z (.int .i64 (.lit 3))))]), [], 5))
        (.ite (.cmp .neq (.fn 23 (.i (.var 0) (.i (.var 1) (.i (.var 2) (.x (.var 3) (.i (.ar .add .i64 (.var 4) (.lit 1)) .nil)))))) (.lit 0))
          (.ret ((.tup [(.agg [(.z (.int .i64 (.lit 0))), (.z (.int .i64 (.lit 0)))]), (.one (.z (.int .i64 (.lit 3))))]), [], 5))
          (.ret ((.tup [(.agg [(.z (.int .i64 (.fn 21 (.i (.var 0) (.i (.var 1) (.i (.var 2) (.x (.var 3) (.i (.var 4) .nil)))))))), (.z (.int .i64 (.fn 22 (.i (.var 0) (.i (.var 1) (.i (.var 2) (.x (.var 3) (.i (.ar .add .i64 (.var 4) (.lit 1)) .nil))))))))]), (.one (.z (.int .i64 (.lit 0))))]), [], 5)))))
    (.ret ((.tup [(.agg [(.z (.int .i64 (.lit 0))), (.z (.int .i64 (.lit 0)))]), (.one (.z (.int .i64 (.lit 1))))]), [], 3)))
  (.ret ((.tup [(.agg [(.z (.int .i64 (.lit 0))), (.z (.int .i64 (.lit 0)))]), (.one (.z (.int .i64 (.lit 1))))]), [], 3)))
-- end trR38D
set_option maxRecDepth 100000 in
theorem trR38D_is : T.norm 0 (call Tryz.prog ctRA [] 100 11 (symArgs 0 [psg, it]) [] 0) TT.ret = trR38D := by kernel_rfl
theorem trR38D_low : trR38D.low 1000 = true := by kernel_rfl
-- term trR38N: call Tryz.prog ctRA [] 100 13 (symArgs 0 [psg, it, feat]) [] 0
def trR38N : TT OpR :=
(.ite (.fn 20 (.i (.var 0) (.i (.var 1) (.i (.var 2) (.x (.var 3) .nil)))))
  (.ite (.cmp .geq (.var 4) (.lit 0))
    (.ite (.not (.cmp .lss (.var 4) (.len (.var 3))))
      (.ret ((.tup [(.one (.z (.bool (.lit false)))), (.one (.z (.int .i64 (.lit 1))))]), [], 3))
      (.ite (.not (.fn 76 (.i (.var 5) (.i (.var 6) (.i (.var 7) (.i (.var 8) (.i (.var 9) (.x (.var 10) (.i (.var 11) (.i (.var 12) (.x (.var 13) .nil)))))))))))
        (.ret ((.tup [(.one (.z (.bool (.lit false)))), (.one (.z (.int .i64 (.lit 1))))]), [], 3))
        (.ob (.tru (.cmp .leq (.lit 0) (.var 4)))
        (.ob (.tru (.cmp .lss (.var 4) (.len (.var 3))))
        (.ite (.cmp .eql (.var 6) (.lit 4))
          (.ret ((.tup [(.one (.z (.bool (.lit false)))), (.one (.z (.int .i64 (.lit 0))))]), [], 5))
          (.ite (.fn 101 (.i (.var 6) .nil))
            (.ob (.tru (.fn 1 (.i (.var 7) (.i (.var 8) (.i (.rd (.var 3) (.var 4) 0) (.i (.rd (.var 3) (.var 4) 1) (.i (.rd (.var 3) (.var 4) 2) (.i (.rd (.var 3) (.var 4) 3) .nil))))))))
            (.ob (.tru (.cmp .leq (.lit 0) (.ar .add .i64 (.var 9) (.var 2))))
            (.ob (.tru (.cmp .leq (.ar .add .i64 (.var 9) (.var 2)) (.lit 3000000)))
            (.ret ((.tup [(.one (.z (.bool (.fn 2 (.i (.var 7) (.i (.var 8) (.i (.rd (.var 3) (.var 4) 0) (.i (.rd (.var 3) (.var 4) 1) (.i (.rd (.var 3) (.var 4) 2) (.i (.rd (.var 3) (.var 4) 3) (.i (.ar .add .i64 (.var 9) (.var 2)) .nil))))))))))), (.one (.z (.int .i64 (.lit 0))))]), [], 5)))))
            (.ite (.cmp .geq (.fn 70 (.i (.rd (.var 3) (.var 4) 0) (.i (.rd (.var 3) (.var 4) 1) (.x (.var 10) .nil)))) (.lit 0))
              (.ret ((.tup [(.one (.z (.bool (.lit true)))), (.one (.z (.int .i64 (.lit 0))))]), [], 5))
              (.ob (.tru (.fn 103 (.i (.rd (.var 3) (.var 4) 0) (.i (.rd (.var 3) (.var 4) 1) (.i (.rd (.var 3) (.var 4) 2) (.i (.rd (.var 3) (.var 4) 3) (.i (.rd (.var 3) (.var 4) 4) (.i (.rd (.var 3) (.var 4) 5) (.x (.var 10) (.i (.var 2) .nil))))))))))
              (.ret ((.tup [(.one (.z (.bool (.fn 102 (.i (.rd (.var 3) (.var 4) 0) (.i (.rd (.var 3) (.var 4) 1) (.i (.rd (.var 3) (.var 4) 2) (.i (.rd (.var 3) (.var 4) 3) (.i (.rd (.var 3) (.var 4) 4) (.i (.rd (.var 3) (.var 4) 5) (.x (.var 10) (.i (.var 2) .nil)))))))))))), (.one (.z (.int .i64 (.lit 0))))]), [], 5))))))))))
    (.ret ((.tup [(.one (.z (.bool (.lit false)))), (.one (.z (.int .i64 (.lit 1))))]), [], 3)))
  (.ret ((.tup [(.one (.z (.bool (.lit false)))), (.one (.z (.int .i64 (.lit 1))))]), [], 3)))
-- end trR38N
set_option maxRecDepth 100000 in
theorem trR38N_is : T.norm 0 (call Tryz.prog ctRA [] 100 13 (symArgs 0 [psg, it, feat]) [] 0) TT.ret = trR38N := by kernel_rfl
theorem trR38N_low : trR38N.low 1000 = true := by kernel_rfl
-- term trR38R: call Tryz.prog ctRA [] 100 17 (symArgs 0 [psg, it]) [] 0
def trR38R : TT OpR :=
(.ite (.cmp .geq (.var 4) (.lit 0))
  (.ite (.not (.fn 20 (.i (.var 0) (.i (.var 1) (.i (.var 2) (.x (.var 3) .nil))))))
    (.ret ((.tup [(.one (.z (.int .i64 (.lit 0)))), (.one (.z (.int .i64 (.lit 1))))]), [], 1))
    (.ite (.not (.cmp .leq (.var 4) (.lit 10000000)))
      (.ret ((.tup [(.one (.z (.int .i64 (.lit 0)))), (.one (.z (.int .i64 (.lit 1))))]), [], 1))
      (.loop 0 2000 ⟨[(0, (.lit 0))], [], []⟩
        (.ite (.cmp .lss (.var 2000) (.len (.var 3)))
          (.ite (.cmp .neq (.fn 23 (.i (.var 0) (.i (.var 1) (.i (.var 2) (.x (.var 3) (.i (.ar .add .i64 (.var 2000) (.lit 1)) .nil)))))) (.lit 0))
            (.ret ((.tup [(.one (.z (.int .i64 (.lit 0)))), (.one (.z (.int .i64 (.fn 23 (.i (.var 0) (.i (.var 1) (.i (.var 2) (.x (.var 3) (.i (.ar .add .i64 (.var 2000) (.lit 1)) .nil)))))))))]), [], 3))
            (.ite (.cmp .geq (.fn 22 (.i (.var 0) (.i (.var 1) (.i (.var 2) (.x (.var 3) (.i (.ar .add .i64 (.var 2000) (.lit 1)) .nil)))))) (.var 4))
              (.ret ((.tup [(.one (.z (.int .i64 (.var 2000)))), (.one (.z (.int .i64 (.lit 0))))]), [], 3))
              (.next 0 ⟨[(0, (.ar .add .i64 (.var 2000) (.lit 1)))], [], []⟩)))
          (.ret ((.tup [(.one (.z (.int .i64 (.len (.var 3))))), (.one (.z (.int .i64 (.lit 0))))]), [], 3))))))
  (.ite (.not (.fn 20 (.i (.var 0) (.i (.var 1) (.i (.var 2) (.x (.var 3) .nil))))))
    (.ret ((.tup [(.one (.z (.int .i64 (.lit 0)))), (.one (.z (.int .i64 (.lit 1))))]), [], 1))
    (.ret ((.tup [(.one (.z (.int .i64 (.lit 0)))), (.one (.z (.int .i64 (.lit 1))))]), [], 1))))
-- end trR38R
set_option maxRecDepth 100000 in
theorem trR38R_is : T.norm 0 (call Tryz.prog ctRA [] 100 17 (symArgs 0 [psg, it]) [] 0) TT.ret = trR38R := by kernel_rfl
theorem trR38R_low : trR38R.low 1000 = true := by kernel_rfl
-- term trR38C: call Tryz.prog ctRA [] 100 19 (symArgs 0 [psg, bx, it]) [] 0
def trR38C : TT OpR :=
(.ite (.not (.fn 20 (.i (.var 0) (.i (.var 1) (.i (.var 2) (.x (.var 3) .nil))))))
  (.ret ((.tup [(.one (.z (.bool (.lit false)))), (.one (.z (.int .i64 (.lit 1))))]), [], 2))
  (.ite (.not (.fn 31 (.i (.var 4) (.i (.var 5) (.i (.var 6) (.i (.var 7) .nil))))))
    (.ret ((.tup [(.one (.z (.bool (.lit false)))), (.one (.z (.int .i64 (.lit 1))))]), [], 2))
    (.ite (.cmp .lss (.var 8) (.lit 0))
      (.ret ((.tup [(.one (.z (.bool (.lit false)))), (.one (.z (.int .i64 (.lit 1))))]), [], 2))
      (.ite (.cmp .gtr (.var 8) (.len (.var 3)))
        (.ret ((.tup [(.one (.z (.bool (.lit false)))), (.one (.z (.int .i64 (.lit 1))))]), [], 2))
        (.loop 0 4000 ⟨[(0, (.var 8))], [], []⟩
          (.ite (.cmp .lss (.var 4000) (.len (.var 3)))
            (.ob (.tru (.cmp .leq (.lit 0) (.var 4000)))
            (.ob (.tru (.cmp .lss (.var 4000) (.len (.var 3))))
            (.ob (.tru (.cmp .leq (.lit 0) (.var 4000)))
            (.ob (.tru (.cmp .lss (.var 4000) (.len (.var 3))))
            (.ob (.tru (.fn 103 (.i (.rd (.var 3) (.var 4000) 0) (.i (.rd (.var 3) (.var 4000) 1) (.i (.rd (.var 3) (.var 4000) 2) (.i (.rd (.var 3) (.var 4000) 3) (.i (.rd (.var 3) (.var 4000) 4) (.i (.rd (.var 3) (.var 4000) 5) (.x (.app (.row (.i (.var 4) (.i (.var 6) .nil))) (.app (.row (.i (.var 5) (.i (.var 6) .nil))) (.app (.row (.i (.var 5) (.i (.var 7) .nil))) (.app (.row (.i (.var 4) (.i (.var 7) .nil))) .nil)))) (.i (.var 2) .nil))))))))))
            (.ite (.fn 93 (.i (.var 4) (.i (.var 5) (.i (.var 6) (.i (.var 7) (.i (.rd (.var 3) (.var 4000) 0) (.i (.rd (.var 3) (.var 4000) 1) .nil)))))))
              (.ret ((.tup [(.one (.z (.bool (.lit true)))), (.one (.z (.int .i64 (.lit 0))))]), [], 4))
              (.ite (.fn 102 (.i (.rd (.var 3) (.var 4000) 0) (.i (.rd (.var 3) (.var 4000) 1) (.i (.rd (.var 3) (.var 4000) 2) (.i (.rd (.var 3) (.var 4000) 3) (.i (.rd (.var 3) (.var 4000) 4) (.i (.rd (.var 3) (.var 4000) 5) (.x (.app (.row (.i (.var 4) (.i (.var 6) .nil))) (.app (.row (.i (.var 5) (.i (.var 6) .nil))) (.app (.row (.i (.var 5) (.i (.var 7) .nil))) (.app (.row (.i (.var 4) (.i (.var 7) .nil))) .nil)))) (.i (.var 2) .nil)))))))))
                (.ret ((.tup [(.one (.z (.bool (.lit true)))), (.one (.z (.int .i64 (.lit 0))))]), [], 4))
                (.next 0 ⟨[(0, (.ar .add .i64 (.var 4000) (.lit 1)))], [], []⟩))))))))
            (.ret ((.tup [(.one (.z (.bool (.lit false)))), (.one (.z (.int .i64 (.lit 0))))]), [], 4))))))))
-- end trR38C
set_option maxRecDepth 100000 in
theorem trR38C_is : T.norm 0 (call Tryz.prog ctRA [] 100 19 (symArgs 0 [psg, bx, it]) [] 0) TT.ret = trR38C := by kernel_rfl
theorem trR38C_low : trR38C.low 1000 = true := by kernel_rfl
end Go.Proofs.YtinfmmofcadjgaaGreat
/- Chapter 38: the reference's During, Rest. -/
namespace Go.Proofs.YtinfmmofcadjgaaGreat
open Go.RowKit
theorem KYb20 (W : World) (ds l : List D) : (envOf KY W ds).fb 20 l = psgL l := by simp only [envOf, KY, KX, KW, KV, KU, KT, KR, KG, KF, KE, KD, KC, KB, KA, K9, K8, K7, K6, K5, K]
theorem KYi21 (W : World) (ds l : List D) : (envOf KY W ds).fi 21 l = arrL l := by simp only [envOf, KY, KX, KW, KV, KU, KT, KR, KG, KF, KE, KD, KC, KB, KA, K9, K8, K7, K6, K5, K]
theorem KYi22 (W : World) (ds l : List D) : (envOf KY W ds).fi 22 l = arrH l := by simp only [envOf, KY, KX, KW, KV, KU, KT, KR, KG, KF, KE, KD, KC, KB, KA, K9, K8, K7, K6, K5, K]
theorem KYi23 (W : World) (ds l : List D) : (envOf KY W ds).fi 23 l = arrE l := by simp only [envOf, KY, KX, KW, KV, KU, KT, KR, KG, KF, KE, KD, KC, KB, KA, K9, K8, K7, K6, K5, K]
theorem KYb76 (W : World) (ds l : List D) : (envOf KY W ds).fb 76 l = featL l := by simp only [envOf, KY, KX, KW, KV, KU, KT, KR, KG, KF, KE, KD, KC, KB, KA, K9, K8, K7, K6, K5, K]
theorem KYb101 (W : World) (ds l : List D) : (envOf KY W ds).fb 101 l = discL l := by simp only [envOf, KY, KX, KW, KV, KU, KT, KR, KG, KF, KE, KD, KC, KB, KA, K9, K8, K7, K6, K5, K]
theorem KYb1 (W : World) (ds l : List D) : (envOf KY W ds).fb 1 l = six6 l := by simp only [envOf, KY, KX, KW, KV, KU, KT, KR, KG, KF, KE, KD, KC, KB, KA, K9, K8, K7, K6, K5, K]
theorem KYb2 (W : World) (ds l : List D) : (envOf KY W ds).fb 2 l = nearL l := by simp only [envOf, KY, KX, KW, KV, KU, KT, KR, KG, KF, KE, KD, KC, KB, KA, K9, K8, K7, K6, K5, K]
theorem KYi70 (W : World) (ds l : List D) : (envOf KY W ds).fi 70 l = pinR l := by simp only [envOf, KY, KX, KW, KV, KU, KT, KR, KG, KF, KE, KD, KC, KB, KA, K9, K8, K7, K6, K5, K]
theorem KYb102 (W : World) (ds l : List D) : (envOf KY W ds).fb 102 l = pgL l := by simp only [envOf, KY, KX, KW, KV, KU, KT, KR, KG, KF, KE, KD, KC, KB, KA, K9, K8, K7, K6, K5, K]
theorem KYb103 (W : World) (ds l : List D) : (envOf KY W ds).fb 103 l = pgO l := by simp only [envOf, KY, KX, KW, KV, KU, KT, KR, KG, KF, KE, KD, KC, KB, KA, K9, K8, K7, K6, K5, K]
theorem KYb31 (W : World) (ds l : List D) : (envOf KY W ds).fb 31 l = boxL l := by simp only [envOf, KY, KX, KW, KV, KU, KT, KR, KG, KF, KE, KD, KC, KB, KA, K9, K8, K7, K6, K5, K]
theorem KYb93 (W : World) (ds l : List D) : (envOf KY W ds).fb 93 l = inL l := by simp only [envOf, KY, KX, KW, KV, KU, KT, KR, KG, KF, KE, KD, KC, KB, KA, K9, K8, K7, K6, K5, K]
theorem tHi_mono {a b c : Int} {r : Rows} (hp : psgB a b c r = true) {k : Nat} (hk : k < r.length) : tHi r b k ≤ tHi r b (k + 1) := by
  obtain ⟨p1, p2, p3, p4⟩ := psgB_iff hp
  have := leg_le (p4 k hk)
  rw [tHi]; omega
theorem gR38D : Gives Tryz.prog 11 [psg, it] (fun ds => spanE (durL ds) (durH ds) (durE ds)) := by
  refine GivesIf.all (fn_gives KY (by kernel_rfl) (fun ρ h => ctRA_ok (Sees.of h 104)) (by kernel_rfl) trR38D_is trR38D_low (by decide) (fun W vals ds hr _ => ?_))
  simp only [trR38D, TT.sat_ret, TT.sat_ite, TT.sat_ob, TT.sat_next, TT.sat_stuck, put_i, put_b, put_d, put_fi, put_fb, put_fd, Ob.ok, B.ev, E.ev, X.ev, AL.ev, cmp_t, cmp_f, arEv, V.plain, V2.plain, S.plain, S0.plain, V.val, V2.val, S.val, S0.val, bV, iV, List.all_cons, List.all_nil, Bool.and_true, Bool.and_self, envOf_i, envOf_b, envOf_d, List.map_cons, List.map_nil, true_and, Bool.not_eq_true', Bool.not_eq_false', Bool.not_not, Bool.and_eq_true, and_f, cell_lg, cell_lb, cell_lr, cmpP, val_i, val_b, val_d, aget, Nat.reduceBEq, beq_self_eq_true, Bool.false_eq_true, if_true, if_false, Nat.reduceLT, Nat.reduceSub, Nat.sub_self, Nat.lt_irrefl, KYb20, KYi21, KYi22, KYi23, psg_four, pk_eq]
  have Z : durO ds = false → spanE 0 0 1 = spanE (durL ds) (durH ds) (durE ds) := fun h => by
    have hx : durX ds = false := by unfold durX; rw [h]; rfl
    unfold durL durH durE; rw [h, hx]; rfl
  refine ⟨fun h1 => ⟨fun h2 => ⟨fun h3 => Z ?_, fun h3 => ?_⟩, fun h2 => Z ?_⟩, fun h1 => Z ?_⟩
  · unfold durO; rw [h1, decide_eq_false (by omega)]; rfl
  · have hO : durO ds = true := by unfold durO; rw [h1, decide_eq_true (by omega)]; rfl
    obtain ⟨k, hk⟩ := Int.eq_ofNat_of_zero_le h2
    rw [hk] at h3
    obtain ⟨p1, p2, p3, p4⟩ := psgB_iff h1
    have hm := tHi_mono h1 (show k < (rAt ds 3).length by omega)
    have hX : durX ds = !decide (10000000 < tHi (rAt ds 3) (iAt ds 1) (k + 1)) := by unfold durX; rw [hO, hk, Int.toNat_natCast]; rfl
    rw [hk, wrap_in ((k : Int) + 1) (by omega) (by omega), show ((k : Int) + 1) = ((k + 1 : Nat) : Int) from rfl]
    rcases arr_of h1 (k + 1) (by omega) with ⟨t, e1, e2, e3⟩ | ⟨t, e1⟩
    · rcases arr_of h1 k (by omega) with ⟨t', f1, f2, f3⟩ | ⟨t', f1⟩
      · rw [e1, e3, f1, f2]
        rw [decide_eq_false (by omega)] at hX
        refine ⟨fun h => absurd rfl h, fun _ => ⟨fun h => absurd rfl h, fun _ => ?_⟩⟩
        unfold durL durH durE
        rw [hX, hO, hk, Int.toNat_natCast]; rfl
      · omega
    · rw [decide_eq_true t] at hX
      have : spanE 0 0 3 = spanE (durL ds) (durH ds) (durE ds) := by unfold durL durH durE; rw [hX, hO]; rfl
      refine ⟨fun _ => this, fun _ => ⟨fun _ => this, fun h => ?_⟩⟩
      rw [e1] at h; exact absurd h (by decide)
  · unfold durO; rw [h1, decide_eq_false (by omega)]; rfl
  · unfold durO; rw [h1]; rfl
theorem gR38R : Gives Tryz.prog 17 [psg, it] (fun ds => .tuple #[.int .i64 (restK ds), .int .i64 (restE ds)]) := by
  refine GivesIf.all (fn_gives KY (by kernel_rfl) (fun ρ h => ctRA_ok (Sees.of h 104)) (by kernel_rfl) trR38R_is trR38R_low (by decide) (fun W vals ds hr _ => ?_))
  simp only [trR38R, TT.sat_ret, TT.sat_ite, TT.sat_ob, TT.sat_next, TT.sat_stuck, put_i, put_b, put_d, put_fi, put_fb, put_fd, Ob.ok, B.ev, E.ev, X.ev, AL.ev, cmp_t, cmp_f, arEv, V.plain, V2.plain, S.plain, S0.plain, V.val, V2.val, S.val, S0.val, bV, iV, List.all_cons, List.all_nil, Bool.and_true, Bool.and_self, envOf_i, envOf_b, envOf_d, List.map_cons, List.map_nil, true_and, Bool.not_eq_true', Bool.not_eq_false', Bool.not_not, Bool.and_eq_true, and_f, cell_lg, cell_lb, cell_lr, cmpP, val_i, val_b, val_d, aget, Nat.reduceBEq, beq_self_eq_true, Bool.false_eq_true, if_true, if_false, Nat.reduceLT, Nat.reduceSub, Nat.sub_self, Nat.lt_irrefl, KYb20, psg_four, pk_eq]
  have eI : restI ds = if psgB (iAt ds 0) (iAt ds 1) (iAt ds 2) (rAt ds 3) ∧ timeB (iAt ds 4) then restN (rAt ds 3) (iAt ds 1) (iAt ds 4) (rAt ds 3).length 0 else (0, 1) := rfl
  have Z : ¬ (psgB (iAt ds 0) (iAt ds 1) (iAt ds 2) (rAt ds 3) = true ∧ timeB (iAt ds 4) = true) → Value.tuple #[.int .i64 0, .int .i64 1] = Value.tuple #[.int .i64 (restK ds), .int .i64 (restE ds)] := fun h => by
    unfold restK restE; rw [eI, if_neg h]
  have T : timeB (iAt ds 4) = true ↔ 0 ≤ iAt ds 4 ∧ iAt ds 4 ≤ 10000000 := by unfold timeB; exact decide_eq_true_iff
  refine ⟨fun h1 => ⟨fun h2 => Z (fun q => by rw [q.1] at h2; exact absurd h2 (by decide)), fun h2 => ⟨fun h3 => Z (fun q => h3 (T.mp q.2).2), fun h3 => ?_⟩⟩, fun h1 => ⟨fun _ => Z (fun q => h1 (T.mp q.2).1), fun _ => Z (fun q => h1 (T.mp q.2).1)⟩⟩
  have hI : restI ds = restN (rAt ds 3) (iAt ds 1) (iAt ds 4) (rAt ds 3).length 0 := by rw [eI, if_pos ⟨h2, T.mpr (by omega)⟩]
  obtain ⟨p1, p2, p3, p4⟩ := psgB_iff h2
  refine TT.sat_loop (fun v => ∃ i : Nat, v.i 0 = i ∧ i ≤ (rAt ds 3).length ∧ restN (rAt ds 3) (iAt ds 1) (iAt ds 4) ((rAt ds 3).length - i) i = restI ds) (fun v => (rAt ds 3).length - (v.i 0).toNat)
    ⟨0, by simp [val_i, aget, E.ev], by omega, hI.symm⟩ (fun v hv => ?_)
  obtain ⟨i, i0, i1, i2⟩ := hv
  simp only [TT.sat_ret, TT.sat_ite, TT.sat_ob, TT.sat_next, TT.sat_stuck, put_i, put_b, put_d, put_fi, put_fb, put_fd, Ob.ok, B.ev, E.ev, X.ev, AL.ev, cmp_t, cmp_f, arEv, V.plain, V2.plain, S.plain, S0.plain, V.val, V2.val, S.val, S0.val, bV, iV, List.all_cons, List.all_nil, Bool.and_true, Bool.and_self, envOf_i, envOf_b, envOf_d, List.map_cons, List.map_nil, true_and, Bool.not_eq_true', Bool.not_eq_false', Bool.not_not, Bool.and_eq_true, and_f, cell_lg, cell_lb, cell_lr, cmpP, val_i, val_b, val_d, aget, Nat.reduceBEq, beq_self_eq_true, Bool.false_eq_true, if_true, if_false, Nat.reduceLT, Nat.reduceSub, Nat.sub_self, Nat.lt_irrefl, i0, KYi22, KYi23, pk_eq]
  refine ⟨fun hc => ?_, fun hc => ?_⟩
  · have hi : i < (rAt ds 3).length := by omega
    obtain ⟨f, hf⟩ : ∃ f, (rAt ds 3).length - i = f + 1 := ⟨(rAt ds 3).length - i - 1, by omega⟩
    rw [hf, restN] at i2
    rw [wrap_in ((i : Int) + 1) (by omega) (by omega), show ((i : Int) + 1) = ((i + 1 : Nat) : Int) from rfl]
    rcases arr_of h2 (i + 1) (by omega) with ⟨t, e1, e2, e3⟩ | ⟨t, e1⟩
    · rw [e1, e3]
      rw [if_neg (by omega)] at i2
      refine ⟨fun h => absurd rfl h, fun _ => ⟨fun q => ?_, fun q => ⟨⟨i + 1, rfl, by omega, ?_⟩, by omega⟩⟩⟩
      · rw [if_pos q] at i2
        unfold restK restE
        rw [← i2]
      · rw [if_neg q] at i2
        rw [show (rAt ds 3).length - (i + 1) = f by omega]; exact i2
    · rw [e1]
      rw [if_pos t] at i2
      refine ⟨fun _ => ?_, fun h => absurd (show (3 : Int) ≠ 0 by decide) h⟩
      unfold restK restE
      rw [← i2]
  · have hi : (rAt ds 3).length - i = 0 := by omega
    rw [hi, restN] at i2
    unfold restK restE
    rw [← i2, show i = (rAt ds 3).length by omega]
end Go.Proofs.YtinfmmofcadjgaaGreat
/- Chapter 38: the reference's Near, Concerns. -/
namespace Go.Proofs.YtinfmmofcadjgaaGreat
open Go.RowKit
theorem pg_true {a b c d off : Int} {p : Rows} : ∀ (f i : Nat), pgN a b c d p off f i = true ↔ ∃ j, i ≤ j ∧ j < i + f ∧ closeR [.i a, .i b, .i c, .i d, .i (lg p j 0), .i (lg p j 1), .i (lg p (nxt p.length j) 0), .i (lg p (nxt p.length j) 1), .i off] = true
  | 0, i => by
    rw [pgN]
    constructor
    · intro h; cases h
    · rintro ⟨j, h1, h2, _⟩; omega
  | f + 1, i => by
    rw [pgN, Bool.or_eq_true, pg_true f (i + 1)]
    constructor
    · rintro (h | ⟨j, h1, h2, h3⟩)
      · exact ⟨i, by omega, by omega, h⟩
      · exact ⟨j, by omega, by omega, h3⟩
    · rintro ⟨j, h1, h2, h3⟩
      by_cases e : j = i
      · subst e; exact .inl h3
      · exact .inr ⟨j, by omega, by omega, h3⟩
theorem pg_bes {r p : Rows} {k off : Int} : pgN (lg r k 0) (lg r k 1) (lg r k 2) (lg r k 3) p off p.length 0 = besN r p k off p.length 0 := by
  rw [Bool.eq_iff_iff, pg_true, bes_true]
  constructor
  · rintro ⟨j, _, h2, h3⟩
    have hj : j < p.length := by omega
    refine ⟨nxt p.length j, by omega, by have := nxt_lt hj; omega, ?_⟩
    rw [prv_nxt hj]; exact h3
  · rintro ⟨j, _, h2, h3⟩
    have hj : j < p.length := by omega
    refine ⟨prv p.length j, by omega, by have := prv_lt hj; omega, ?_⟩
    rw [nxt_prv hj]; exact h3
theorem disc_one (n : Int) : discL [.i n] = decide (n = 1 ∨ n = 2 ∨ n = 5) := rfl
theorem pgL_eight (a b c d e f : Int) (p : Rows) (off : Int) : pgL [.i a, .i b, .i c, .i d, .i e, .i f, .l p, .i off] = pgN a b c d p off p.length 0 := rfl
theorem pgO_eight (a b c d e f : Int) (p : Rows) (off : Int) : pgO [.i a, .i b, .i c, .i d, .i e, .i f, .l p, .i off] = (placeB a b && (placeB c d && (plN p p.length 0 && decide ((0 ≤ off ∧ off ≤ 3000000) ∧ p.length ≤ 1000)))) := rfl
theorem nearL_seven (a b c d e f r : Int) : nearL [.i a, .i b, .i c, .i d, .i e, .i f, .i r] = nearB a b c d e f r := rfl
set_option maxHeartbeats 1000000 in
theorem gR38N : Gives Tryz.prog 13 [psg, it, feat] (fun ds => .tuple #[.bool (nearPR ds), .int .i64 (nearPE ds)]) := by
  refine GivesIf.all (fn_gives KY (by kernel_rfl) (fun ρ h => ctRA_ok (Sees.of h 104)) (by kernel_rfl) trR38N_is trR38N_low (by decide) (fun W vals ds hr _ => ?_))
  simp only [trR38N, TT.sat_ret, TT.sat_ite, TT.sat_ob, TT.sat_next, TT.sat_stuck, put_i, put_b, put_d, put_fi, put_fb, put_fd, Ob.ok, B.ev, E.ev, X.ev, AL.ev, cmp_t, cmp_f, arEv, V.plain, V2.plain, S.plain, S0.plain, V.val, V2.val, S.val, S0.val, bV, iV, List.all_cons, List.all_nil, Bool.and_true, Bool.and_self, envOf_i, envOf_b, envOf_d, List.map_cons, List.map_nil, true_and, Bool.not_eq_true', Bool.not_eq_false', Bool.not_not, Bool.and_eq_true, and_f, cell_lg, cell_lb, cell_lr, cmpP, val_i, val_b, val_d, aget, Nat.reduceBEq, beq_self_eq_true, Bool.false_eq_true, if_true, if_false, Nat.reduceLT, Nat.reduceSub, Nat.sub_self, Nat.lt_irrefl, KYb20, KYb76, KYb101, KYb1, KYb2, KYi70, KYb102, KYb103, psg_four, feat_nine, disc_one, six_six, nearL_seven, pgL_eight, pgO_eight]
  have F : nearPO ds = false → Value.tuple #[.bool false, .int .i64 1] = Value.tuple #[.bool (nearPR ds), .int .i64 (nearPE ds)] := fun h => by simp [nearPR, nearPE, h]
  refine ⟨fun h1 => ⟨fun h2 => ⟨fun h => F ?_, fun h3 => ⟨fun h => F ?_, fun h4 => ?_⟩⟩, fun h => F ?_⟩, fun h => F ?_⟩
  · simp only [nearPO, Bool.and_eq_false_imp, decide_eq_true_eq]; omega
  · simp only [nearPO, h, Bool.and_false]
  · have hO : nearPO ds = true := by simp only [nearPO, h1, h4, Bool.and_true, Bool.true_and, decide_eq_true_eq]; omega
    obtain ⟨p1, p2, p3, p4⟩ := psgB_iff h1
    have hf := featB_iff.mp h4
    obtain ⟨k, hk⟩ := Int.eq_ofNat_of_zero_le h2
    have hl := p4 k (by omega)
    rw [← hk] at hl
    obtain ⟨l1, l2⟩ := leg_places hl
    have hE : nearPE ds = 0 := by
      unfold nearPE
      rw [hO, if_pos rfl]
      exact nearXE_zero hl (by omega) hf
    have T : ∀ b, nearX (rAt ds 3) (iAt ds 4) (iAt ds 2) (iAt ds 6) (iAt ds 7) (iAt ds 8) (iAt ds 9) (rAt ds 10) = b → Value.tuple #[.bool b, .int .i64 0] = Value.tuple #[.bool (nearPR ds), .int .i64 (nearPE ds)] := fun b h => by
      rw [hE, nearPR, hO, h]; rfl
    obtain ⟨_, _, _, hr', hkk⟩ := hf
    have hwr : IntKind.i64.wrap (iAt ds 9 + iAt ds 2) = iAt ds 9 + iAt ds 2 := wrap_in _ (by omega) (by omega)
    simp only [hwr]
    refine ⟨by omega, by omega, fun k4 => T _ (by rw [nearX, if_pos k4]), fun n4 => ⟨fun hd => ?_, fun hd => ?_⟩⟩
    · rw [decide_eq_true_eq] at hd
      have hp : placeB (iAt ds 7) (iAt ds 8) = true := by
        rcases hkk with q | q | q
        · exact q.2.1
        · omega
        · omega
      rw [hp, l1, l2]
      refine ⟨by simp, by omega, by omega, T _ ?_⟩
      rw [nearX, if_neg n4, if_neg (by omega), (nearR_eq hp l1 l2 (by omega)).1]
    · rw [decide_eq_false_iff_not] at hd
      have hka : (iAt ds 6 = 3 ∨ iAt ds 6 = 6) ∧ polyB (rAt ds 10) = true := by
        rcases hkk with q | q | q
        · omega
        · exact ⟨by omega, q.2.1⟩
        · omega
      obtain ⟨ha, hp⟩ := hka
      have hlen := polyB_len hp
      refine ⟨fun q => T _ ?_, fun q => ⟨?_, T _ ?_⟩⟩
      · rw [nearX, if_neg n4, if_pos ha, decide_eq_true q]; rfl
      · rw [l1, l2, (plN_iff _ _).mpr (fun j _ hj => polyB_pl hp (by omega)), decide_eq_true (by omega)]; exact ⟨rfl, rfl, rfl, rfl⟩
      · rw [nearX, if_neg n4, if_pos ha, decide_eq_false q, Bool.false_or, pg_bes]
  · simp only [nearPO, Bool.and_eq_false_imp, decide_eq_true_eq]; omega
  · simp only [nearPO, h, Bool.false_and]
theorem inL_six (a b c d x y : Int) : inL [.i a, .i b, .i c, .i d, .i x, .i y] = decide (a ≤ x ∧ x ≤ b ∧ c ≤ y ∧ y ≤ d) := rfl
theorem pg_rect {r : Rows} {k off a b c d : Int} (hl : legB r k = true) (hb : boxB a b c d = true) :
    legCon r k a b c d off = (decide (a ≤ lg r k 0 ∧ lg r k 0 ≤ b ∧ c ≤ lg r k 1 ∧ lg r k 1 ≤ d) || pgN (lg r k 0) (lg r k 1) (lg r k 2) (lg r k 3) (rect a b c d) off 4 0) := by
  obtain ⟨l1, l2⟩ := leg_places hl
  have e : pgN (lg r k 0) (lg r k 1) (lg r k 2) (lg r k 3) (rect a b c d) off 4 0 = (closeR [.i (lg r k 0), .i (lg r k 1), .i (lg r k 2), .i (lg r k 3), .i a, .i c, .i b, .i c, .i off] || (closeR [.i (lg r k 0), .i (lg r k 1), .i (lg r k 2), .i (lg r k 3), .i b, .i c, .i b, .i d, .i off] || (closeR [.i (lg r k 0), .i (lg r k 1), .i (lg r k 2), .i (lg r k 3), .i b, .i d, .i a, .i d, .i off] || (closeR [.i (lg r k 0), .i (lg r k 1), .i (lg r k 2), .i (lg r k 3), .i a, .i d, .i a, .i c, .i off] || false)))) := rfl
  have hw : withinR [.i (lg r k 0), .i (lg r k 0), .i (lg r k 1), .i (lg r k 1), .i a, .i b, .i c, .i d] = decide (a ≤ lg r k 0 ∧ lg r k 0 ≤ b ∧ c ≤ lg r k 1 ∧ lg r k 1 ≤ d) := by
    rw [withinR_oct, hb, show boxB (lg r k 0) (lg r k 0) (lg r k 1) (lg r k 1) = true by rw [boxB_t]; rw [placeB_iff] at l1; omega]
    rfl
  unfold legCon
  rw [hw, e]
  generalize closeR _ = x1
  generalize closeR _ = x2
  generalize closeR _ = x3
  generalize closeR _ = x4
  generalize decide (a ≤ lg r k 0 ∧ lg r k 0 ≤ b ∧ c ≤ lg r k 1 ∧ lg r k 1 ≤ d) = x0
  cases x0 <;> cases x1 <;> cases x2 <;> cases x3 <;> cases x4 <;> rfl
theorem gR38C : Gives Tryz.prog 19 [psg, bx, it] (fun ds => .tuple #[.bool (conR ds), .int .i64 (conE ds)]) := by
  refine GivesIf.all (fn_gives KY (by kernel_rfl) (fun ρ h => ctRA_ok (Sees.of h 104)) (by kernel_rfl) trR38C_is trR38C_low (by decide) (fun W vals ds hr _ => ?_))
  simp only [trR38C, TT.sat_ret, TT.sat_ite, TT.sat_ob, TT.sat_next, TT.sat_stuck, put_i, put_b, put_d, put_fi, put_fb, put_fd, Ob.ok, B.ev, E.ev, X.ev, AL.ev, cmp_t, cmp_f, arEv, V.plain, V2.plain, S.plain, S0.plain, V.val, V2.val, S.val, S0.val, bV, iV, List.all_cons, List.all_nil, Bool.and_true, Bool.and_self, envOf_i, envOf_b, envOf_d, List.map_cons, List.map_nil, true_and, Bool.not_eq_true', Bool.not_eq_false', Bool.not_not, Bool.and_eq_true, and_f, cell_lg, cell_lb, cell_lr, cmpP, val_i, val_b, val_d, aget, Nat.reduceBEq, beq_self_eq_true, Bool.false_eq_true, if_true, if_false, Nat.reduceLT, Nat.reduceSub, Nat.sub_self, Nat.lt_irrefl, KYb20, KYb31, psg_four, box_four]
  have F : conO ds = false → Value.tuple #[.bool false, .int .i64 1] = Value.tuple #[.bool (conR ds), .int .i64 (conE ds)] := fun h => by simp [conR, conE, h]
  refine ⟨fun h => F ?_, fun h1 => ⟨fun h => F ?_, fun h2 => ⟨fun h => F ?_, fun h3 => ⟨fun h => F ?_, fun h4 => ?_⟩⟩⟩⟩
  · simp only [conO, h, Bool.false_and]
  · simp only [conO, h, Bool.false_and, Bool.and_false]
  · simp only [conO, Bool.and_eq_false_imp, decide_eq_false_iff_not]; intros; omega
  · simp only [conO, Bool.and_eq_false_imp, decide_eq_false_iff_not]; intros; omega
  have hO : conO ds = true := by simp only [conO, h1, h2, Bool.true_and, decide_eq_true_eq]; omega
  have hE : conE ds = 0 := by unfold conE; rw [hO]; rfl
  obtain ⟨p1, p2, p3, p4⟩ := psgB_iff h1
  obtain ⟨q1, q2, q3, q4, _, _⟩ := boxB_places h2
  obtain ⟨n, hn⟩ := Int.eq_ofNat_of_zero_le (a := iAt ds 8) (by omega)
  have hR : conR ds = conFrom (rAt ds 3) (iAt ds 4) (iAt ds 5) (iAt ds 6) (iAt ds 7) (iAt ds 2) ((rAt ds 3).length - n) n := by unfold conR; rw [hO, hn, Int.toNat_natCast]; rfl
  rw [hE]
  refine TT.sat_loop (fun v => ∃ i : Nat, v.i 0 = i ∧ i ≤ (rAt ds 3).length ∧ conFrom (rAt ds 3) (iAt ds 4) (iAt ds 5) (iAt ds 6) (iAt ds 7) (iAt ds 2) ((rAt ds 3).length - i) i = conR ds) (fun v => (rAt ds 3).length - (v.i 0).toNat)
    ⟨n, by simpa [val_i, aget, E.ev, envOf_i] using hn, by omega, hR.symm⟩ (fun v hv => ?_)
  obtain ⟨i, i0, i1, i2⟩ := hv
  simp only [TT.sat_ret, TT.sat_ite, TT.sat_ob, TT.sat_next, TT.sat_stuck, put_i, put_b, put_d, put_fi, put_fb, put_fd, Ob.ok, B.ev, E.ev, X.ev, AL.ev, cmp_t, cmp_f, arEv, V.plain, V2.plain, S.plain, S0.plain, V.val, V2.val, S.val, S0.val, bV, iV, List.all_cons, List.all_nil, Bool.and_true, Bool.and_self, envOf_i, envOf_b, envOf_d, List.map_cons, List.map_nil, true_and, Bool.not_eq_true', Bool.not_eq_false', Bool.not_not, Bool.and_eq_true, and_f, cell_lg, cell_lb, cell_lr, cmpP, val_i, val_b, val_d, aget, Nat.reduceBEq, beq_self_eq_true, Bool.false_eq_true, if_true, if_false, Nat.reduceLT, Nat.reduceSub, Nat.sub_self, Nat.lt_irrefl, i0, KYb93, KYb102, KYb103, inL_six, pgL_eight, pgO_eight, List.cons_append, List.nil_append]
  refine ⟨fun hc => ?_, fun hc => ?_⟩
  · have hi : i < (rAt ds 3).length := by omega
    have hl := p4 i hi
    obtain ⟨l1, l2⟩ := leg_places hl
    obtain ⟨f, hf⟩ : ∃ f, (rAt ds 3).length - i = f + 1 := ⟨(rAt ds 3).length - i - 1, by omega⟩
    rw [hf, conFrom, pg_rect hl h2] at i2
    have hpl : plN [[D.i (iAt ds 4), D.i (iAt ds 6)], [D.i (iAt ds 5), D.i (iAt ds 6)], [D.i (iAt ds 5), D.i (iAt ds 7)], [D.i (iAt ds 4), D.i (iAt ds 7)]] 4 0 = true := by
      show (placeB (iAt ds 4) (iAt ds 6) && (placeB (iAt ds 5) (iAt ds 6) && (placeB (iAt ds 5) (iAt ds 7) && (placeB (iAt ds 4) (iAt ds 7) && true)))) = true
      rw [q1, q2, q3, q4]; rfl
    have hdd : decide ((0 ≤ iAt ds 2 ∧ iAt ds 2 ≤ 3000000) ∧ 4 ≤ 1000) = true := decide_eq_true (by omega)
    have M : (rAt ds 3).length - (IntKind.i64.wrap ((i : Int) + 1)).toNat < (rAt ds 3).length - (i : Int).toNat := by rw [wrap_in _ (by omega) (by omega)]; omega
    refine ⟨by omega, by omega, by omega, by omega, ⟨l1, l2, hpl, hdd⟩, fun a => ?_, fun a => ⟨fun b => ?_, fun b => ⟨⟨i + 1, ?_, by omega, ?_⟩, M⟩⟩⟩
    · rw [← i2, a]; rfl
    · rw [← i2, a, show pgN _ _ _ _ (rect (iAt ds 4) (iAt ds 5) (iAt ds 6) (iAt ds 7)) (iAt ds 2) 4 0 = true from b]; rfl
    · rw [wrap_in _ (by omega) (by omega)]; rfl
    · rw [show (rAt ds 3).length - (i + 1) = f by omega, ← i2, a, show pgN _ _ _ _ (rect (iAt ds 4) (iAt ds 5) (iAt ds 6) (iAt ds 7)) (iAt ds 2) 4 0 = false from b]; rfl
  · have : (rAt ds 3).length - i = 0 := by omega
    rw [this, conFrom] at i2
    rw [← i2]
end Go.Proofs.YtinfmmofcadjgaaGreat
/- Chapter 38: contracts of the reference of layer 38. -/
namespace Go.Proofs.YtinfmmofcadjgaaGreat
open Go.RowKit
def cR38D := ctD [psg, it] fun al => .ret (.tup [.agg [sIF 24 durL al, sIF 25 durH al], .one (sIF 26 durE al)])
theorem cR38D_ok {ρ : Env} (h : Sees ρ KG 80) : CtOne Tryz.prog ρ 11 cR38D :=
  ctD_ok gR38D (fun _ => rfl) (fun al => by simp only [V.val, V2.val, S.val, S0.val, sIF, sBF, List.map_cons, List.map_nil, iF_ev (s := 24) (f := durL) (fun l => by rw [(h 24 l (by decide)).1]; simp only [KG, KF, KE, KD, KC, KB, KA, K9, K8, K7, K6, K5, K]), iF_ev (s := 25) (f := durH) (fun l => by rw [(h 25 l (by decide)).1]; simp only [KG, KF, KE, KD, KC, KB, KA, K9, K8, K7, K6, K5, K]), iF_ev (s := 26) (f := durE) (fun l => by rw [(h 26 l (by decide)).1]; simp only [KG, KF, KE, KD, KC, KB, KA, K9, K8, K7, K6, K5, K])]; try rfl)
def cR38R := ctD [psg, it] fun al => .ret (.tup [.one (sIF 27 restK al), .one (sIF 28 restE al)])
theorem cR38R_ok {ρ : Env} (h : Sees ρ KG 80) : CtOne Tryz.prog ρ 17 cR38R :=
  ctD_ok gR38R (fun _ => rfl) (fun al => by simp only [V.val, V2.val, S.val, S0.val, sIF, sBF, List.map_cons, List.map_nil, iF_ev (s := 27) (f := restK) (fun l => by rw [(h 27 l (by decide)).1]; simp only [KG, KF, KE, KD, KC, KB, KA, K9, K8, K7, K6, K5, K]), iF_ev (s := 28) (f := restE) (fun l => by rw [(h 28 l (by decide)).1]; simp only [KG, KF, KE, KD, KC, KB, KA, K9, K8, K7, K6, K5, K])]; try rfl)
def cR38N := ctD [psg, it, feat] fun al => .ret (.tup [.one (sBF 77 nearPR al), .one (sIF 77 nearPE al)])
theorem cR38N_ok {ρ : Env} (h : Sees ρ KG 80) : CtOne Tryz.prog ρ 13 cR38N :=
  ctD_ok gR38N (fun _ => rfl) (fun al => by simp only [V.val, V2.val, S.val, S0.val, sIF, sBF, List.map_cons, List.map_nil, bF_ev (s := 77) (f := nearPR) (fun l => by rw [(h 77 l (by decide)).2]; simp only [KG, KF, KE, KD, KC, KB, KA, K9, K8, K7, K6, K5, K]), iF_ev (s := 77) (f := nearPE) (fun l => by rw [(h 77 l (by decide)).1]; simp only [KG, KF, KE, KD, KC, KB, KA, K9, K8, K7, K6, K5, K])]; try rfl)
def cR38C := ctD [psg, bx, it] fun al => .ret (.tup [.one (sBF 60 conR al), .one (sIF 60 conE al)])
theorem cR38C_ok {ρ : Env} (h : Sees ρ KG 80) : CtOne Tryz.prog ρ 19 cR38C :=
  ctD_ok gR38C (fun _ => rfl) (fun al => by simp only [V.val, V2.val, S.val, S0.val, sIF, sBF, List.map_cons, List.map_nil, bF_ev (s := 60) (f := conR) (fun l => by rw [(h 60 l (by decide)).2]; simp only [KG, KF, KE, KD, KC, KB, KA, K9, K8, K7, K6, K5, K]), iF_ev (s := 60) (f := conE) (fun l => by rw [(h 60 l (by decide)).1]; simp only [KG, KF, KE, KD, KC, KB, KA, K9, K8, K7, K6, K5, K])]; try rfl)
def ctRB : Ct := (11, cR38D) :: (17, cR38R) :: (13, cR38N) :: (19, cR38C) :: ctRA
theorem ctRB_ok {ρ : Env} (h : Sees ρ KY 104) : CtOk Tryz.prog ρ ctRB := .cons (cR38D_ok (KY_KG h)) <| .cons (cR38R_ok (KY_KG h)) <| .cons (cR38N_ok (KY_KG h)) <| .cons (cR38C_ok (KY_KG h)) (ctRA_ok h)
end Go.Proofs.YtinfmmofcadjgaaGreat
/- Chapter 38: tree of the reference's Holds. -/
namespace Go.Proofs.YtinfmmofcadjgaaGreat
open Go.RowKit
-- term trR38H: call Tryz.prog ctRB [] 100 21 (symArgs 0 [psg, it, it, pt]) [] 0
def trR38H : TT OpR :=
(.ite (.fn 20 (.i (.var 0) (.i (.var 1) (.i (.var 2) (.x (.var 3) .nil)))))
  (.ite (.cmp .geq (.var 4) (.lit 0))
    (.ite (.cmp .geq (.var 5) (.lit 0))
      (.ite (.not (.cmp .lss (.var 4) (.len (.var 3))))
        (.ret ((.tup [(.one (.z (.bool (.lit false)))), (.one (.z (.int .i64 (.lit 1))))]), [], 3))
        (.ite (.not (.fn 3 (.i (.var 6) (.i (.var 7) .nil))))
          (.ret ((.tup [(.one (.z (.bool (.lit false)))), (.one (.z (.int .i64 (.lit 1))))]), [], 3))
          (.ite (.not (.cmp .leq (.var 5) (.lit 10000000)))
            (.ret ((.tup [(.one (.z (.bool (.lit false)))), (.one (.z (.int .i64 (.lit 1))))]), [], 3))
            (.ite (.cmp .neq (.fn 26 (.i (.var 0) (.i (.var 1) (.i (.var 2) (.x (.var 3) (.i (.var 4) .nil)))))) (.lit 0))
              (.ret ((.tup [(.one (.z (.bool (.lit false)))), (.one (.z (.int .i64 (.fn 26 (.i (.var 0) (.i (.var 1) (.i (.var 2) (.x (.var 3) (.i (.var 4) .nil)))))))))]), [], 4))
              (.ob (.tru (.cmp .leq (.lit 0) (.var 4)))
              (.ob (.tru (.cmp .lss (.var 4) (.len (.var 3))))
              (.ob (.tru (.cmp .leq (.lit 0) (.var 4)))
              (.ob (.tru (.cmp .lss (.var 4) (.len (.var 3))))
              (.ob (.tru (.fn 1 (.i (.var 6) (.i (.var 7) (.i (.rd (.var 3) (.var 4) 0) (.i (.rd (.var 3) (.var 4) 1) (.i (.rd (.var 3) (.var 4) 2) (.i (.rd (.var 3) (.var 4) 3) .nil))))))))
              (.ob (.tru (.cmp .leq (.lit 0) (.var 2)))
              (.ob (.tru (.cmp .leq (.var 2) (.lit 3000000)))
              (.ite (.fn 2 (.i (.var 6) (.i (.var 7) (.i (.rd (.var 3) (.var 4) 0) (.i (.rd (.var 3) (.var 4) 1) (.i (.rd (.var 3) (.var 4) 2) (.i (.rd (.var 3) (.var 4) 3) (.i (.var 2) .nil))))))))
                (.ite (.cmp .leq (.fn 24 (.i (.var 0) (.i (.var 1) (.i (.var 2) (.x (.var 3) (.i (.var 4) .nil)))))) (.var 5))
                  (.ret ((.tup [(.one (.z (.bool (.cmp .leq (.var 5) (.fn 25 (.i (.var 0) (.i (.var 1) (.i (.var 2) (.x (.var 3) (.i (.var 4) .nil)))))))))), (.one (.z (.int .i64 (.lit 0))))]), [], 4))
                  (.ret ((.tup [(.one (.z (.bool (.lit false)))), (.one (.z (.int .i64 (.lit 0))))]), [], 4)))
                (.ret ((.tup [(.one (.z (.bool (.lit false)))), (.one (.z (.int .i64 (.lit 0))))]), [], 4))))))))))))))
      (.ite (.not (.cmp .lss (.var 4) (.len (.var 3))))
        (.ret ((.tup [(.one (.z (.bool (.lit false)))), (.one (.z (.int .i64 (.lit 1))))]), [], 3))
        (.ite (.not (.fn 3 (.i (.var 6) (.i (.var 7) .nil))))
          (.ret ((.tup [(.one (.z (.bool (.lit false)))), (.one (.z (.int .i64 (.lit 1))))]), [], 3))
          (.ret ((.tup [(.one (.z (.bool (.lit false)))), (.one (.z (.int .i64 (.lit 1))))]), [], 3)))))
    (.ite (.cmp .geq (.var 5) (.lit 0))
      (.ret ((.tup [(.one (.z (.bool (.lit false)))), (.one (.z (.int .i64 (.lit 1))))]), [], 3))
      (.ret ((.tup [(.one (.z (.bool (.lit false)))), (.one (.z (.int .i64 (.lit 1))))]), [], 3))))
  (.ite (.cmp .geq (.var 5) (.lit 0))
    (.ret ((.tup [(.one (.z (.bool (.lit false)))), (.one (.z (.int .i64 (.lit 1))))]), [], 3))
    (.ret ((.tup [(.one (.z (.bool (.lit false)))), (.one (.z (.int .i64 (.lit 1))))]), [], 3))))
-- end trR38H
set_option maxRecDepth 100000 in
theorem trR38H_is : T.norm 0 (call Tryz.prog ctRB [] 100 21 (symArgs 0 [psg, it, it, pt]) [] 0) TT.ret = trR38H := by kernel_rfl
theorem trR38H_low : trR38H.low 1000 = true := by kernel_rfl
end Go.Proofs.YtinfmmofcadjgaaGreat
/- Chapter 38: the reference's Holds; all contracts. -/
namespace Go.Proofs.YtinfmmofcadjgaaGreat
open Go.RowKit
theorem KYb3 (W : World) (ds l : List D) : (envOf KY W ds).fb 3 l = placeL l := by simp only [envOf, KY, KX, KW, KV, KU, KT, KR, KG, KF, KE, KD, KC, KB, KA, K9, K8, K7, K6, K5, K]
theorem KYi24 (W : World) (ds l : List D) : (envOf KY W ds).fi 24 l = durL l := by simp only [envOf, KY, KX, KW, KV, KU, KT, KR, KG, KF, KE, KD, KC, KB, KA, K9, K8, K7, K6, K5, K]
theorem KYi25 (W : World) (ds l : List D) : (envOf KY W ds).fi 25 l = durH l := by simp only [envOf, KY, KX, KW, KV, KU, KT, KR, KG, KF, KE, KD, KC, KB, KA, K9, K8, K7, K6, K5, K]
theorem KYi26 (W : World) (ds l : List D) : (envOf KY W ds).fi 26 l = durE l := by simp only [envOf, KY, KX, KW, KV, KU, KT, KR, KG, KF, KE, KD, KC, KB, KA, K9, K8, K7, K6, K5, K]
theorem holdsR_eq (ds : List D) : holdsR ds = (placeB (iAt ds 6) (iAt ds 7) && timeB (iAt ds 5) && decide (durE (pk (iAt ds 0) (iAt ds 1) (iAt ds 2) (rAt ds 3) (iAt ds 4)) = 0) && nearR [.i (iAt ds 6), .i (iAt ds 7), .i (lg (rAt ds 3) (iAt ds 4) 0), .i (lg (rAt ds 3) (iAt ds 4) 1), .i (lg (rAt ds 3) (iAt ds 4) 2), .i (lg (rAt ds 3) (iAt ds 4) 3), .i (iAt ds 2)] && decide (durL (pk (iAt ds 0) (iAt ds 1) (iAt ds 2) (rAt ds 3) (iAt ds 4)) ≤ iAt ds 5 ∧ iAt ds 5 ≤ durH (pk (iAt ds 0) (iAt ds 1) (iAt ds 2) (rAt ds 3) (iAt ds 4)))) := rfl
theorem holdsE_eq (ds : List D) : holdsE ds = if placeB (iAt ds 6) (iAt ds 7) && timeB (iAt ds 5) then durE (pk (iAt ds 0) (iAt ds 1) (iAt ds 2) (rAt ds 3) (iAt ds 4)) else 1 := rfl
theorem durO_pk (a b c : Int) (r : Rows) (k : Int) : durO (pk a b c r k) = (psgB a b c r && decide (0 ≤ k ∧ k < r.length)) := rfl
theorem gR38H : Gives Tryz.prog 21 [psg, it, it, pt] holdsV := by
  refine GivesIf.all (fn_gives KY (by kernel_rfl) (fun ρ h => ctRB_ok (Sees.of h 104)) (by kernel_rfl) trR38H_is trR38H_low (by decide) (fun W vals ds hr _ => ?_))
  simp only [trR38H, TT.sat_ret, TT.sat_ite, TT.sat_ob, TT.sat_next, TT.sat_stuck, put_i, put_b, put_d, put_fi, put_fb, put_fd, Ob.ok, B.ev, E.ev, X.ev, AL.ev, cmp_t, cmp_f, arEv, V.plain, V2.plain, S.plain, S0.plain, V.val, V2.val, S.val, S0.val, bV, iV, List.all_cons, List.all_nil, Bool.and_true, Bool.and_self, envOf_i, envOf_b, envOf_d, List.map_cons, List.map_nil, true_and, Bool.not_eq_true', Bool.not_eq_false', Bool.not_not, Bool.and_eq_true, and_f, cell_lg, cell_lb, cell_lr, cmpP, val_i, val_b, val_d, aget, Nat.reduceBEq, beq_self_eq_true, Bool.false_eq_true, if_true, if_false, Nat.reduceLT, Nat.reduceSub, Nat.sub_self, Nat.lt_irrefl, KYb1, KYb2, KYb3, KYb20, KYi24, KYi25, KYi26, psg_four, pk_eq, place_two, six_six, nearL_seven]
  unfold holdsV
  rw [holdsR_eq, holdsE_eq]
  have T : timeB (iAt ds 5) = true ↔ 0 ≤ iAt ds 5 ∧ iAt ds 5 ≤ 10000000 := by unfold timeB; exact decide_eq_true_iff
  have Z : (psgB (iAt ds 0) (iAt ds 1) (iAt ds 2) (rAt ds 3) = true → (0 ≤ iAt ds 4 ∧ iAt ds 4 < (rAt ds 3).length) → (0 ≤ iAt ds 5 ∧ iAt ds 5 ≤ 10000000) → placeB (iAt ds 6) (iAt ds 7) = true → False) → Value.tuple #[.bool false, .int .i64 1] = Value.tuple #[.bool (placeB (iAt ds 6) (iAt ds 7) && timeB (iAt ds 5) && decide (durE (pk (iAt ds 0) (iAt ds 1) (iAt ds 2) (rAt ds 3) (iAt ds 4)) = 0) && nearR [.i (iAt ds 6), .i (iAt ds 7), .i (lg (rAt ds 3) (iAt ds 4) 0), .i (lg (rAt ds 3) (iAt ds 4) 1), .i (lg (rAt ds 3) (iAt ds 4) 2), .i (lg (rAt ds 3) (iAt ds 4) 3), .i (iAt ds 2)] && decide (durL (pk (iAt ds 0) (iAt ds 1) (iAt ds 2) (rAt ds 3) (iAt ds 4)) ≤ iAt ds 5 ∧ iAt ds 5 ≤ durH (pk (iAt ds 0) (iAt ds 1) (iAt ds 2) (rAt ds 3) (iAt ds 4)))), .int .i64 (if placeB (iAt ds 6) (iAt ds 7) && timeB (iAt ds 5) then durE (pk (iAt ds 0) (iAt ds 1) (iAt ds 2) (rAt ds 3) (iAt ds 4)) else 1)] := by
    intro h
    cases hpt : placeB (iAt ds 6) (iAt ds 7) && timeB (iAt ds 5) with
    | false => rfl
    | true =>
      rw [Bool.and_eq_true] at hpt
      have hO : durO (pk (iAt ds 0) (iAt ds 1) (iAt ds 2) (rAt ds 3) (iAt ds 4)) = false := by
        rw [durO_pk, Bool.eq_false_iff]
        intro q
        rw [Bool.and_eq_true, decide_eq_true_eq] at q
        exact h q.1 q.2 (T.mp hpt.2) hpt.1
      have hE : durE (pk (iAt ds 0) (iAt ds 1) (iAt ds 2) (rAt ds 3) (iAt ds 4)) = 1 := by unfold durE; rw [hO]; rfl
      rw [hE]; rfl
  refine ⟨fun h1 => ⟨fun h2 => ⟨fun h3 => ⟨fun h4 => Z (fun _ q _ _ => by omega), fun h4 => ⟨fun h5 => Z (fun _ _ _ q => by rw [q] at h5; exact absurd h5 (by decide)), fun h5 => ⟨fun h6 => Z (fun _ _ q _ => by omega), fun h6 => ?_⟩⟩⟩, fun h3 => ⟨fun _ => Z (fun _ _ q _ => by omega), fun _ => ⟨fun _ => Z (fun _ _ q _ => by omega), fun _ => Z (fun _ _ q _ => by omega)⟩⟩⟩, fun h2 => ⟨fun _ => Z (fun _ q _ _ => by omega), fun _ => Z (fun _ q _ _ => by omega)⟩⟩, fun h1 => ⟨fun _ => Z (fun q _ _ _ => by rw [q] at h1; exact absurd h1 (by decide)), fun _ => Z (fun q _ _ _ => by rw [q] at h1; exact absurd h1 (by decide))⟩⟩
  obtain ⟨p1, p2, p3, p4⟩ := psgB_iff h1
  obtain ⟨k, hk⟩ := Int.eq_ofNat_of_zero_le h2
  have hl := p4 k (by omega)
  rw [← hk] at hl
  obtain ⟨l1, l2⟩ := leg_places hl
  have ht : timeB (iAt ds 5) = true := T.mpr (by omega)
  rw [h5, ht, l1, l2, (nearR_eq h5 l1 l2 (show 0 ≤ iAt ds 2 ∧ iAt ds 2 ≤ 3000000 by omega)).1]
  refine ⟨fun q => ?_, fun q => ⟨by omega, by omega, by omega, by omega, by simp, by omega, by omega, fun n => ⟨fun a => ?_, fun a => ?_⟩, fun n => ?_⟩⟩
  · rw [decide_eq_false q]; rfl
  · have q' : durE (pk (iAt ds 0) (iAt ds 1) (iAt ds 2) (rAt ds 3) (iAt ds 4)) = 0 := Decidable.not_not.1 q
    rw [q', n]
    simp [a, cmpEv]
  · have q' : durE (pk (iAt ds 0) (iAt ds 1) (iAt ds 2) (rAt ds 3) (iAt ds 4)) = 0 := Decidable.not_not.1 q
    rw [q', n]
    simp [a]
  · have q' : durE (pk (iAt ds 0) (iAt ds 1) (iAt ds 2) (rAt ds 3) (iAt ds 4)) = 0 := Decidable.not_not.1 q
    rw [q', n]
    simp
theorem gR38H2 : Gives Tryz.prog 21 [psg, it, it, pt] (fun ds => .tuple #[.bool (holdsR ds), .int .i64 (holdsE ds)]) := gR38H
def cR38H := ctD [psg, it, it, pt] fun al => .ret (.tup [.one (sBF 52 holdsR al), .one (sIF 53 holdsE al)])
theorem cR38H_ok {ρ : Env} (h : Sees ρ KG 80) : CtOne Tryz.prog ρ 21 cR38H :=
  ctD_ok gR38H2 (fun _ => rfl) (fun al => by simp only [V.val, V2.val, S.val, S0.val, sIF, sBF, List.map_cons, List.map_nil, bF_ev (s := 52) (f := holdsR) (fun l => by rw [(h 52 l (by decide)).2]; simp only [KG, KF, KE, KD, KC, KB, KA, K9, K8, K7, K6, K5, K]), iF_ev (s := 53) (f := holdsE) (fun l => by rw [(h 53 l (by decide)).1]; simp only [KG, KF, KE, KD, KC, KB, KA, K9, K8, K7, K6, K5, K])]; try rfl)
def ctMR : Ct := (21, cR38H) :: (11, cR38D) :: (17, cR38R) :: (13, cR38N) :: (19, cR38C) :: (9, cR38A) :: (15, cR38Z) :: (7, cR38V) :: ctLaw
theorem ctMR_ok {ρ : Env} (h : Sees ρ KG 80) : CtOk Tryz.prog ρ ctMR := .cons (cR38H_ok h) <| .cons (cR38D_ok h) <| .cons (cR38R_ok h) <| .cons (cR38N_ok h) <| .cons (cR38C_ok h) <| .cons (cR38A_ok h) <| .cons (cR38Z_ok h) <| .cons (cR38V_ok h) (ctLaw_ok h)
end Go.Proofs.YtinfmmofcadjgaaGreat
/- Chapter 38: tree of the law PassageMatchesReference. -/
namespace Go.Proofs.YtinfmmofcadjgaaGreat
open Go.RowKit
-- term trMatchLaw: call Tryz.prog ctMR [] 100 3 (symArgs 0 [psg, it, feat, bx, it, pt]) [] 0
def trMatchLaw : TT OpR :=
(.ite (.cmp .leq (.len (.var 3)) (.lit 8))
  (.ite (.not (.cmp .leq (.len (.var 10)) (.lit 24)))
    (.ret ((.v (.one (.z (.bool (.lit true))))), [], 6))
    (.ret ((.v (.one (.z (.bool (.lit true))))), [], 10)))
  (.ite (.cmp .gtr (.len (.var 3)) (.lit 40))
    (.ite (.not (.cmp .leq (.len (.var 10)) (.lit 24)))
      (.ret ((.v (.one (.z (.bool (.lit true))))), [], 6))
      (.ret ((.v (.one (.z (.bool (.lit true))))), [], 10)))
    (.ret ((.v (.one (.z (.bool (.lit true))))), [], 6))))
-- end trMatchLaw
set_option maxRecDepth 100000 in
theorem trMatchLaw_is : T.norm 0 (call Tryz.prog ctMR [] 100 3 (symArgs 0 [psg, it, feat, bx, it, pt]) [] 0) TT.ret = trMatchLaw := by kernel_rfl
theorem trMatchLaw_low : trMatchLaw.low 1000 = true := by kernel_rfl
end Go.Proofs.YtinfmmofcadjgaaGreat
/- Chapter 38: the law PassageMatchesReference. -/
namespace Go.Proofs.YtinfmmofcadjgaaGreat
open Go.RowKit
theorem gMatchLaw : Gives Tryz.prog 3 [psg, it, feat, bx, it, pt] (fun _ => .bool true) := by
  refine GivesIf.all (fn_gives KG (by kernel_rfl) (fun ρ h => ctMR_ok (Sees.of h 80)) (by kernel_rfl) trMatchLaw_is trMatchLaw_low (by decide) (fun W vals ds hr _ => ?_))
  simp only [trMatchLaw, TT.sat_ret, TT.sat_ite, TT.sat_ob, TT.sat_next, TT.sat_stuck, put_i, put_b, put_d, put_fi, put_fb, put_fd, Ob.ok, B.ev, E.ev, X.ev, AL.ev, cmp_t, cmp_f, arEv, V.plain, V2.plain, S.plain, S0.plain, V.val, V2.val, S.val, S0.val, bV, iV, List.all_cons, List.all_nil, Bool.and_true, Bool.and_self, envOf_i, envOf_b, envOf_d, List.map_cons, List.map_nil, true_and, Bool.not_eq_true', Bool.not_eq_false', Bool.not_not, Bool.and_eq_true, and_f, cell_lg, cell_lb, cell_lr, cmpP, val_i, val_b, val_d, aget, Nat.reduceBEq, beq_self_eq_true, Bool.false_eq_true, if_true, if_false, Nat.reduceLT, Nat.reduceSub, Nat.sub_self, Nat.lt_irrefl]
  simp
end Go.Proofs.YtinfmmofcadjgaaGreat
