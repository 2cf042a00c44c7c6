/- LLists, merged: TEs, Es, TEt, Ev, Ew. -/
import Derived.Test.YtglepdhapakmbaaMW
import Derived.Test.YtglepdhapakmbaaLCovers
set_option linter.unusedSimpArgs false
set_option linter.unusedVariables false
/- Chapter 07: the tree of feature.Shown. -/
namespace Go.Proofs.Ytglepdhapakmbaa
open Go.RowKit
def featK : List CK := [.int .i64, .int .i64, .int .i64, .int .i64, .int .i64, .sl ptK, .int .i64, .int .i64, .sl secK]
def feats : Sh := .one (.sl featK)
-- term trList: call Try.prog ctE11 (Lt.of []) 100 22 (symArgs 0 [feats]) [] 0
def trList : TT OpR :=
(.loop 0 1000 ⟨[(0, (.lit 0)), (1, (.lit 0))], [], []⟩
  (.ite (.cmp .lss (.var 1001) (.len (.var 0)))
    (.ob (.tru (.cmp .leq (.lit 0) (.var 1001)))
    (.ob (.tru (.cmp .lss (.var 1001) (.len (.var 0))))
    (.ite (.not (.fn 76 (.i (.rd (.var 0) (.var 1001) 0) (.i (.rd (.var 0) (.var 1001) 1) (.i (.rd (.var 0) (.var 1001) 2) (.i (.rd (.var 0) (.var 1001) 3) (.i (.rd (.var 0) (.var 1001) 4) (.x (.rd (.var 0) (.var 1001) 5) (.i (.rd (.var 0) (.var 1001) 6) (.i (.rd (.var 0) (.var 1001) 7) (.x (.rd (.var 0) (.var 1001) 8) .nil)))))))))))
      (.ret ((.v (.one (.z (.bool (.lit false))))), [], 2))
      (.ite (.cmp .leq (.rd (.var 0) (.var 1001) 0) (.var 1000))
        (.ret ((.v (.one (.z (.bool (.lit false))))), [], 2))
        (.next 0 ⟨[(0, (.rd (.var 0) (.var 1001) 0)), (1, (.ar .add .i64 (.var 1001) (.lit 1)))], [], []⟩)))))
    (.ret ((.v (.one (.z (.bool (.cmp .leq (.len (.var 0)) (.lit 300)))))), [], 2))))
-- end trList
def trList_h : List (Nat × St) := [
(0, ⟨([(.v (.one (.z (.ext [(.int .i64), (.int .i64), (.int .i64), (.int .i64), (.int .i64), (.sl [(.int .i64), (.int .i64)]), (.int .i64), (.int .i64), (.sl [(.int .i64), (.int .i64), (.int .i64), (.int .i64), (.int .i64), (.int .i64)])] (.var 0) false)))), (.v (.one (.z .any))), (.v (.one (.z (.bool (.lit false))))), (.v (.one (.z (.int .i64 (.var 1000))))), (.v (.one (.z .any))), (.v (.one (.z .any))), (.v (.one (.z (.ext [(.int .i64), (.int .i64), (.int .i64), (.int .i64), (.int .i64), (.sl [(.int .i64), (.int .i64)]), (.int .i64), (.int .i64), (.sl [(.int .i64), (.int .i64), (.int .i64), (.int .i64), (.int .i64), (.int .i64)])] (.var 0) false)))), (.v (.one (.z (.int .i64 (.len (.var 0)))))), (.v (.one (.z (.int .i64 (.var 1001)))))] ++ List.replicate 18 V.any), [], 1, []⟩)]
def trList_j : List (FuncId × Nat × Nat × St) := [
]
set_option maxRecDepth 100000 in
theorem trList_is : T.norm 0 (call Try.prog ctE11 ⟨Lt.un (Lt.of []), trList_h, trList_j⟩ 100 22 (symArgs 0 [feats]) [] 0) TT.ret = trList := by kernel_rfl
theorem trList_low : trList.low 1000 = true := by kernel_rfl
-- term trFeShown: call Try.prog ctE11 (Lt.of []) 100 16 (symArgs 0 [feats, pt]) [] 0
def trFeShown : TT OpR :=
(.loop 0 2000 ⟨[(0, (.lit 0)), (1, (.lit 0))], [], []⟩
  (.ite (.cmp .lss (.var 2001) (.len (.var 0)))
    (.ob (.tru (.cmp .leq (.lit 0) (.var 2001)))
    (.ob (.tru (.cmp .lss (.var 2001) (.len (.var 0))))
    (.ite (.not (.fn 76 (.i (.rd (.var 0) (.var 2001) 0) (.i (.rd (.var 0) (.var 2001) 1) (.i (.rd (.var 0) (.var 2001) 2) (.i (.rd (.var 0) (.var 2001) 3) (.i (.rd (.var 0) (.var 2001) 4) (.x (.rd (.var 0) (.var 2001) 5) (.i (.rd (.var 0) (.var 2001) 6) (.i (.rd (.var 0) (.var 2001) 7) (.x (.rd (.var 0) (.var 2001) 8) .nil)))))))))))
      (.ret ((.tup [(.one (.z (.int .i64 (.lit 0)))), (.one (.z (.int .i64 (.lit 1))))]), [], 3))
      (.ite (.cmp .leq (.rd (.var 0) (.var 2001) 0) (.var 2000))
        (.ret ((.tup [(.one (.z (.int .i64 (.lit 0)))), (.one (.z (.int .i64 (.lit 1))))]), [], 3))
        (.next 0 ⟨[(0, (.rd (.var 0) (.var 2001) 0)), (1, (.ar .add .i64 (.var 2001) (.lit 1)))], [], []⟩)))))
    (.ite (.not (.cmp .leq (.len (.var 0)) (.lit 300)))
      (.ret ((.tup [(.one (.z (.int .i64 (.lit 0)))), (.one (.z (.int .i64 (.lit 1))))]), [], 3))
      (.ite (.not (.fn 3 (.i (.var 1) (.i (.var 2) .nil))))
        (.ret ((.tup [(.one (.z (.int .i64 (.lit 0)))), (.one (.z (.int .i64 (.lit 1))))]), [], 3))
        (.loop 1 4000 ⟨[(1, (.lit 100000)), (0, (.lit 0))], [], []⟩
          (.ite (.cmp .lss (.var 4000) (.len (.var 0)))
            (.ob (.tru (.cmp .leq (.lit 0) (.var 4000)))
            (.ob (.tru (.cmp .lss (.var 4000) (.len (.var 0))))
            (.ite (.cmp .lss (.rd (.var 0) (.var 4000) 6) (.var 4001))
              (.ite (.cmp .eql (.rd (.var 0) (.var 4000) 1) (.lit 4))
                (.next 1 ⟨[(1, (.var 4001)), (0, (.ar .add .i64 (.var 4000) (.lit 1)))], [], []⟩)
                (.ite (.cmp .eql (.rd (.var 0) (.var 4000) 1) (.lit 3))
                  (.ite (.cmp .eql (.rd (.var 0) (.var 4000) 1) (.lit 3))
                    (.ite (.cmp .eql (.fn 71 (.i (.var 1) (.i (.var 2) (.x (.rd (.var 0) (.var 4000) 5) .nil)))) (.lit 0))
                      (.ite (.cmp .geq (.fn 70 (.i (.var 1) (.i (.var 2) (.x (.rd (.var 0) (.var 4000) 5) .nil)))) (.lit 0))
                        (.next 1 ⟨[(1, (.rd (.var 0) (.var 4000) 6)), (0, (.ar .add .i64 (.var 4000) (.lit 1)))], [], []⟩)
                        (.next 1 ⟨[(1, (.var 4001)), (0, (.ar .add .i64 (.var 4000) (.lit 1)))], [], []⟩))
                      (.next 1 ⟨[(1, (.var 4001)), (0, (.ar .add .i64 (.var 4000) (.lit 1)))], [], []⟩))
                    (.ite (.cmp .eql (.fn 13 (.i (.var 1) (.i (.var 2) (.i (.rd (.var 0) (.var 4000) 2) (.i (.rd (.var 0) (.var 4000) 3) (.i (.rd (.var 0) (.var 4000) 2) (.i (.rd (.var 0) (.var 4000) 3) (.i (.rd (.var 0) (.var 4000) 4) .nil)))))))) (.lit 0))
                      (.ite (.fn 7 (.i (.var 1) (.i (.var 2) (.i (.rd (.var 0) (.var 4000) 2) (.i (.rd (.var 0) (.var 4000) 3) (.i (.rd (.var 0) (.var 4000) 2) (.i (.rd (.var 0) (.var 4000) 3) (.i (.rd (.var 0) (.var 4000) 4) .nil))))))))
                        (.next 1 ⟨[(1, (.rd (.var 0) (.var 4000) 6)), (0, (.ar .add .i64 (.var 4000) (.lit 1)))], [], []⟩)
                        (.next 1 ⟨[(1, (.var 4001)), (0, (.ar .add .i64 (.var 4000) (.lit 1)))], [], []⟩))
                      (.next 1 ⟨[(1, (.var 4001)), (0, (.ar .add .i64 (.var 4000) (.lit 1)))], [], []⟩)))
                  (.ite (.cmp .eql (.rd (.var 0) (.var 4000) 1) (.lit 6))
                    (.ite (.cmp .eql (.fn 71 (.i (.var 1) (.i (.var 2) (.x (.rd (.var 0) (.var 4000) 5) .nil)))) (.lit 0))
                      (.ite (.cmp .geq (.fn 70 (.i (.var 1) (.i (.var 2) (.x (.rd (.var 0) (.var 4000) 5) .nil)))) (.lit 0))
                        (.next 1 ⟨[(1, (.rd (.var 0) (.var 4000) 6)), (0, (.ar .add .i64 (.var 4000) (.lit 1)))], [], []⟩)
                        (.next 1 ⟨[(1, (.var 4001)), (0, (.ar .add .i64 (.var 4000) (.lit 1)))], [], []⟩))
                      (.next 1 ⟨[(1, (.var 4001)), (0, (.ar .add .i64 (.var 4000) (.lit 1)))], [], []⟩))
                    (.ite (.cmp .eql (.fn 13 (.i (.var 1) (.i (.var 2) (.i (.rd (.var 0) (.var 4000) 2) (.i (.rd (.var 0) (.var 4000) 3) (.i (.rd (.var 0) (.var 4000) 2) (.i (.rd (.var 0) (.var 4000) 3) (.i (.rd (.var 0) (.var 4000) 4) .nil)))))))) (.lit 0))
                      (.ite (.fn 7 (.i (.var 1) (.i (.var 2) (.i (.rd (.var 0) (.var 4000) 2) (.i (.rd (.var 0) (.var 4000) 3) (.i (.rd (.var 0) (.var 4000) 2) (.i (.rd (.var 0) (.var 4000) 3) (.i (.rd (.var 0) (.var 4000) 4) .nil))))))))
                        (.next 1 ⟨[(1, (.rd (.var 0) (.var 4000) 6)), (0, (.ar .add .i64 (.var 4000) (.lit 1)))], [], []⟩)
                        (.next 1 ⟨[(1, (.var 4001)), (0, (.ar .add .i64 (.var 4000) (.lit 1)))], [], []⟩))
                      (.next 1 ⟨[(1, (.var 4001)), (0, (.ar .add .i64 (.var 4000) (.lit 1)))], [], []⟩)))))
              (.next 1 ⟨[(1, (.var 4001)), (0, (.ar .add .i64 (.var 4000) (.lit 1)))], [], []⟩))))
            (.ret ((.tup [(.one (.z (.int .i64 (.var 4001)))), (.one (.z (.int .i64 (.lit 0))))]), [], 8))))))))
-- end trFeShown
def trFeShown_h : List (Nat × St) := [
(1, ⟨([(.v (.one (.z (.ext [(.int .i64), (.int .i64), (.int .i64), (.int .i64), (.int .i64), (.sl [(.int .i64), (.int .i64)]), (.int .i64), (.int .i64), (.sl [(.int .i64), (.int .i64), (.int .i64), (.int .i64), (.int .i64), (.int .i64)])] (.var 0) false)))), (.v (.one (.z .any))), (.v (.one (.z (.bool (.lit false))))), (.v (.one (.z (.int .i64 (.var 2000))))), (.v (.one (.z .any))), (.v (.one (.z .any))), (.v (.one (.z (.ext [(.int .i64), (.int .i64), (.int .i64), (.int .i64), (.int .i64), (.sl [(.int .i64), (.int .i64)]), (.int .i64), (.int .i64), (.sl [(.int .i64), (.int .i64), (.int .i64), (.int .i64), (.int .i64), (.int .i64)])] (.var 0) false)))), (.v (.one (.z (.int .i64 (.len (.var 0)))))), (.v (.one (.z (.int .i64 (.var 2001)))))] ++ List.replicate 18 V.any), [(0, (.cells 23 [(.z (.int .i64 (.var 1))), (.z (.int .i64 (.var 2)))]))], 2, []⟩),
(3, ⟨([(.v (.one (.z (.ext [(.int .i64), (.int .i64), (.int .i64), (.int .i64), (.int .i64), (.sl [(.int .i64), (.int .i64)]), (.int .i64), (.int .i64), (.sl [(.int .i64), (.int .i64), (.int .i64), (.int .i64), (.int .i64), (.int .i64)])] (.var 0) false)))), (.v (.agg [(.z (.int .i64 (.var 1))), (.z (.int .i64 (.var 2)))])), (.v (.one (.z .any))), (.v (.one (.z (.ptr 0 0)))), (.v (.one (.z (.int .i64 (.lit 0))))), (.v (.one (.z (.int .i64 (.lit 0))))), (.v (.one (.z (.int .i64 (.var 4001))))), (.v (.one (.z .any))), (.v (.one (.z .any))), (.v (.one (.z (.ext [(.int .i64), (.int .i64), (.int .i64), (.int .i64), (.int .i64), (.sl [(.int .i64), (.int .i64)]), (.int .i64), (.int .i64), (.sl [(.int .i64), (.int .i64), (.int .i64), (.int .i64), (.int .i64), (.int .i64)])] (.var 0) false)))), (.v (.one (.z (.bool (.cmp .leq (.len (.var 0)) (.lit 300)))))), (.v (.one (.z (.bool (.not (.cmp .leq (.len (.var 0)) (.lit 300))))))), (.v (.one (.z (.bool (.lit false))))), (.v (.agg [(.z (.int .i64 (.var 1))), (.z (.int .i64 (.var 2)))])), (.v (.one (.z (.bool (.fn 3 (.i (.var 1) (.i (.var 2) .nil))))))), (.v (.one (.z (.bool (.not (.fn 3 (.i (.var 1) (.i (.var 2) .nil)))))))), (.v (.one (.z (.bool (.not (.fn 3 (.i (.var 1) (.i (.var 2) .nil)))))))), (.v (.one (.z (.ext [(.int .i64), (.int .i64), (.int .i64), (.int .i64), (.int .i64), (.sl [(.int .i64), (.int .i64)]), (.int .i64), (.int .i64), (.sl [(.int .i64), (.int .i64), (.int .i64), (.int .i64), (.int .i64), (.int .i64)])] (.var 0) false)))), (.v (.one (.z (.int .i64 (.len (.var 0)))))), (.v (.one (.z (.int .i64 (.var 4000)))))] ++ List.replicate 17 V.any), [(0, (.cells 23 [(.z (.int .i64 (.var 1))), (.z (.int .i64 (.var 2)))]))], 4, []⟩)]
def trFeShown_j : List (FuncId × Nat × Nat × St) := [
]
set_option maxRecDepth 100000 in
theorem trFeShown_is : T.norm 0 (call Try.prog ctE11 ⟨Lt.un (Lt.of []), trFeShown_h, trFeShown_j⟩ 100 16 (symArgs 0 [feats, pt]) [] 0) TT.ret = trFeShown := by kernel_rfl
theorem trFeShown_low : trFeShown.low 1000 = true := by kernel_rfl
end Go.Proofs.Ytglepdhapakmbaa
/- Chapter 07: feature.List, feature.Shown. -/
namespace Go.Proofs.Ytglepdhapakmbaa
open Go.RowKit
/-- Is a row of a list a valid feature? -/
def featRow (r : Rows) (i : Nat) : Bool := featB (lg r i 0) (lg r i 1) (lg r i 2) (lg r i 3) (lg r i 4) (lr r i 5) (lg r i 6) (lg r i 7) (lr r i 8)
def lisN (r : Rows) : Nat → Nat → Int → Bool
  | 0, _, _ => true
  | f + 1, i, last => (featRow r i && decide (last < lg r i 0)) && lisN r f (i + 1) (lg r i 0)
/-- Is a list of features valid? -/
def listB (r : Rows) : Bool := lisN r r.length 0 0 && decide (r.length ≤ 300)
def listL (ds : List D) : Bool := listB (rAt ds 0)
def covRow (r : Rows) (i : Nat) (px py : Int) : Bool := covX (lg r i 1) (lg r i 2) (lg r i 3) (lg r i 4) (lr r i 5) px py
def shoN (r : Rows) (px py : Int) : Nat → Nat → Int → Int
  | 0, _, m => m
  | f + 1, i, m => shoN r px py f (i + 1) (if lg r i 6 < m ∧ covRow r i px py = true then lg r i 6 else m)
def shownO (ds : List D) : Bool := listB (rAt ds 0) && placeB (iAt ds 1) (iAt ds 2)
def shownR (ds : List D) : Int := if shownO ds then shoN (rAt ds 0) (iAt ds 1) (iAt ds 2) (rAt ds 0).length 0 100000 else 0
def shownE (ds : List D) : Int := if shownO ds then 0 else 1
theorem feats_len {W : World} {vals : List Value} {ds : List D} {sh : List Sh} (h : repSh W (feats :: sh) vals ds) : (rAt ds 0).length ≤ 281474976710656 := by
  obtain ⟨v, vs', d, ds', rfl, rfl, ⟨d, rfl, h⟩, _⟩ := h
  rw [rep_sl] at h
  obtain ⟨r, rfl, a, n, c, _, hs, _⟩ := h
  have e1 := hs.len
  have e2 := hs.big
  show r.length ≤ _
  omega
theorem K79b76 (W : World) (ds l : List D) : (envOf K79 W ds).fb 76 l = featL l := by simp only [envOf, K79, K78, K77, K76, K75, K74, K73, K72, K71, KI, KH, KG, KF, KE, KD, KC, KB, KA, K9, K8, K7, K6, K5, K]
theorem K79b3 (W : World) (ds l : List D) : (envOf K79 W ds).fb 3 l = placeL l := by simp only [envOf, K79, K78, K77, K76, K75, K74, K73, K72, K71, KI, KH, KG, KF, KE, KD, KC, KB, KA, K9, K8, K7, K6, K5, K]
theorem K79i70 (W : World) (ds l : List D) : (envOf K79 W ds).fi 70 l = pinR l := by simp only [envOf, K79, K78, K77, K76, K75, K74, K73, K72, K71, KI, KH, KG, KF, KE, KD, KC, KB, KA, K9, K8, K7, K6, K5, K]
theorem K79i71 (W : World) (ds l : List D) : (envOf K79 W ds).fi 71 l = pinE l := by simp only [envOf, K79, K78, K77, K76, K75, K74, K73, K72, K71, KI, KH, KG, KF, KE, KD, KC, KB, KA, K9, K8, K7, K6, K5, K]
theorem K79i13 (W : World) (ds l : List D) : (envOf K79 W ds).fi 13 l = nearE l := by simp only [envOf, K79, K78, K77, K76, K75, K74, K73, K72, K71, KI, KH, KG, KF, KE, KD, KC, KB, KA, K9, K8, K7, K6, K5, K]
theorem K79b7 (W : World) (ds l : List D) : (envOf K79 W ds).fb 7 l = nearR l := by simp only [envOf, K79, K78, K77, K76, K75, K74, K73, K72, K71, KI, KH, KG, KF, KE, KD, KC, KB, KA, K9, K8, K7, K6, K5, K]
theorem featRow_eq (r : Rows) (i : Nat) : featB (lg r i 0) (lg r i 1) (lg r i 2) (lg r i 3) (lg r i 4) (lr r i 5) (lg r i 6) (lg r i 7) (lr r i 8) = featRow r i := rfl
set_option maxHeartbeats 2000000 in
theorem gFeShown : Gives Try.prog 16 [feats, pt] (fun ds => .tuple #[.int .i64 (shownR ds), .int .i64 (shownE ds)]) := by
  refine GivesIf.all (fn_gives K79 (by kernel_rfl) (fun ρ h => ctE11_ok (Sees.of h 132)) (by kernel_rfl) trFeShown_is trFeShown_low (by decide) (fun W vals ds hr _ => ?_))
  have hlen := feats_len hr
  simp only [trFeShown]
  have F : shownO ds = false → Value.tuple #[.int .i64 0, .int .i64 1] = Value.tuple #[.int .i64 (shownR ds), .int .i64 (shownE ds)] := fun h => by simp [shownR, shownE, h]
  have T : shownO ds = true → ∀ m, shoN (rAt ds 0) (iAt ds 1) (iAt ds 2) (rAt ds 0).length 0 100000 = m → Value.tuple #[.int .i64 m, .int .i64 0] = Value.tuple #[.int .i64 (shownR ds), .int .i64 (shownE ds)] := fun h m h' => by simp [shownR, shownE, h, h']
  have hO : shownO ds = (listB (rAt ds 0) && placeB (iAt ds 1) (iAt ds 2)) := rfl
  clear hr
  generalize e0 : rAt ds 0 = r at *
  generalize e1 : iAt ds 1 = px at *
  generalize e2 : iAt ds 2 = py at *
  refine TT.sat_loop (fun v => ∃ i : Nat, v.i 1 = i ∧ i ≤ r.length ∧ (lisN r (r.length - i) i (v.i 0) && decide (r.length ≤ 300)) = listB r) (fun v => r.length - (v.i 1).toNat)
    ⟨0, by simp [val_i, aget, E.ev], by omega, rfl⟩ (fun v hv => ?_)
  obtain ⟨i, i0, i1, i2⟩ := hv
  simp only [TT.sat_ret, TT.sat_ite, TT.sat_ob, TT.sat_next, TT.sat_stuck, put_i, put_b, put_d, put_fi, put_fb, put_fd, Ob.ok, B.ev, E.ev, X.ev, AL.ev, cmp_t, cmp_f, arEv, V.plain, V2.plain, S.plain, S0.plain, V.val, V2.val, S.val, S0.val, bV, iV, List.all_cons, List.all_nil, Bool.and_true, Bool.and_self, envOf_i, envOf_b, envOf_d, List.map_cons, List.map_nil, true_and, Bool.not_eq_true', Bool.not_eq_false', Bool.not_not, Bool.and_eq_true, and_f, cell_lg, cell_lb, cell_lr, cmpP, val_i, val_b, val_d, aget, Nat.reduceBEq, beq_self_eq_true, Bool.false_eq_true, if_true, if_false, Nat.reduceLT, Nat.reduceSub, Nat.sub_self, Nat.lt_irrefl, i0, e0, e1, e2, K79b76, K79b3, feat_nine, place_two, featRow_eq]
  refine ⟨fun hc => ?_, fun hc => ?_⟩
  · have hi : i < r.length := by omega
    obtain ⟨f, hf⟩ : ∃ f, r.length - i = f + 1 := ⟨r.length - i - 1, by omega⟩
    have hf' : r.length - (i + 1) = f := by omega
    rw [hf, lisN] at i2
    rw [wrap_in ((i : Int) + 1) (by omega) (by omega)]
    refine ⟨by omega, by omega, fun h => F ?_, fun h => ⟨fun g => F ?_, fun g => ⟨⟨i + 1, rfl, by omega, ?_⟩, by omega⟩⟩⟩
    · rw [hO, ← i2, h]; rfl
    · rw [hO, ← i2, h, decide_eq_false (by omega)]; rfl
    · rw [hf', ← i2, h, decide_eq_true (p := v.i 0 < lg r i 0) (by omega)]; rfl
  · have h0 : r.length - i = 0 := by omega
    rw [h0, lisN, Bool.true_and] at i2
    refine ⟨fun h => F ?_, fun h => ⟨fun g => F ?_, fun g => ?_⟩⟩
    · rw [hO, ← i2, decide_eq_false (by omega)]; rfl
    · rw [hO, g, Bool.and_false]
    have hO' : shownO ds = true := by rw [hO, ← i2, g, decide_eq_true (by omega)]; rfl
    replace T := T hO'
    clear F hO hO' i2
    refine TT.sat_loop (fun v => ∃ i : Nat, v.i 0 = i ∧ i ≤ r.length ∧ shoN r px py (r.length - i) i (v.i 1) = shoN r px py r.length 0 100000) (fun v => r.length - (v.i 0).toNat)
      ⟨0, by simp [val_i, aget, E.ev], by omega, rfl⟩ (fun u hu => ?_)
    obtain ⟨j, j0, j1, j2⟩ := hu
    simp only [TT.sat_ret, TT.sat_ite, TT.sat_ob, TT.sat_next, TT.sat_stuck, put_i, put_b, put_d, put_fi, put_fb, put_fd, Ob.ok, B.ev, E.ev, X.ev, AL.ev, cmp_t, cmp_f, arEv, V.plain, V2.plain, S.plain, S0.plain, V.val, V2.val, S.val, S0.val, bV, iV, List.all_cons, List.all_nil, Bool.and_true, Bool.and_self, envOf_i, envOf_b, envOf_d, List.map_cons, List.map_nil, true_and, Bool.not_eq_true', Bool.not_eq_false', Bool.not_not, Bool.and_eq_true, and_f, cell_lg, cell_lb, cell_lr, cmpP, val_i, val_b, val_d, aget, Nat.reduceBEq, beq_self_eq_true, Bool.false_eq_true, if_true, if_false, Nat.reduceLT, Nat.reduceSub, Nat.sub_self, Nat.lt_irrefl, j0, e0, e1, e2, K79i70, K79i71, K79i13, K79b7]
    refine ⟨fun hc => ?_, fun hc => ?_⟩
    · have hj : j < r.length := by omega
      obtain ⟨f, hf⟩ : ∃ f, r.length - j = f + 1 := ⟨r.length - j - 1, by omega⟩
      have hf' : r.length - (j + 1) = f := by omega
      rw [hf, shoN] at j2
      have hw : IntKind.i64.wrap ((j : Int) + 1) = (j : Int) + 1 := wrap_in _ (by omega) (by omega)
      simp only [hw]
      have N : ∀ m, (if lg r j 6 < u.i 1 ∧ covRow r j px py = true then lg r j 6 else u.i 1) = m → ∃ i : Nat, (j : Int) + 1 = i ∧ i ≤ r.length ∧ shoN r px py (r.length - i) i m = shoN r px py r.length 0 100000 :=
        fun m h => ⟨j + 1, rfl, by omega, by rw [hf', ← j2, h]⟩
      have hm : r.length - ((j : Int) + 1).toNat < r.length - (j : Int).toNat := by omega
      have C4 : lg r j 1 = 4 → covRow r j px py = false := fun h => by unfold covRow covX; rw [if_pos h]
      have CA : (lg r j 1 = 3 ∨ lg r j 1 = 6) → covRow r j px py = decide (pinE [.i px, .i py, .l (lr r j 5)] = 0 ∧ 0 ≤ pinR [.i px, .i py, .l (lr r j 5)]) := fun h => by unfold covRow covX; rw [if_neg (by omega), if_pos h]
      have CD : lg r j 1 ≠ 4 → lg r j 1 ≠ 3 → lg r j 1 ≠ 6 → covRow r j px py = (decide (nearE [.i px, .i py, .i (lg r j 2), .i (lg r j 3), .i (lg r j 2), .i (lg r j 3), .i (lg r j 4)] = 0) && nearR [.i px, .i py, .i (lg r j 2), .i (lg r j 3), .i (lg r j 2), .i (lg r j 3), .i (lg r j 4)]) := fun h1 h2 h3 => by unfold covRow covX; rw [if_neg h1, if_neg (by omega)]
      refine ⟨by omega, by omega, ?_⟩
      clear hc hf hf' j2 T e0 e1 e2
      repeat' (first | (intro h; skip) | (refine And.intro ?_ ?_))
      all_goals first
        | exact hm
        | omega
        | (refine N _ (if_neg ?_); omega)
        | (refine N _ (if_neg ?_); rw [C4 (by omega)]; simp)
        | (refine N _ (if_neg ?_); rw [CA (by omega), decide_eq_true_eq]; omega)
        | (refine N _ (if_pos ⟨by omega, ?_⟩); rw [CA (by omega), decide_eq_true_eq]; omega)
        | (refine N _ (if_pos ⟨by omega, ?_⟩); rw [CD (by omega) (by omega) (by omega)]; simp [*]; done)
        | (refine N _ (if_neg (fun q => ?_)); have q2 := q.2; rw [CD (by omega) (by omega) (by omega), Bool.and_eq_true, decide_eq_true_eq] at q2; simp_all; done)
    · have h0 : r.length - j = 0 := by omega
      rw [h0, shoN] at j2
      exact T _ j2.symm
/-- All symbols so far. -/
def K80 : Interp where
  fi n l := match n with | 132 => shownR l | 133 => shownE l | n => K79.fi n l
  fb n l := K79.fb n l
  fd _ _ := []
theorem K80_K79 {ρ : Env} (h : Sees ρ K80 134) : Sees ρ K79 132 := h.trans (by decide) fun n l hn => by
  refine ⟨?_, ?_⟩
  ·
    simp only [K80]
    split <;> first | omega | rfl
  ·
    rfl
def cFeShown := ctD [feats, pt] fun al => .ret (.tup [.one (sIF 132 shownR al), .one (sIF 133 shownE al)])
theorem cFeShown_ok {ρ : Env} (h : Sees ρ K80 134) : CtOne Try.prog ρ 16 cFeShown :=
  ctD_ok gFeShown (fun _ => rfl) (fun al => by simp only [V.val, V2.val, S.val, S0.val, sIF, sBF, List.map_cons, List.map_nil, iF_ev (s := 132) (f := shownR) (fun l => by rw [(h 132 l (by decide)).1]; simp only [K80, K79, K78, K77, K76, K75, K74, K73, K72, K71, KI, KH, KG, KF, KE, KD, KC, KB, KA, K9, K8, K7, K6, K5, K]), iF_ev (s := 133) (f := shownE) (fun l => by rw [(h 133 l (by decide)).1]; simp only [K80, K79, K78, K77, K76, K75, K74, K73, K72, K71, KI, KH, KG, KF, KE, KD, KC, KB, KA, K9, K8, K7, K6, K5, K])]; try rfl)
def ctE14 : Ct := (16, cFeShown) :: ctE11
theorem ctE14_ok {ρ : Env} (h : Sees ρ K80 134) : CtOk Try.prog ρ ctE14 := .cons (cFeShown_ok h) (ctE11_ok (K80_K79 h))
end Go.Proofs.Ytglepdhapakmbaa
/- Chapter 07: the tree of the law FeatureLists. -/
namespace Go.Proofs.Ytglepdhapakmbaa
open Go.RowKit
set_option maxHeartbeats 4000000
def u8 : Sh := .one (.int .u8)
-- term trLists: call Try.prog ctE14 (Lt.of []) 100 6 (symArgs 0 [feats, feats, pt, u8]) [] 0
def trLists : TT OpR :=
(.ite (.cmp .gtr (.len (.var 0)) (.lit 40))
  (.ret ((.v (.one (.z (.bool (.lit true))))), [], 1))
  (.ite (.cmp .gtr (.len (.var 1)) (.lit 40))
    (.ret ((.v (.one (.z (.bool (.lit true))))), [], 1))
    (.ite (.cmp .neq (.fn 133 (.x (.var 0) (.i (.var 2) (.i (.var 3) .nil)))) (.lit 0))
      (.ret ((.v (.one (.z (.bool (.cmp .eql (.fn 132 (.x (.var 0) (.i (.var 2) (.i (.var 3) .nil)))) (.lit 0)))))), [], 1))
      (.loop 0 2000 ⟨[(0, (.lit 100000)), (1, (.lit 0))], [], []⟩
        (.ite (.cmp .lss (.var 2001) (.len (.var 0)))
          (.ob (.tru (.cmp .leq (.lit 0) (.var 2001)))
          (.ob (.tru (.cmp .leq (.var 2001) (.ar .add .i64 (.var 2001) (.lit 1))))
          (.ob (.tru (.cmp .leq (.ar .add .i64 (.var 2001) (.lit 1)) (.len (.var 0))))
          (.ite (.cmp .neq (.fn 133 (.x (.sub (.var 0) (.var 2001) (.ar .add .i64 (.var 2001) (.lit 1))) (.i (.var 2) (.i (.var 3) .nil)))) (.lit 0))
            (.ret ((.v (.one (.z (.bool (.lit false))))), [], 2))
            (.next 0 ⟨[(0, (.mn (.var 2000) (.fn 132 (.x (.sub (.var 0) (.var 2001) (.ar .add .i64 (.var 2001) (.lit 1))) (.i (.var 2) (.i (.var 3) .nil)))))), (1, (.ar .add .i64 (.var 2001) (.lit 1)))], [], []⟩)))))
          (.ite (.cmp .neq (.fn 132 (.x (.var 0) (.i (.var 2) (.i (.var 3) .nil)))) (.var 2000))
            (.ret ((.v (.one (.z (.bool (.lit false))))), [], 2))
            (.ite (.cmp .gtr (.len (.var 0)) (.lit 0))
              (.ob (.tru (.cmp .neq (.len (.var 0)) (.lit 0)))
              (.ob (.tru (.lit true))
              (.ob (.tru (.cmp .leq (.lit 0) (.ar .rem .i64 (.wr .i64 (.var 4)) (.len (.var 0)))))
              (.ob (.tru (.cmp .leq (.ar .rem .i64 (.wr .i64 (.var 4)) (.len (.var 0))) (.len (.var 0))))
              (.ob (.tru (.cmp .leq (.len (.sub (.var 0) (.lit 0) (.ar .rem .i64 (.wr .i64 (.var 4)) (.len (.var 0))))) (.lit 1000000)))
              (.ob (.tru (.cmp .leq (.lit 0) (.ar .add .i64 (.ar .rem .i64 (.wr .i64 (.var 4)) (.len (.var 0))) (.lit 1))))
              (.ob (.tru (.cmp .leq (.ar .add .i64 (.ar .rem .i64 (.wr .i64 (.var 4)) (.len (.var 0))) (.lit 1)) (.len (.var 0))))
              (.ob (.tru (.lit true))
              (.ob (.tru (.cmp .leq (.len (.app (.sub (.var 0) (.lit 0) (.ar .rem .i64 (.wr .i64 (.var 4)) (.len (.var 0)))) (.sub (.var 0) (.ar .add .i64 (.ar .rem .i64 (.wr .i64 (.var 4)) (.len (.var 0))) (.lit 1)) (.len (.var 0))))) (.lit 1000000)))
              (.ite (.cmp .eql (.fn 133 (.x (.app (.sub (.var 0) (.lit 0) (.ar .rem .i64 (.wr .i64 (.var 4)) (.len (.var 0)))) (.sub (.var 0) (.ar .add .i64 (.ar .rem .i64 (.wr .i64 (.var 4)) (.len (.var 0))) (.lit 1)) (.len (.var 0)))) (.i (.var 2) (.i (.var 3) .nil)))) (.lit 0))
                (.ite (.cmp .neq (.fn 133 (.x (.var 1) (.i (.var 2) (.i (.var 3) .nil)))) (.lit 0))
                  (.ret ((.v (.one (.z (.bool (.cmp .geq (.fn 132 (.x (.app (.sub (.var 0) (.lit 0) (.ar .rem .i64 (.wr .i64 (.var 4)) (.len (.var 0)))) (.sub (.var 0) (.ar .add .i64 (.ar .rem .i64 (.wr .i64 (.var 4)) (.len (.var 0))) (.lit 1)) (.len (.var 0)))) (.i (.var 2) (.i (.var 3) .nil)))) (.fn 132 (.x (.var 0) (.i (.var 2) (.i (.var 3) .nil))))))))), [], 4))
                  (.loop 1 5000 ⟨[(0, (.lit 0))], [], []⟩
                    (.ite (.cmp .lss (.var 5000) (.len (.var 0)))
                      (.loop 2 6000 ⟨[(1, (.lit 0))], [(0, (.lit false))], []⟩
                        (.ite (.cmp .lss (.var 6001) (.len (.var 1)))
                          (.ob (.tru (.cmp .leq (.lit 0) (.var 5000)))
                          (.ob (.tru (.cmp .lss (.var 5000) (.len (.var 0))))
                          (.ob (.tru (.cmp .leq (.lit 0) (.var 6001)))
                          (.ob (.tru (.cmp .lss (.var 6001) (.len (.var 1))))
                          (.ite (.var 6000)
                            (.next 2 ⟨[(1, (.ar .add .i64 (.var 6001) (.lit 1)))], [(0, (.lit true))], []⟩)
                            (.ite (.cmp .eql (.fn 119 (.i (.rd (.var 0) (.var 5000) 0) (.i (.rd (.var 0) (.var 5000) 1) (.i (.rd (.var 0) (.var 5000) 2) (.i (.rd (.var 0) (.var 5000) 3) (.i (.rd (.var 0) (.var 5000) 4) (.x (.rd (.var 0) (.var 5000) 5) (.i (.rd (.var 0) (.var 5000) 6) (.i (.rd (.var 0) (.var 5000) 7) (.x (.rd (.var 0) (.var 5000) 8) (.i (.rd (.var 1) (.var 6001) 0) (.i (.rd (.var 1) (.var 6001) 1) (.i (.rd (.var 1) (.var 6001) 2) (.i (.rd (.var 1) (.var 6001) 3) (.i (.rd (.var 1) (.var 6001) 4) (.x (.rd (.var 1) (.var 6001) 5) (.i (.rd (.var 1) (.var 6001) 6) (.i (.rd (.var 1) (.var 6001) 7) (.x (.rd (.var 1) (.var 6001) 8) .nil))))))))))))))))))) (.lit 0))
                              (.next 2 ⟨[(1, (.ar .add .i64 (.var 6001) (.lit 1)))], [(0, (.fn 128 (.i (.rd (.var 0) (.var 5000) 0) (.i (.rd (.var 0) (.var 5000) 1) (.i (.rd (.var 0) (.var 5000) 2) (.i (.rd (.var 0) (.var 5000) 3) (.i (.rd (.var 0) (.var 5000) 4) (.x (.rd (.var 0) (.var 5000) 5) (.i (.rd (.var 0) (.var 5000) 6) (.i (.rd (.var 0) (.var 5000) 7) (.x (.rd (.var 0) (.var 5000) 8) (.i (.rd (.var 1) (.var 6001) 0) (.i (.rd (.var 1) (.var 6001) 1) (.i (.rd (.var 1) (.var 6001) 2) (.i (.rd (.var 1) (.var 6001) 3) (.i (.rd (.var 1) (.var 6001) 4) (.x (.rd (.var 1) (.var 6001) 5) (.i (.rd (.var 1) (.var 6001) 6) (.i (.rd (.var 1) (.var 6001) 7) (.x (.rd (.var 1) (.var 6001) 8) .nil))))))))))))))))))))], []⟩)
                              (.next 2 ⟨[(1, (.ar .add .i64 (.var 6001) (.lit 1)))], [(0, (.lit false))], []⟩)))))))
                          (.ite (.not (.var 6000))
                            (.ret ((.v (.one (.z (.bool (.cmp .geq (.fn 132 (.x (.app (.sub (.var 0) (.lit 0) (.ar .rem .i64 (.wr .i64 (.var 4)) (.len (.var 0)))) (.sub (.var 0) (.ar .add .i64 (.ar .rem .i64 (.wr .i64 (.var 4)) (.len (.var 0))) (.lit 1)) (.len (.var 0)))) (.i (.var 2) (.i (.var 3) .nil)))) (.fn 132 (.x (.var 0) (.i (.var 2) (.i (.var 3) .nil))))))))), [], 6))
                            (.next 1 ⟨[(0, (.ar .add .i64 (.var 5000) (.lit 1)))], [], []⟩))))
                      (.ite (.cmp .geq (.fn 132 (.x (.app (.sub (.var 0) (.lit 0) (.ar .rem .i64 (.wr .i64 (.var 4)) (.len (.var 0)))) (.sub (.var 0) (.ar .add .i64 (.ar .rem .i64 (.wr .i64 (.var 4)) (.len (.var 0))) (.lit 1)) (.len (.var 0)))) (.i (.var 2) (.i (.var 3) .nil)))) (.fn 132 (.x (.var 0) (.i (.var 2) (.i (.var 3) .nil)))))
                        (.ret ((.v (.one (.z (.bool (.cmp .leq (.fn 132 (.x (.var 1) (.i (.var 2) (.i (.var 3) .nil)))) (.fn 132 (.x (.var 0) (.i (.var 2) (.i (.var 3) .nil))))))))), [], 6))
                        (.ret ((.v (.one (.z (.bool (.lit false))))), [], 6))))))
                (.ite (.cmp .neq (.fn 133 (.x (.var 1) (.i (.var 2) (.i (.var 3) .nil)))) (.lit 0))
                  (.ret ((.v (.one (.z (.bool (.lit false))))), [], 4))
                  (.loop 1 5000 ⟨[(0, (.lit 0))], [], []⟩
                    (.ite (.cmp .lss (.var 5000) (.len (.var 0)))
                      (.loop 2 6000 ⟨[(1, (.lit 0))], [(0, (.lit false))], []⟩
                        (.ite (.cmp .lss (.var 6001) (.len (.var 1)))
                          (.ob (.tru (.cmp .leq (.lit 0) (.var 5000)))
                          (.ob (.tru (.cmp .lss (.var 5000) (.len (.var 0))))
                          (.ob (.tru (.cmp .leq (.lit 0) (.var 6001)))
                          (.ob (.tru (.cmp .lss (.var 6001) (.len (.var 1))))
                          (.ite (.var 6000)
                            (.next 2 ⟨[(1, (.ar .add .i64 (.var 6001) (.lit 1)))], [(0, (.lit true))], []⟩)
                            (.ite (.cmp .eql (.fn 119 (.i (.rd (.var 0) (.var 5000) 0) (.i (.rd (.var 0) (.var 5000) 1) (.i (.rd (.var 0) (.var 5000) 2) (.i (.rd (.var 0) (.var 5000) 3) (.i (.rd (.var 0) (.var 5000) 4) (.x (.rd (.var 0) (.var 5000) 5) (.i (.rd (.var 0) (.var 5000) 6) (.i (.rd (.var 0) (.var 5000) 7) (.x (.rd (.var 0) (.var 5000) 8) (.i (.rd (.var 1) (.var 6001) 0) (.i (.rd (.var 1) (.var 6001) 1) (.i (.rd (.var 1) (.var 6001) 2) (.i (.rd (.var 1) (.var 6001) 3) (.i (.rd (.var 1) (.var 6001) 4) (.x (.rd (.var 1) (.var 6001) 5) (.i (.rd (.var 1) (.var 6001) 6) (.i (.rd (.var 1) (.var 6001) 7) (.x (.rd (.var 1) (.var 6001) 8) .nil))))))))))))))))))) (.lit 0))
                              (.next 2 ⟨[(1, (.ar .add .i64 (.var 6001) (.lit 1)))], [(0, (.fn 128 (.i (.rd (.var 0) (.var 5000) 0) (.i (.rd (.var 0) (.var 5000) 1) (.i (.rd (.var 0) (.var 5000) 2) (.i (.rd (.var 0) (.var 5000) 3) (.i (.rd (.var 0) (.var 5000) 4) (.x (.rd (.var 0) (.var 5000) 5) (.i (.rd (.var 0) (.var 5000) 6) (.i (.rd (.var 0) (.var 5000) 7) (.x (.rd (.var 0) (.var 5000) 8) (.i (.rd (.var 1) (.var 6001) 0) (.i (.rd (.var 1) (.var 6001) 1) (.i (.rd (.var 1) (.var 6001) 2) (.i (.rd (.var 1) (.var 6001) 3) (.i (.rd (.var 1) (.var 6001) 4) (.x (.rd (.var 1) (.var 6001) 5) (.i (.rd (.var 1) (.var 6001) 6) (.i (.rd (.var 1) (.var 6001) 7) (.x (.rd (.var 1) (.var 6001) 8) .nil))))))))))))))))))))], []⟩)
                              (.next 2 ⟨[(1, (.ar .add .i64 (.var 6001) (.lit 1)))], [(0, (.lit false))], []⟩)))))))
                          (.ite (.not (.var 6000))
                            (.ret ((.v (.one (.z (.bool (.lit false))))), [], 6))
                            (.next 1 ⟨[(0, (.ar .add .i64 (.var 5000) (.lit 1)))], [], []⟩))))
                      (.ret ((.v (.one (.z (.bool (.lit false))))), [], 6)))))))))))))))
              (.ite (.cmp .neq (.fn 133 (.x (.var 1) (.i (.var 2) (.i (.var 3) .nil)))) (.lit 0))
                (.ret ((.v (.one (.z (.bool (.lit true))))), [], 2))
                (.loop 1 3000 ⟨[(0, (.lit 0))], [], []⟩
                  (.ite (.cmp .lss (.var 3000) (.len (.var 0)))
                    (.loop 2 4000 ⟨[(1, (.lit 0))], [(0, (.lit false))], []⟩
                      (.ite (.cmp .lss (.var 4001) (.len (.var 1)))
                        (.ob (.tru (.cmp .leq (.lit 0) (.var 3000)))
                        (.ob (.tru (.cmp .lss (.var 3000) (.len (.var 0))))
                        (.ob (.tru (.cmp .leq (.lit 0) (.var 4001)))
                        (.ob (.tru (.cmp .lss (.var 4001) (.len (.var 1))))
                        (.ite (.var 4000)
                          (.next 2 ⟨[(1, (.ar .add .i64 (.var 4001) (.lit 1)))], [(0, (.lit true))], []⟩)
                          (.ite (.cmp .eql (.fn 119 (.i (.rd (.var 0) (.var 3000) 0) (.i (.rd (.var 0) (.var 3000) 1) (.i (.rd (.var 0) (.var 3000) 2) (.i (.rd (.var 0) (.var 3000) 3) (.i (.rd (.var 0) (.var 3000) 4) (.x (.rd (.var 0) (.var 3000) 5) (.i (.rd (.var 0) (.var 3000) 6) (.i (.rd (.var 0) (.var 3000) 7) (.x (.rd (.var 0) (.var 3000) 8) (.i (.rd (.var 1) (.var 4001) 0) (.i (.rd (.var 1) (.var 4001) 1) (.i (.rd (.var 1) (.var 4001) 2) (.i (.rd (.var 1) (.var 4001) 3) (.i (.rd (.var 1) (.var 4001) 4) (.x (.rd (.var 1) (.var 4001) 5) (.i (.rd (.var 1) (.var 4001) 6) (.i (.rd (.var 1) (.var 4001) 7) (.x (.rd (.var 1) (.var 4001) 8) .nil))))))))))))))))))) (.lit 0))
                            (.next 2 ⟨[(1, (.ar .add .i64 (.var 4001) (.lit 1)))], [(0, (.fn 128 (.i (.rd (.var 0) (.var 3000) 0) (.i (.rd (.var 0) (.var 3000) 1) (.i (.rd (.var 0) (.var 3000) 2) (.i (.rd (.var 0) (.var 3000) 3) (.i (.rd (.var 0) (.var 3000) 4) (.x (.rd (.var 0) (.var 3000) 5) (.i (.rd (.var 0) (.var 3000) 6) (.i (.rd (.var 0) (.var 3000) 7) (.x (.rd (.var 0) (.var 3000) 8) (.i (.rd (.var 1) (.var 4001) 0) (.i (.rd (.var 1) (.var 4001) 1) (.i (.rd (.var 1) (.var 4001) 2) (.i (.rd (.var 1) (.var 4001) 3) (.i (.rd (.var 1) (.var 4001) 4) (.x (.rd (.var 1) (.var 4001) 5) (.i (.rd (.var 1) (.var 4001) 6) (.i (.rd (.var 1) (.var 4001) 7) (.x (.rd (.var 1) (.var 4001) 8) .nil))))))))))))))))))))], []⟩)
                            (.next 2 ⟨[(1, (.ar .add .i64 (.var 4001) (.lit 1)))], [(0, (.lit false))], []⟩)))))))
                        (.ite (.not (.var 4000))
                          (.ret ((.v (.one (.z (.bool (.lit true))))), [], 4))
                          (.next 1 ⟨[(0, (.ar .add .i64 (.var 3000) (.lit 1)))], [], []⟩))))
                    (.ret ((.v (.one (.z (.bool (.cmp .leq (.fn 132 (.x (.var 1) (.i (.var 2) (.i (.var 3) .nil)))) (.fn 132 (.x (.var 0) (.i (.var 2) (.i (.var 3) .nil))))))))), [], 4))))))))))))
-- end trLists
set_option maxRecDepth 100000 in
theorem trLists_is : T.norm 0 (call Try.prog ctE14 (Lt.of []) 100 6 (symArgs 0 [feats, feats, pt, u8]) [] 0) TT.ret = trLists := by kernel_rfl
theorem trLists_low : trLists.low 1000 = true := by kernel_rfl
end Go.Proofs.Ytglepdhapakmbaa
/- Chapter 07: lists of features, no program. -/
namespace Go.Proofs.Ytglepdhapakmbaa
open Go.RowKit
section
variable {r : Rows} {px py : Int}
theorem shoN_snoc : ∀ (f i : Nat) (m : Int), shoN r px py (f + 1) i m = if lg r (i + f : Nat) 6 < shoN r px py f i m ∧ covRow r (i + f) px py = true then lg r (i + f : Nat) 6 else shoN r px py f i m
  | 0, i, m => rfl
  | f + 1, i, m => by
    rw [shoN, shoN_snoc f (i + 1) _, show i + 1 + f = i + (f + 1) by omega]
    rfl
theorem shoN_spec : ∀ (f i : Nat) (m : Int), shoN r px py f i m ≤ m ∧ (∀ k : Nat, i ≤ k → k < i + f → covRow r k px py = true → shoN r px py f i m ≤ lg r k 6) ∧ (shoN r px py f i m = m ∨ ∃ k : Nat, i ≤ k ∧ k < i + f ∧ covRow r k px py = true ∧ shoN r px py f i m = lg r k 6)
  | 0, i, m => ⟨Int.le_refl _, fun k h1 h2 => by omega, .inl rfl⟩
  | f + 1, i, m => by
    rw [shoN]
    by_cases c : lg r i 6 < m ∧ covRow r i px py = true
    · rw [if_pos c]
      obtain ⟨h1, h2, h3⟩ := shoN_spec f (i + 1) (lg r i 6)
      refine ⟨by omega, fun k g1 g2 g3 => ?_, ?_⟩
      · by_cases e : k = i
        · subst e; exact h1
        · exact h2 k (by omega) (by omega) g3
      · rcases h3 with h3 | ⟨k, g1, g2, g3, g4⟩
        · exact .inr ⟨i, by omega, by omega, c.2, h3⟩
        · exact .inr ⟨k, by omega, by omega, g3, g4⟩
    · rw [if_neg c]
      obtain ⟨h1, h2, h3⟩ := shoN_spec f (i + 1) m
      refine ⟨h1, fun k g1 g2 g3 => ?_, ?_⟩
      · by_cases e : k = i
        · subst e
          have : ¬ lg r k 6 < m := fun q => c ⟨q, g3⟩
          omega
        · exact h2 k (by omega) (by omega) g3
      · rcases h3 with h3 | ⟨k, g1, g2, g3, g4⟩
        · exact .inl h3
        · exact .inr ⟨k, by omega, by omega, g3, g4⟩
theorem lisN_fw : ∀ (f i : Nat) (last : Int), lisN r f i last = true → ∀ k : Nat, i ≤ k → k < i + f → featRow r k = true ∧ last < lg r k 0 ∧ ∀ l : Nat, k < l → l < i + f → lg r k 0 < lg r l 0
  | 0, i, last, _, k, h1, h2 => by omega
  | f + 1, i, last, h, k, h1, h2 => by
    simp only [lisN, Bool.and_eq_true, decide_eq_true_eq] at h
    by_cases e : k = i
    · subst e
      exact ⟨h.1.1, h.1.2, fun l g1 g2 => (lisN_fw f (k + 1) _ h.2 l (by omega) (by omega)).2.1⟩
    · obtain ⟨g1, g2, g3⟩ := lisN_fw f (i + 1) _ h.2 k (by omega) (by omega)
      exact ⟨g1, by omega, fun l q1 q2 => g3 l q1 (by omega)⟩
theorem lisN_bw : ∀ (f i : Nat) (last : Int), (∀ k : Nat, i ≤ k → k < i + f → featRow r k = true) → (0 < f → last < lg r i 0) → (∀ k : Nat, i ≤ k → k + 1 < i + f → lg r k 0 < lg r (k + 1 : Nat) 0) → lisN r f i last = true
  | 0, i, last, _, _, _ => rfl
  | f + 1, i, last, h1, h2, h3 => by
    rw [lisN, h1 i (by omega) (by omega), decide_eq_true (h2 (by omega)), lisN_bw f (i + 1) _ (fun k g1 g2 => h1 k (by omega) (by omega)) (fun hf => h3 i (by omega) (by omega)) (fun k g1 g2 => h3 k (by omega) (by omega))]
    rfl
theorem list_spec (h : listB r = true) : r.length ≤ 300 ∧ (∀ k : Nat, k < r.length → featRow r k = true) ∧ ∀ k l : Nat, k < l → l < r.length → lg r k 0 < lg r l 0 := by
  simp only [listB, Bool.and_eq_true, decide_eq_true_eq] at h
  exact ⟨h.2, fun k hk => (lisN_fw _ 0 0 h.1 k (by omega) (by omega)).1, fun k l h1 h2 => (lisN_fw _ 0 0 h.1 k (by omega) (by omega)).2.2 l h1 (by omega)⟩
theorem row_id (i : Nat) (h : featRow r i = true) : 1 ≤ lg r i 0 ∧ lg r i 6 ≤ 100000 := by
  have := featB_iff.mp h
  exact ⟨this.1.1, this.2.2.1.2⟩
theorem list_of (h1 : r.length ≤ 300) (h2 : ∀ k : Nat, k < r.length → featRow r k = true) (h3 : ∀ k l : Nat, k < l → l < r.length → lg r k 0 < lg r l 0) : listB r = true := by
  rw [listB, decide_eq_true h1, lisN_bw _ 0 0 (fun k _ hk => h2 k (by omega)) (fun hf => by have := (row_id 0 (h2 0 hf)).1; exact Int.lt_of_lt_of_le (by decide) this) (fun k _ hk => h3 k (k + 1) (by omega) (by omega))]
  rfl
/-- Rows that are others' rows. -/
theorem row_same {s : Rows} {i j : Nat} (h : ∀ c, cellAt s (i : Int) c = cellAt r (j : Int) c) : featRow s i = featRow r j ∧ covRow s i px py = covRow r j px py ∧ ∀ c, lg s i c = lg r j c := by
  have e1 : ∀ c, lg s i c = lg r j c := fun c => by unfold lg; rw [h]
  have e2 : ∀ c, lr s i c = lr r j c := fun c => by unfold lr; rw [h]
  exact ⟨by unfold featRow; simp only [e1, e2], by unfold covRow; simp only [e1, e2], e1⟩
theorem sub_len7 {a b : Nat} (h : b ≤ r.length) : (subR r (a : Int) (b : Int)).length = b - a := by
  unfold subR
  rw [List.length_take, List.length_drop, Int.toNat_natCast, Int.toNat_natCast]
  omega
theorem sub_cell7 {a b j : Nat} (hj : j < b - a) (c : Nat) : cellAt (subR r (a : Int) (b : Int)) (j : Int) c = cellAt r ((a + j : Nat) : Int) c := by
  unfold cellAt subR
  rw [Int.toNat_natCast, Int.toNat_natCast, Int.toNat_natCast, Int.toNat_natCast, List.getElem?_take_of_lt hj, List.getElem?_drop]
theorem app_cell7 {u v : Rows} {j : Nat} (c : Nat) : cellAt (u ++ v) (j : Int) c = if j < u.length then cellAt u (j : Int) c else cellAt v ((j - u.length : Nat) : Int) c := by
  unfold cellAt
  simp only [Int.toNat_natCast]
  split
  · rename_i h
    rw [List.getElem?_append_left h]
  · rename_i h
    rw [List.getElem?_append_right (by omega)]
/-- One feature alone. -/
theorem one_list (hr : listB r = true) {i : Nat} (hi : i < r.length) : listB (subR r (i : Int) ((i + 1 : Nat) : Int)) = true ∧ shoN (subR r (i : Int) ((i + 1 : Nat) : Int)) px py (subR r (i : Int) ((i + 1 : Nat) : Int)).length 0 100000 = if lg r i 6 < 100000 ∧ covRow r i px py = true then lg r i 6 else 100000 := by
  obtain ⟨h1, h2, h3⟩ := list_spec hr
  have hl : (subR r (i : Int) ((i + 1 : Nat) : Int)).length = 1 := by rw [sub_len7 (by omega)]; omega
  obtain ⟨e1, e2, e3⟩ := row_same (r := r) (s := subR r (i : Int) ((i + 1 : Nat) : Int)) (i := 0) (j := i) (px := px) (py := py) (fun c => sub_cell7 (j := 0) (by omega) c)
  constructor
  · refine list_of (by omega) (fun k hk => ?_) (fun k l g1 g2 => by omega)
    have : k = 0 := by omega
    subst this
    rw [e1]; exact h2 i hi
  · rw [hl]
    show (if lg (subR r (i : Int) ((i + 1 : Nat) : Int)) (0 : Nat) 6 < 100000 ∧ covRow (subR r (i : Int) ((i + 1 : Nat) : Int)) 0 px py = true then lg (subR r (i : Int) ((i + 1 : Nat) : Int)) (0 : Nat) 6 else 100000) = _
    rw [e2, e3]
/-- All but one. -/
theorem but_list (hr : listB r = true) {k : Nat} (hk : k < r.length) : listB (subR r ((0 : Nat) : Int) (k : Int) ++ subR r ((k + 1 : Nat) : Int) (r.length : Int)) = true ∧
    shoN r px py r.length 0 100000 ≤ shoN (subR r ((0 : Nat) : Int) (k : Int) ++ subR r ((k + 1 : Nat) : Int) (r.length : Int)) px py (subR r ((0 : Nat) : Int) (k : Int) ++ subR r ((k + 1 : Nat) : Int) (r.length : Int)).length 0 100000 := by
  obtain ⟨h1, h2, h3⟩ := list_spec hr
  have l1 := sub_len7 (r := r) (a := 0) (b := k) (by omega)
  have l2 := sub_len7 (r := r) (a := k + 1) (b := r.length) (by omega)
  have hcell : ∀ j, j < r.length - 1 → ∀ c, cellAt (subR r ((0 : Nat) : Int) (k : Int) ++ subR r ((k + 1 : Nat) : Int) (r.length : Int)) (j : Int) c = cellAt r ((if j < k then j else j + 1 : Nat) : Int) c := fun j hj c => by
    rw [app_cell7]
    by_cases q : j < k
    · rw [if_pos (by omega), if_pos q, sub_cell7 (by omega), Nat.zero_add]
    · rw [if_neg (by omega), if_neg q, sub_cell7 (by omega), show k + 1 + (j - (subR r ((0 : Nat) : Int) (k : Int)).length) = j + 1 by omega]
  have hlen : (subR r ((0 : Nat) : Int) (k : Int) ++ subR r ((k + 1 : Nat) : Int) (r.length : Int)).length = r.length - 1 := by rw [List.length_append, l1, l2]; omega
  generalize subR r ((0 : Nat) : Int) (k : Int) ++ subR r ((k + 1 : Nat) : Int) (r.length : Int) = w at *
  have hrow := fun j (hj : j < r.length - 1) => row_same (px := px) (py := py) (hcell j hj)
  refine ⟨list_of (by omega) (fun j hj => ?_) (fun i j hij hj => ?_), ?_⟩
  · rw [(hrow j (by omega)).1]
    exact h2 _ (by split <;> omega)
  · rw [(hrow i (by omega)).2.2, (hrow j (by omega)).2.2]
    exact h3 _ _ (by (repeat' split) <;> omega) (by split <;> omega)
  · obtain ⟨p1, p2, p3⟩ := shoN_spec (r := r) (px := px) (py := py) r.length 0 100000
    obtain ⟨q1, q2, q3⟩ := shoN_spec (r := w) (px := px) (py := py) w.length 0 100000
    rcases q3 with q3 | ⟨j, g1, g2, g3, g4⟩
    · rw [q3]; exact p1
    · rw [g4, (hrow j (by omega)).2.2]
      refine p2 _ (by omega) (by split <;> omega) ?_
      rw [← (hrow j (by omega)).2.1]; exact g3
/-- What has something that stands for each feature shows no more. -/
theorem lists_le {a b : Rows} (ha : listB a = true) (hb : listB b = true) (hp : placeB px py = true)
    (h : ∀ k : Nat, k < a.length → ∃ j : Nat, j < b.length ∧ standX (lg a k 1) (lg a k 2) (lg a k 3) (lg a k 4) (lr a k 5) (lg a k 6) (lr a k 8) (lg b j 1) (lg b j 2) (lg b j 3) (lg b j 4) (lr b j 5) (lg b j 6) (lr b j 8) = true) :
    shoN b px py b.length 0 100000 ≤ shoN a px py a.length 0 100000 := by
  obtain ⟨a1, a2, a3⟩ := list_spec ha
  obtain ⟨b1, b2, b3⟩ := list_spec hb
  obtain ⟨p1, p2, p3⟩ := shoN_spec (r := b) (px := px) (py := py) b.length 0 100000
  obtain ⟨q1, q2, q3⟩ := shoN_spec (r := a) (px := px) (py := py) a.length 0 100000
  rcases q3 with q3 | ⟨k, g1, g2, g3, g4⟩
  · rw [q3]; exact p1
  · obtain ⟨j, hj, hs⟩ := h k (by omega)
    have fa := a2 k (by omega)
    have fb := b2 j hj
    have n1 : lg a k 1 ≠ 4 := fun e => by
      unfold covRow at g3
      rw [cov_light e] at g3; exact absurd g3 (by decide)
    unfold standX at hs
    rw [if_pos n1] at hs
    simp only [Bool.and_eq_true, decide_eq_true_eq] at hs
    have hc : covRow b j px py = true := hold_covers fb fa hp hs.2 g3
    have := p2 j (by omega) (by omega) hc
    rw [g4]
    omega
end
end Go.Proofs.Ytglepdhapakmbaa
/- Chapter 07: the law FeatureLists. -/
namespace Go.Proofs.Ytglepdhapakmbaa
open Go.RowKit
theorem shR_eq (r : Rows) (x y : Int) : shownR [.l r, .i x, .i y] = if (listB r && placeB x y) = true then shoN r x y r.length 0 100000 else 0 := rfl
theorem shE_eq (r : Rows) (x y : Int) : shownE [.l r, .i x, .i y] = if (listB r && placeB x y) = true then 0 else 1 := rfl
theorem feStR_two (i1 k1 x1 y1 r1 : Int) (a1 : Rows) (d1 s1 : Int) (t1 : Rows) (i2 k2 x2 y2 r2 : Int) (a2 : Rows) (d2 s2 : Int) (t2 : Rows) : feStR [.i i1, .i k1, .i x1, .i y1, .i r1, .l a1, .i d1, .i s1, .l t1, .i i2, .i k2, .i x2, .i y2, .i r2, .l a2, .i d2, .i s2, .l t2] = ((featB i1 k1 x1 y1 r1 a1 d1 s1 t1 && featB i2 k2 x2 y2 r2 a2 d2 s2 t2) && standX k1 x1 y1 r1 a1 d1 t1 k2 x2 y2 r2 a2 d2 t2) := rfl
theorem K80i119 (W : World) (ds l : List D) : (envOf K80 W ds).fi 119 l = feE l := by simp only [envOf, K80, K79, K78, K77, K76, K75, K74, K73, K72, K71, KI, KH, KG, KF, KE, KD, KC, KB, KA, K9, K8, K7, K6, K5, K]
theorem K80b128 (W : World) (ds l : List D) : (envOf K80 W ds).fb 128 l = feStR l := by simp only [envOf, K80, K79, K78, K77, K76, K75, K74, K73, K72, K71, KI, KH, KG, KF, KE, KD, KC, KB, KA, K9, K8, K7, K6, K5, K]
theorem K80i132 (W : World) (ds l : List D) : (envOf K80 W ds).fi 132 l = shownR l := by simp only [envOf, K80, K79, K78, K77, K76, K75, K74, K73, K72, K71, KI, KH, KG, KF, KE, KD, KC, KB, KA, K9, K8, K7, K6, K5, K]
theorem K80i133 (W : World) (ds l : List D) : (envOf K80 W ds).fi 133 l = shownE l := by simp only [envOf, K80, K79, K78, K77, K76, K75, K74, K73, K72, K71, KI, KH, KG, KF, KE, KD, KC, KB, KA, K9, K8, K7, K6, K5, K]
set_option maxHeartbeats 4000000 in
theorem gListsLaw : GivesIf Try.prog 6 [feats, feats, pt, u8] (fun ds => 0 ≤ iAt ds 4 ∧ iAt ds 4 ≤ 255) (fun _ => .bool true) := by
  refine fn_gives K80 (by kernel_rfl) (fun ρ h => ctE14_ok (Sees.of h 134)) (by kernel_rfl) trLists_is trLists_low (by decide) (fun W vals ds hr hok => ?_)
  clear hr
  generalize e4 : iAt ds 4 = at4 at *
  generalize e0 : rAt ds 0 = a at *
  generalize e1 : rAt ds 1 = b at *
  generalize e2 : iAt ds 2 = px at *
  generalize e3 : iAt ds 3 = py at *
  simp only [trLists, TT.sat_ret, TT.sat_ite, TT.sat_ob, TT.sat_next, TT.sat_stuck, put_i, put_b, put_d, put_fi, put_fb, put_fd, Ob.ok, B.ev, E.ev, X.ev, AL.ev, cmp_t, cmp_f, arEv, V.plain, V2.plain, S.plain, S0.plain, V.val, V2.val, S.val, S0.val, bV, iV, List.all_cons, List.all_nil, Bool.and_true, Bool.and_self, envOf_i, envOf_b, envOf_d, List.map_cons, List.map_nil, true_and, Bool.not_eq_true', Bool.not_eq_false', Bool.not_not, Bool.and_eq_true, and_f, cell_lg, cell_lb, cell_lr, cmpP, val_i, val_b, val_d, aget, Nat.reduceBEq, beq_self_eq_true, Bool.false_eq_true, if_true, if_false, Nat.reduceLT, Nat.reduceSub, Nat.sub_self, Nat.lt_irrefl, e0, e1, e2, e3, e4, K80i132, K80i133, shR_eq, shE_eq]
  refine ⟨fun _ => trivial, fun hA => ⟨fun _ => trivial, fun hB => ⟨fun hE => ?_, fun hE => ?_⟩⟩⟩
  · by_cases q : listB a = true ∧ placeB px py = true
    · rw [if_pos q] at hE; exact absurd rfl hE
    · rw [if_neg q]; rfl
  have hOa : listB a = true ∧ placeB px py = true := by
    by_cases q : listB a = true ∧ placeB px py = true
    · exact q
    · rw [if_neg q] at hE; omega
  have hLa : listB a = true := hOa.1
  have hP : placeB px py = true := hOa.2
  have hM1 := (shoN_spec (r := a) (px := px) (py := py) a.length 0 100000).1
  refine TT.sat_loop (fun v => ∃ i : Nat, v.i 1 = i ∧ i ≤ a.length ∧ v.i 0 = shoN a px py i 0 100000) (fun v => a.length - (v.i 1).toNat) ⟨0, by simp [val_i, aget, E.ev], by omega, by simp [val_i, aget, E.ev, shoN]⟩ (fun v0 hv0 => ?_)
  obtain ⟨n, n0, n1, n2⟩ := hv0
  simp only [TT.sat_ret, TT.sat_ite, TT.sat_ob, TT.sat_next, TT.sat_stuck, put_i, put_b, put_d, put_fi, put_fb, put_fd, Ob.ok, B.ev, E.ev, X.ev, AL.ev, cmp_t, cmp_f, arEv, V.plain, V2.plain, S.plain, S0.plain, V.val, V2.val, S.val, S0.val, bV, iV, List.all_cons, List.all_nil, Bool.and_true, Bool.and_self, envOf_i, envOf_b, envOf_d, List.map_cons, List.map_nil, true_and, Bool.not_eq_true', Bool.not_eq_false', Bool.not_not, Bool.and_eq_true, and_f, cell_lg, cell_lb, cell_lr, cmpP, val_i, val_b, val_d, aget, Nat.reduceBEq, beq_self_eq_true, Bool.false_eq_true, if_true, if_false, Nat.reduceLT, Nat.reduceSub, Nat.sub_self, Nat.lt_irrefl, n0, e0, e1, e2, e3, e4, K80i132, K80i133, shR_eq, shE_eq]
  refine ⟨fun hc => ?_, fun hc => ?_⟩
  · have hn : n < a.length := by omega
    have ew : IntKind.i64.wrap ((n : Int) + 1) = ((n + 1 : Nat) : Int) := by rw [wrap_in _ (by omega) (by omega)]; rfl
    obtain ⟨g1, g2⟩ := one_list (px := px) (py := py) hLa hn
    have hm : a.length - ((n + 1 : Nat) : Int).toNat < a.length - (n : Int).toNat := by
      rw [Int.toNat_natCast, Int.toNat_natCast]; omega
    have hs := shoN_snoc (r := a) (px := px) (py := py) n 0 100000
    rw [Nat.zero_add] at hs
    have hb := (shoN_spec (r := a) (px := px) (py := py) n 0 100000).1
    have hmin : min (v0.i 0) (if lg a n 6 < 100000 ∧ covRow a n px py = true then lg a n 6 else 100000) = shoN a px py (n + 1) 0 100000 := by
      rw [hs, n2]
      generalize shoN a px py n 0 100000 = m at *
      by_cases c : covRow a n px py = true
      · simp only [c, and_true]
        (repeat' split) <;> omega
      · rw [if_neg (fun q => c q.2), if_neg (fun q => c q.2)]
        omega
    simp only [ew, g1, hP, g2, and_self, if_true, hmin]
    exact ⟨by omega, by omega, by omega, fun q => absurd rfl q, fun _ => ⟨⟨n + 1, rfl, by omega, rfl⟩, hm⟩⟩
  have hn : n = a.length := by omega
  subst hn
  simp only [hOa, and_self, if_true]
  refine ⟨fun q => absurd n2.symm q, fun _ => ?_⟩
  refine ⟨fun hpos => ?_, fun h0 => ?_⟩
  · have hk : ∃ k : Nat, (IntKind.i64.wrap at4).tmod (a.length : Int) = k ∧ k < a.length := by
      rw [wrap_in at4 (by omega) (by omega), Int.tmod_eq_emod_of_nonneg (by omega)]
      have g1 := Int.emod_nonneg at4 (show (a.length : Int) ≠ 0 by omega)
      have g2 := Int.emod_lt_of_pos at4 (show (0 : Int) < a.length by omega)
      exact ⟨(at4 % (a.length : Int)).toNat, by omega, by omega⟩
    obtain ⟨k, ek, hk⟩ := hk
    have ew : IntKind.i64.wrap ((k : Int) + 1) = ((k + 1 : Nat) : Int) := by rw [wrap_in _ (by omega) (by omega)]; rfl
    obtain ⟨g1, g2⟩ := but_list (px := px) (py := py) hLa hk
    have e00 : ((0 : Nat) : Int) = 0 := rfl
    rw [e00] at g1 g2
    have l1 := sub_len7 (r := a) (a := 0) (b := k) (by omega)
    have l2 := sub_len7 (r := a) (a := k + 1) (b := a.length) (by omega)
    rw [e00] at l1
    have hge : cmpEv BinOp.geq (shoN (subR a 0 (k : Int) ++ subR a ((k + 1 : Nat) : Int) (a.length : Int)) px py (subR a 0 (k : Int) ++ subR a ((k + 1 : Nat) : Int) (a.length : Int)).length 0 100000) (shoN a px py a.length 0 100000) = true := by
      rw [cmp_t]
      simp only [cmpP]
      omega
    simp only [ek, ew, g1, and_true, if_true, hge]
    refine ⟨by omega, by omega, by omega, by omega, by omega, by omega, by rw [List.length_append]; omega, fun _ => ⟨fun _ => trivial, fun hEb => ?_⟩, fun q => absurd trivial q⟩
    have hLb : listB b = true := by
      by_cases q : listB b = true
      · exact q
      · simp [q] at hEb
    clear hEb
    refine TT.sat_loop (fun v => ∃ i : Nat, v.i 0 = i ∧ i ≤ a.length ∧ ∀ k : Nat, k < i → ∃ j : Nat, j < b.length ∧ standX (lg a k 1) (lg a k 2) (lg a k 3) (lg a k 4) (lr a k 5) (lg a k 6) (lr a k 8) (lg b j 1) (lg b j 2) (lg b j 3) (lg b j 4) (lr b j 5) (lg b j 6) (lr b j 8) = true) (fun v => a.length - (v.i 0).toNat) ⟨0, by simp [val_i, aget, E.ev], by omega, fun k hk => by omega⟩ (fun v hv => ?_)
    obtain ⟨i, i0, i1, i2⟩ := hv
    simp only [TT.sat_ret, TT.sat_ite, TT.sat_ob, TT.sat_next, TT.sat_stuck, put_i, put_b, put_d, put_fi, put_fb, put_fd, Ob.ok, B.ev, E.ev, X.ev, AL.ev, cmp_t, cmp_f, arEv, V.plain, V2.plain, S.plain, S0.plain, V.val, V2.val, S.val, S0.val, bV, iV, List.all_cons, List.all_nil, Bool.and_true, Bool.and_self, envOf_i, envOf_b, envOf_d, List.map_cons, List.map_nil, true_and, Bool.not_eq_true', Bool.not_eq_false', Bool.not_not, Bool.and_eq_true, and_f, cell_lg, cell_lb, cell_lr, cmpP, val_i, val_b, val_d, aget, Nat.reduceBEq, beq_self_eq_true, Bool.false_eq_true, if_true, if_false, Nat.reduceLT, Nat.reduceSub, Nat.sub_self, Nat.lt_irrefl, i0, e0, e1, e2, e3, e4, K80i132, K80i133, K80i119, K80b128, feE_18, feStR_two, shR_eq, shE_eq, hLa, hLb, hP, and_self, if_true, ek, ew, g1]
    refine ⟨fun hc => ?_, fun hc => ?_⟩
    · have hi : i < a.length := by omega
      refine TT.sat_loop (fun u => ∃ j : Nat, u.i 1 = j ∧ j ≤ b.length ∧ (u.b 0 = true → ∃ j : Nat, j < b.length ∧ standX (lg a i 1) (lg a i 2) (lg a i 3) (lg a i 4) (lr a i 5) (lg a i 6) (lr a i 8) (lg b j 1) (lg b j 2) (lg b j 3) (lg b j 4) (lr b j 5) (lg b j 6) (lr b j 8) = true)) (fun u => b.length - (u.i 1).toNat) ⟨0, by simp [val_i, aget, E.ev], by omega, fun q => by simp [val_b, aget, B.ev] at q⟩ (fun u hu => ?_)
      obtain ⟨j, j0, j1, j2⟩ := hu
      simp only [TT.sat_ret, TT.sat_ite, TT.sat_ob, TT.sat_next, TT.sat_stuck, put_i, put_b, put_d, put_fi, put_fb, put_fd, Ob.ok, B.ev, E.ev, X.ev, AL.ev, cmp_t, cmp_f, arEv, V.plain, V2.plain, S.plain, S0.plain, V.val, V2.val, S.val, S0.val, bV, iV, List.all_cons, List.all_nil, Bool.and_true, Bool.and_self, envOf_i, envOf_b, envOf_d, List.map_cons, List.map_nil, true_and, Bool.not_eq_true', Bool.not_eq_false', Bool.not_not, Bool.and_eq_true, and_f, cell_lg, cell_lb, cell_lr, cmpP, val_i, val_b, val_d, aget, Nat.reduceBEq, beq_self_eq_true, Bool.false_eq_true, if_true, if_false, Nat.reduceLT, Nat.reduceSub, Nat.sub_self, Nat.lt_irrefl, i0, e0, e1, e2, e3, e4, K80i132, K80i133, K80i119, K80b128, feE_18, feStR_two, shR_eq, shE_eq, hLa, hLb, hP, and_self, if_true, j0, ek, ew, g1, hge]
      refine ⟨fun hcj => ?_, fun hcj => ?_⟩
      · have hj : j < b.length := by omega
        have hw : IntKind.i64.wrap ((j : Int) + 1) = (j : Int) + 1 := wrap_in _ (by omega) (by omega)
        simp only [hw]
        have hm : b.length - ((j : Int) + 1).toNat < b.length - (j : Int).toNat := by omega
        refine ⟨by omega, by omega, by omega, by omega, fun q => ⟨⟨j + 1, rfl, by omega, fun _ => j2 q⟩, hm⟩, fun q => ⟨fun g => ⟨⟨j + 1, rfl, by omega, fun s => ?_⟩, hm⟩, fun g => ⟨⟨j + 1, rfl, by omega, fun s => by simp at s⟩, hm⟩⟩⟩
        refine ⟨j, hj, ?_⟩
        first
          | exact s.2
          | (rw [Bool.and_eq_true] at s; exact s.2)
          | (simp only [val_b, aget, B.ev, put_b] at s; exact s.2)
      · refine ⟨fun q => trivial, fun q => ⟨⟨i + 1, ?_, by omega, fun k hk => ?_⟩, ?_⟩⟩
        · rw [wrap_in _ (by omega) (by omega)]; rfl
        · by_cases e : k = i
          · subst e; exact j2 q
          · exact i2 k (by omega)
        · rw [wrap_in _ (by omega) (by omega)]; omega
    · have hle := lists_le hLa hLb hP (fun k hk => i2 k (by omega))
      have hle' : cmpEv BinOp.leq (shoN b px py b.length 0 100000) (shoN a px py a.length 0 100000) = true := by
        rw [cmp_t]
        simp only [cmpP]
        omega
      refine ⟨fun _ => by rw [hle'], fun q => ?_⟩
      omega
  · refine ⟨fun _ => trivial, fun hEb => ?_⟩
    have hLb : listB b = true := by
      by_cases q : listB b = true
      · exact q
      · simp [q] at hEb
    clear hEb
    refine TT.sat_loop (fun v => ∃ i : Nat, v.i 0 = i) (fun v => a.length - (v.i 0).toNat) ⟨0, by simp [val_i, aget, E.ev]⟩ (fun v hv => ?_)
    obtain ⟨i, i0⟩ := hv
    simp only [TT.sat_ret, TT.sat_ite, TT.sat_ob, TT.sat_next, TT.sat_stuck, put_i, put_b, put_d, put_fi, put_fb, put_fd, Ob.ok, B.ev, E.ev, X.ev, AL.ev, cmp_t, cmp_f, arEv, V.plain, V2.plain, S.plain, S0.plain, V.val, V2.val, S.val, S0.val, bV, iV, List.all_cons, List.all_nil, Bool.and_true, Bool.and_self, envOf_i, envOf_b, envOf_d, List.map_cons, List.map_nil, true_and, Bool.not_eq_true', Bool.not_eq_false', Bool.not_not, Bool.and_eq_true, and_f, cell_lg, cell_lb, cell_lr, cmpP, val_i, val_b, val_d, aget, Nat.reduceBEq, beq_self_eq_true, Bool.false_eq_true, if_true, if_false, Nat.reduceLT, Nat.reduceSub, Nat.sub_self, Nat.lt_irrefl, i0, e0, e1, e2, e3, e4, K80i132, K80i133, K80i119, K80b128, feE_18, feStR_two, shR_eq, shE_eq, hLa, hLb, hP, and_self, if_true]
    refine ⟨fun hc => by omega, fun hc => ?_⟩
    have hle := lists_le hLa hLb hP (fun k hk => by omega)
    have hle' : cmpEv BinOp.leq (shoN b px py b.length 0 100000) (shoN a px py a.length 0 100000) = true := by
      rw [cmp_t]
      simp only [cmpP]
      omega
    rw [hle']
end Go.Proofs.Ytglepdhapakmbaa
