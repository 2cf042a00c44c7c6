/- MK, merged: TRg, Rg, Rh, Ri, TRj, Rj, TRk, Rk, Rl, TRm, Rm, TRn, Rn, TRo, Ro2. -/
import Derived.Test.YtinfmmofcadjgaaGreatMJ
import Derived.Test.YtinfmmofcadjgaaGreatMI
set_option linter.unusedSimpArgs false
set_option linter.unusedVariables false
/- Chapter 38: trees of the reference of layer 3: Valid, Place. -/
namespace Go.Proofs.YtinfmmofcadjgaaGreat
open Go.RowKit
-- term trR3V: call Tryz.prog ctR3 [] 100 66 (symArgs 0 [pts]) [] 0
def trR3V : TT OpR :=
(.ite (.cmp .lss (.len (.var 0)) (.lit 3))
  (.ret ((.v (.one (.z (.bool (.lit false))))), [], 0))
  (.ite (.cmp .gtr (.len (.var 0)) (.lit 24))
    (.ret ((.v (.one (.z (.bool (.lit false))))), [], 0))
    (.loop 0 1000 ⟨[(0, (.lit 0))], [], []⟩
      (.ite (.cmp .lss (.var 1000) (.len (.var 0)))
        (.ob (.tru (.cmp .leq (.lit 0) (.var 1000)))
        (.ob (.tru (.cmp .lss (.var 1000) (.len (.var 0))))
        (.ite (.not (.fn 3 (.i (.rd (.var 0) (.var 1000) 0) (.i (.rd (.var 0) (.var 1000) 1) .nil))))
          (.ret ((.v (.one (.z (.bool (.lit false))))), [], 1))
          (.ite (.cmp .gtr (.var 1000) (.lit 0))
            (.ob (.tru (.lit true))
            (.ob (.tru (.cmp .lss (.lit 0) (.len (.var 0))))
            (.ob (.tru (.cmp .leq (.lit 0) (.var 1000)))
            (.ob (.tru (.cmp .lss (.var 1000) (.len (.var 0))))
            (.ite (.not (.fn 96 (.i (.rd (.var 0) (.lit 0) 0) (.i (.rd (.var 0) (.lit 0) 1) (.i (.rd (.var 0) (.var 1000) 0) (.i (.rd (.var 0) (.var 1000) 1) .nil))))))
              (.ret ((.v (.one (.z (.bool (.lit false))))), [], 1))
              (.next 0 ⟨[(0, (.ar .add .i64 (.var 1000) (.lit 1)))], [], []⟩))))))
            (.next 0 ⟨[(0, (.ar .add .i64 (.var 1000) (.lit 1)))], [], []⟩)))))
        (.loop 1 2000 ⟨[(0, (.lit 0))], [], []⟩
          (.ite (.cmp .lss (.var 2000) (.len (.var 0)))
            (.ob (.tru (.cmp .leq (.lit 0) (.var 2000)))
            (.ob (.tru (.cmp .lss (.var 2000) (.len (.var 0))))
            (.ob (.tru (.cmp .neq (.len (.var 0)) (.lit 0)))
            (.ob (.tru (.cmp .leq (.lit 0) (.ar .rem .i64 (.ar .add .i64 (.var 2000) (.lit 1)) (.len (.var 0)))))
            (.ob (.tru (.cmp .lss (.ar .rem .i64 (.ar .add .i64 (.var 2000) (.lit 1)) (.len (.var 0))) (.len (.var 0))))
            (.ob (.tru (.cmp .neq (.len (.var 0)) (.lit 0)))
            (.ob (.tru (.cmp .leq (.lit 0) (.ar .rem .i64 (.ar .add .i64 (.var 2000) (.lit 2)) (.len (.var 0)))))
            (.ob (.tru (.cmp .lss (.ar .rem .i64 (.ar .add .i64 (.var 2000) (.lit 2)) (.len (.var 0))) (.len (.var 0))))
            (.ob (.tru (.fn 1 (.i (.rd (.var 0) (.var 2000) 0) (.i (.rd (.var 0) (.var 2000) 1) (.i (.rd (.var 0) (.ar .rem .i64 (.ar .add .i64 (.var 2000) (.lit 1)) (.len (.var 0))) 0) (.i (.rd (.var 0) (.ar .rem .i64 (.ar .add .i64 (.var 2000) (.lit 1)) (.len (.var 0))) 1) (.i (.rd (.var 0) (.ar .rem .i64 (.ar .add .i64 (.var 2000) (.lit 2)) (.len (.var 0))) 0) (.i (.rd (.var 0) (.ar .rem .i64 (.ar .add .i64 (.var 2000) (.lit 2)) (.len (.var 0))) 1) .nil))))))))
            (.ite (.cmp .eql (.fn 0 (.i (.rd (.var 0) (.var 2000) 0) (.i (.rd (.var 0) (.var 2000) 1) (.i (.rd (.var 0) (.ar .rem .i64 (.ar .add .i64 (.var 2000) (.lit 1)) (.len (.var 0))) 0) (.i (.rd (.var 0) (.ar .rem .i64 (.ar .add .i64 (.var 2000) (.lit 1)) (.len (.var 0))) 1) (.i (.rd (.var 0) (.ar .rem .i64 (.ar .add .i64 (.var 2000) (.lit 2)) (.len (.var 0))) 0) (.i (.rd (.var 0) (.ar .rem .i64 (.ar .add .i64 (.var 2000) (.lit 2)) (.len (.var 0))) 1) .nil))))))) (.lit 0))
              (.ret ((.v (.one (.z (.bool (.lit false))))), [], 3))
              (.next 1 ⟨[(0, (.ar .add .i64 (.var 2000) (.lit 1)))], [], []⟩)))))))))))
            (.ob (.tru (.fn 97 (.x (.var 0) .nil)))
            (.ite (.fn 66 (.x (.var 0) .nil))
              (.ret ((.v (.one (.z (.bool (.cmp .gtr (.fn 65 (.x (.var 0) .nil)) (.lit 0)))))), [], 3))
              (.ret ((.v (.one (.z (.bool (.lit false))))), [], 3))))))))))
-- end trR3V
set_option maxRecDepth 100000 in
theorem trR3V_is : T.norm 0 (call Tryz.prog ctR3 [] 100 66 (symArgs 0 [pts]) [] 0) TT.ret = trR3V := by kernel_rfl
theorem trR3V_low : trR3V.low 1000 = true := by kernel_rfl
-- term trR3P: call Tryz.prog ctR3 [] 100 107 (symArgs 0 [pt, pts]) [] 0
def trR3P : TT OpR :=
(.loop 0 2000 ⟨[(1, (.lit 0)), (0, (.lit 0))], [], []⟩
  (.ite (.cmp .lss (.var 2000) (.len (.var 2)))
    (.ob (.tru (.cmp .leq (.lit 0) (.var 2000)))
    (.ob (.tru (.cmp .lss (.var 2000) (.len (.var 2))))
    (.ob (.tru (.cmp .neq (.len (.var 2)) (.lit 0)))
    (.ob (.tru (.cmp .leq (.lit 0) (.ar .rem .i64 (.ar .add .i64 (.var 2000) (.lit 1)) (.len (.var 2)))))
    (.ob (.tru (.cmp .lss (.ar .rem .i64 (.ar .add .i64 (.var 2000) (.lit 1)) (.len (.var 2))) (.len (.var 2))))
    (.ob (.tru (.fn 1 (.i (.var 0) (.i (.var 1) (.i (.rd (.var 2) (.var 2000) 0) (.i (.rd (.var 2) (.var 2000) 1) (.i (.rd (.var 2) (.ar .rem .i64 (.ar .add .i64 (.var 2000) (.lit 1)) (.len (.var 2))) 0) (.i (.rd (.var 2) (.ar .rem .i64 (.ar .add .i64 (.var 2000) (.lit 1)) (.len (.var 2))) 1) .nil))))))))
    (.ite (.fn 4 (.i (.var 0) (.i (.var 1) (.i (.rd (.var 2) (.var 2000) 0) (.i (.rd (.var 2) (.var 2000) 1) (.i (.rd (.var 2) (.ar .rem .i64 (.ar .add .i64 (.var 2000) (.lit 1)) (.len (.var 2))) 0) (.i (.rd (.var 2) (.ar .rem .i64 (.ar .add .i64 (.var 2000) (.lit 1)) (.len (.var 2))) 1) .nil)))))))
      (.ret ((.v (.one (.z (.int .i64 (.lit 0))))), [], 5))
      (.ite (.cmp .leq (.rd (.var 2) (.var 2000) 1) (.var 1))
        (.ite (.cmp .gtr (.rd (.var 2) (.ar .rem .i64 (.ar .add .i64 (.var 2000) (.lit 1)) (.len (.var 2))) 1) (.var 1))
          (.ob (.tru (.fn 1 (.i (.rd (.var 2) (.var 2000) 0) (.i (.rd (.var 2) (.var 2000) 1) (.i (.rd (.var 2) (.ar .rem .i64 (.ar .add .i64 (.var 2000) (.lit 1)) (.len (.var 2))) 0) (.i (.rd (.var 2) (.ar .rem .i64 (.ar .add .i64 (.var 2000) (.lit 1)) (.len (.var 2))) 1) (.i (.var 0) (.i (.var 1) .nil))))))))
          (.ite (.cmp .gtr (.fn 0 (.i (.rd (.var 2) (.var 2000) 0) (.i (.rd (.var 2) (.var 2000) 1) (.i (.rd (.var 2) (.ar .rem .i64 (.ar .add .i64 (.var 2000) (.lit 1)) (.len (.var 2))) 0) (.i (.rd (.var 2) (.ar .rem .i64 (.ar .add .i64 (.var 2000) (.lit 1)) (.len (.var 2))) 1) (.i (.var 0) (.i (.var 1) .nil))))))) (.lit 0))
            (.ite (.cmp .leq (.rd (.var 2) (.ar .rem .i64 (.ar .add .i64 (.var 2000) (.lit 1)) (.len (.var 2))) 1) (.var 1))
              (.ite (.cmp .gtr (.rd (.var 2) (.var 2000) 1) (.var 1))
                (.ob (.tru (.fn 1 (.i (.rd (.var 2) (.var 2000) 0) (.i (.rd (.var 2) (.var 2000) 1) (.i (.rd (.var 2) (.ar .rem .i64 (.ar .add .i64 (.var 2000) (.lit 1)) (.len (.var 2))) 0) (.i (.rd (.var 2) (.ar .rem .i64 (.ar .add .i64 (.var 2000) (.lit 1)) (.len (.var 2))) 1) (.i (.var 0) (.i (.var 1) .nil))))))))
                (.ite (.cmp .lss (.fn 0 (.i (.rd (.var 2) (.var 2000) 0) (.i (.rd (.var 2) (.var 2000) 1) (.i (.rd (.var 2) (.ar .rem .i64 (.ar .add .i64 (.var 2000) (.lit 1)) (.len (.var 2))) 0) (.i (.rd (.var 2) (.ar .rem .i64 (.ar .add .i64 (.var 2000) (.lit 1)) (.len (.var 2))) 1) (.i (.var 0) (.i (.var 1) .nil))))))) (.lit 0))
                  (.next 0 ⟨[(1, (.ar .sub .i64 (.ar .add .i64 (.var 2001) (.lit 1)) (.lit 1))), (0, (.ar .add .i64 (.var 2000) (.lit 1)))], [], []⟩)
                  (.next 0 ⟨[(1, (.ar .add .i64 (.var 2001) (.lit 1))), (0, (.ar .add .i64 (.var 2000) (.lit 1)))], [], []⟩)))
                (.next 0 ⟨[(1, (.ar .add .i64 (.var 2001) (.lit 1))), (0, (.ar .add .i64 (.var 2000) (.lit 1)))], [], []⟩))
              (.next 0 ⟨[(1, (.ar .add .i64 (.var 2001) (.lit 1))), (0, (.ar .add .i64 (.var 2000) (.lit 1)))], [], []⟩))
            (.ite (.cmp .leq (.rd (.var 2) (.ar .rem .i64 (.ar .add .i64 (.var 2000) (.lit 1)) (.len (.var 2))) 1) (.var 1))
              (.ite (.cmp .gtr (.rd (.var 2) (.var 2000) 1) (.var 1))
                (.ob (.tru (.fn 1 (.i (.rd (.var 2) (.var 2000) 0) (.i (.rd (.var 2) (.var 2000) 1) (.i (.rd (.var 2) (.ar .rem .i64 (.ar .add .i64 (.var 2000) (.lit 1)) (.len (.var 2))) 0) (.i (.rd (.var 2) (.ar .rem .i64 (.ar .add .i64 (.var 2000) (.lit 1)) (.len (.var 2))) 1) (.i (.var 0) (.i (.var 1) .nil))))))))
                (.ite (.cmp .lss (.fn 0 (.i (.rd (.var 2) (.var 2000) 0) (.i (.rd (.var 2) (.var 2000) 1) (.i (.rd (.var 2) (.ar .rem .i64 (.ar .add .i64 (.var 2000) (.lit 1)) (.len (.var 2))) 0) (.i (.rd (.var 2) (.ar .rem .i64 (.ar .add .i64 (.var 2000) (.lit 1)) (.len (.var 2))) 1) (.i (.var 0) (.i (.var 1) .nil))))))) (.lit 0))
                  (.next 0 ⟨[(1, (.ar .sub .i64 (.var 2001) (.lit 1))), (0, (.ar .add .i64 (.var 2000) (.lit 1)))], [], []⟩)
                  (.next 0 ⟨[(1, (.var 2001)), (0, (.ar .add .i64 (.var 2000) (.lit 1)))], [], []⟩)))
                (.next 0 ⟨[(1, (.var 2001)), (0, (.ar .add .i64 (.var 2000) (.lit 1)))], [], []⟩))
              (.next 0 ⟨[(1, (.var 2001)), (0, (.ar .add .i64 (.var 2000) (.lit 1)))], [], []⟩))))
          (.ite (.cmp .leq (.rd (.var 2) (.ar .rem .i64 (.ar .add .i64 (.var 2000) (.lit 1)) (.len (.var 2))) 1) (.var 1))
            (.ite (.cmp .gtr (.rd (.var 2) (.var 2000) 1) (.var 1))
              (.ob (.tru (.fn 1 (.i (.rd (.var 2) (.var 2000) 0) (.i (.rd (.var 2) (.var 2000) 1) (.i (.rd (.var 2) (.ar .rem .i64 (.ar .add .i64 (.var 2000) (.lit 1)) (.len (.var 2))) 0) (.i (.rd (.var 2) (.ar .rem .i64 (.ar .add .i64 (.var 2000) (.lit 1)) (.len (.var 2))) 1) (.i (.var 0) (.i (.var 1) .nil))))))))
              (.ite (.cmp .lss (.fn 0 (.i (.rd (.var 2) (.var 2000) 0) (.i (.rd (.var 2) (.var 2000) 1) (.i (.rd (.var 2) (.ar .rem .i64 (.ar .add .i64 (.var 2000) (.lit 1)) (.len (.var 2))) 0) (.i (.rd (.var 2) (.ar .rem .i64 (.ar .add .i64 (.var 2000) (.lit 1)) (.len (.var 2))) 1) (.i (.var 0) (.i (.var 1) .nil))))))) (.lit 0))
                (.next 0 ⟨[(1, (.ar .sub .i64 (.var 2001) (.lit 1))), (0, (.ar .add .i64 (.var 2000) (.lit 1)))], [], []⟩)
                (.next 0 ⟨[(1, (.var 2001)), (0, (.ar .add .i64 (.var 2000) (.lit 1)))], [], []⟩)))
              (.next 0 ⟨[(1, (.var 2001)), (0, (.ar .add .i64 (.var 2000) (.lit 1)))], [], []⟩))
            (.next 0 ⟨[(1, (.var 2001)), (0, (.ar .add .i64 (.var 2000) (.lit 1)))], [], []⟩)))
        (.ite (.cmp .leq (.rd (.var 2) (.ar .rem .i64 (.ar .add .i64 (.var 2000) (.lit 1)) (.len (.var 2))) 1) (.var 1))
          (.ite (.cmp .gtr (.rd (.var 2) (.var 2000) 1) (.var 1))
            (.ob (.tru (.fn 1 (.i (.rd (.var 2) (.var 2000) 0) (.i (.rd (.var 2) (.var 2000) 1) (.i (.rd (.var 2) (.ar .rem .i64 (.ar .add .i64 (.var 2000) (.lit 1)) (.len (.var 2))) 0) (.i (.rd (.var 2) (.ar .rem .i64 (.ar .add .i64 (.var 2000) (.lit 1)) (.len (.var 2))) 1) (.i (.var 0) (.i (.var 1) .nil))))))))
            (.ite (.cmp .lss (.fn 0 (.i (.rd (.var 2) (.var 2000) 0) (.i (.rd (.var 2) (.var 2000) 1) (.i (.rd (.var 2) (.ar .rem .i64 (.ar .add .i64 (.var 2000) (.lit 1)) (.len (.var 2))) 0) (.i (.rd (.var 2) (.ar .rem .i64 (.ar .add .i64 (.var 2000) (.lit 1)) (.len (.var 2))) 1) (.i (.var 0) (.i (.var 1) .nil))))))) (.lit 0))
              (.next 0 ⟨[(1, (.ar .sub .i64 (.var 2001) (.lit 1))), (0, (.ar .add .i64 (.var 2000) (.lit 1)))], [], []⟩)
              (.next 0 ⟨[(1, (.var 2001)), (0, (.ar .add .i64 (.var 2000) (.lit 1)))], [], []⟩)))
            (.next 0 ⟨[(1, (.var 2001)), (0, (.ar .add .i64 (.var 2000) (.lit 1)))], [], []⟩))
          (.next 0 ⟨[(1, (.var 2001)), (0, (.ar .add .i64 (.var 2000) (.lit 1)))], [], []⟩))))))))))
    (.ite (.cmp .eql (.var 2001) (.lit 0))
      (.ret ((.v (.one (.z (.int .i64 (.lit (-1)))))), [], 5))
      (.ret ((.v (.one (.z (.int .i64 (.lit 1))))), [], 5)))))
-- end trR3P
set_option maxRecDepth 100000 in
theorem trR3P_is : T.norm 0 (call Tryz.prog ctR3 [] 100 107 (symArgs 0 [pt, pts]) [] 0) TT.ret = trR3P := by kernel_rfl
theorem trR3P_low : trR3P.low 1000 = true := by kernel_rfl
end Go.Proofs.YtinfmmofcadjgaaGreat
/- Chapter 38: the reference: layer 3's Valid, Place. -/
namespace Go.Proofs.YtinfmmofcadjgaaGreat
open Go.RowKit
theorem plN_iff {r : Rows} : ∀ (f i : Nat), plN r f i = true ↔ ∀ k, i ≤ k → k < i + f → placeB (lg r (k : Int) 0) (lg r (k : Int) 1) = true
  | 0, i => ⟨fun _ k h1 h2 => by omega, fun _ => rfl⟩
  | f + 1, i => by
    rw [plN, Bool.and_eq_true, plN_iff f (i + 1)]
    constructor
    · rintro ⟨h1, h2⟩ k g1 g2
      by_cases e : k = i
      · subst e; exact h1
      · exact h2 k (by omega) (by omega)
    · intro h
      exact ⟨h i (by omega) (by omega), fun k g1 g2 => h k (by omega) (by omega)⟩
theorem cornN_iff {r : Rows} : ∀ (f i : Nat), cornN r f i = true ↔ ∀ k, i ≤ k → k < i + f → cornOk r k = true
  | 0, i => ⟨fun _ k h1 h2 => by omega, fun _ => rfl⟩
  | f + 1, i => by
    rw [cornN, Bool.and_eq_true, cornN_iff f (i + 1)]
    constructor
    · rintro ⟨h1, h2⟩ k g1 g2
      by_cases e : k = i
      · subst e; exact h1
      · exact h2 k (by omega) (by omega)
    · intro h
      exact ⟨h i (by omega) (by omega), fun k g1 g2 => h k (by omega) (by omega)⟩
theorem order_less {a b x y : Int} : (0 ≤ orderI a b x y) ↔ ¬ lessB a b x y = true := by
  unfold lessB orderI
  rw [decide_eq_true_eq]
  (repeat' split) <;> omega
theorem cornOk_iff {r : Rows} (hpl : ∀ k : Nat, k < r.length → placeB (lg r k 0) (lg r k 1) = true) {i : Nat} (hi : i < r.length) :
    cornOk r i = true ↔ (0 < i → lessB (lg r 0 0) (lg r 0 1) (lg r i 0) (lg r i 1) = true) ∧ turnI (lg r (prv r.length i) 0) (lg r (prv r.length i) 1) (lg r i 0) (lg r i 1) (lg r (nxt r.length i) 0) (lg r (nxt r.length i) 1) ≠ 0 := by
  unfold cornOk
  rw [turnR_eq (hpl _ (prv_lt hi)) (hpl _ hi) (hpl _ (nxt_lt hi))]
  simp only [Bool.and_eq_true, Bool.not_eq_true', Bool.and_eq_false_imp, decide_eq_true_eq, decide_eq_false_iff_not, order_less, Decidable.not_not, ne_eq]
theorem rem_next2 {n i : Nat} (h : i < n) (h3 : 3 ≤ n) (hn : n ≤ 281474976710656) : (IntKind.i64.wrap ((i : Int) + 2)).tmod (n : Int) = (nxt n (nxt n i) : Int) := by
  rw [wrap_in ((i : Int) + 2) (by omega) (by omega), Int.tmod_eq_emod_of_nonneg (by omega)]
  by_cases h1 : i + 1 = n
  · rw [show nxt n i = 0 by unfold nxt; rw [if_pos h1], show nxt n 0 = 1 by unfold nxt; rw [if_neg (by omega)], show ((i : Int) + 2) = 1 + n by omega, Int.add_emod_right, Int.emod_eq_of_lt (by omega) (by omega)]; rfl
  · rw [show nxt n i = i + 1 by unfold nxt; rw [if_neg h1]]
    by_cases h2 : i + 2 = n
    · rw [show nxt n (i + 1) = 0 by unfold nxt; rw [if_pos (by omega)], show ((i : Int) + 2) = n by omega, Int.emod_self]; rfl
    · rw [show nxt n (i + 1) = i + 2 by unfold nxt; rw [if_neg (by omega)], Int.emod_eq_of_lt (by omega) (by omega)]; rfl
theorem KUb1 (W : World) (ds l : List D) : (envOf KU W ds).fb 1 l = six6 l := by simp only [envOf, KU, KT, KR, KG, KF, KE, KD, KC, KB, KA, K9, K8, K7, K6, K5, K]
theorem KUb3 (W : World) (ds l : List D) : (envOf KU W ds).fb 3 l = placeL l := by simp only [envOf, KU, KT, KR, KG, KF, KE, KD, KC, KB, KA, K9, K8, K7, K6, K5, K]
theorem KUb4 (W : World) (ds l : List D) : (envOf KU W ds).fb 4 l = onL l := by simp only [envOf, KU, KT, KR, KG, KF, KE, KD, KC, KB, KA, K9, K8, K7, K6, K5, K]
theorem KUi0 (W : World) (ds l : List D) : (envOf KU W ds).fi 0 l = turnL l := by simp only [envOf, KU, KT, KR, KG, KF, KE, KD, KC, KB, KA, K9, K8, K7, K6, K5, K]
theorem KUb96 (W : World) (ds l : List D) : (envOf KU W ds).fb 96 l = lessL l := by simp only [envOf, KU, KT, KR, KG, KF, KE, KD, KC, KB, KA, K9, K8, K7, K6, K5, K]
theorem KUb97 (W : World) (ds l : List D) : (envOf KU W ds).fb 97 l = plL l := by simp only [envOf, KU, KT, KR, KG, KF, KE, KD, KC, KB, KA, K9, K8, K7, K6, K5, K]
theorem KUb66 (W : World) (ds l : List D) : (envOf KU W ds).fb 66 l = simpleL l := by simp only [envOf, KU, KT, KR, KG, KF, KE, KD, KC, KB, KA, K9, K8, K7, K6, K5, K]
theorem KUi65 (W : World) (ds l : List D) : (envOf KU W ds).fi 65 l = twiceL l := by simp only [envOf, KU, KT, KR, KG, KF, KE, KD, KC, KB, KA, K9, K8, K7, K6, K5, K]
theorem less_four (a b c d : Int) : lessL [.i a, .i b, .i c, .i d] = lessB a b c d := rfl
theorem pl_one (r : Rows) : plL [.l r] = plN r r.length 0 := rfl
theorem nxt_prv {n i : Nat} (h : i < n) : nxt n (prv n i) = i := by unfold prv nxt; split <;> split <;> omega
theorem gR3V : Gives Tryz.prog 66 [pts] (fun ds => .bool (polyL ds)) := by
  refine GivesIf.all (fn_gives KU (by kernel_rfl) (fun ρ h => ctR3_ok (Sees.of h 98)) (by kernel_rfl) trR3V_is trR3V_low (by decide) (fun W vals ds hr _ => ?_))
  have hlen := pts_len hr
  simp only [trR3V, TT.sat_ret, TT.sat_ite, TT.sat_ob, TT.sat_next, TT.sat_stuck, put_i, put_b, put_d, put_fi, put_fb, put_fd, Ob.ok, B.ev, E.ev, X.ev, AL.ev, cmp_t, cmp_f, arEv, V.plain, V2.plain, S.plain, S0.plain, V.val, V2.val, S.val, S0.val, bV, iV, List.all_cons, List.all_nil, Bool.and_true, Bool.and_self, envOf_i, envOf_b, envOf_d, List.map_cons, List.map_nil, true_and, Bool.not_eq_true', Bool.not_eq_false', Bool.not_not, Bool.and_eq_true, and_f, cell_lg, cell_lb, cell_lr, cmpP, val_i, val_b, val_d, aget, Nat.reduceBEq, beq_self_eq_true, Bool.false_eq_true, if_true, if_false, Nat.reduceLT, Nat.reduceSub, Nat.sub_self, Nat.lt_irrefl]
  generalize hr0 : rAt ds 0 = r at hlen ⊢
  have hP : polyL ds = polyB r := by rw [polyL, hr0]
  rw [hP]
  refine ⟨fun h => ?_, fun h1 => ⟨fun h => ?_, fun h2 => ?_⟩⟩
  · rw [polyB, decide_eq_false (by omega)]; rfl
  · rw [polyB, decide_eq_false (by omega)]; rfl
  have hd : decide (3 ≤ r.length ∧ r.length ≤ 24) = true := decide_eq_true (by omega)
  have hpb : polyB r = (plN r r.length 0 && (cornN r r.length 0 && (simpleN r r.length 0 && decide (0 < twiceN r r.length 0 0)))) := by rw [polyB, hd]; rfl
  have F1 : ∀ k : Nat, k < r.length → placeB (lg r k 0) (lg r k 1) = false → Value.bool false = Value.bool (polyB r) := fun k hk h => by
    have : plN r r.length 0 = false := by
      rw [Bool.eq_false_iff]
      intro q
      rw [(plN_iff _ _).mp q k (by omega) (by omega)] at h
      exact absurd h (by decide)
    rw [hpb, this]; rfl
  have F2 : (∀ k : Nat, k < r.length → placeB (lg r k 0) (lg r k 1) = true → True) → ∀ k : Nat, k < r.length → ¬ cornOk r k = true → Value.bool false = Value.bool (polyB r) := fun _ k hk h => by
    have : cornN r r.length 0 = false := by
      rw [Bool.eq_false_iff]
      exact fun q => h ((cornN_iff _ _).mp q k (by omega) (by omega))
    rw [hpb, this, Bool.false_and, Bool.and_false]
  refine TT.sat_loop (fun v => ∃ i : Nat, v.i 0 = i ∧ i ≤ r.length ∧ ∀ k : Nat, k < i → placeB (lg r k 0) (lg r k 1) = true ∧ (0 < k → lessB (lg r 0 0) (lg r 0 1) (lg r k 0) (lg r k 1) = true)) (fun v => r.length - (v.i 0).toNat)
    ⟨0, by simp [val_i, aget, E.ev], by omega, fun k hk => by omega⟩ (fun v hv => ?_)
  obtain ⟨i, i0, i1, i2⟩ := hv
  simp only [TT.sat_ret, TT.sat_ite, TT.sat_ob, TT.sat_next, TT.sat_stuck, put_i, put_b, put_d, put_fi, put_fb, put_fd, Ob.ok, B.ev, E.ev, X.ev, AL.ev, cmp_t, cmp_f, arEv, V.plain, V2.plain, S.plain, S0.plain, V.val, V2.val, S.val, S0.val, bV, iV, List.all_cons, List.all_nil, Bool.and_true, Bool.and_self, envOf_i, envOf_b, envOf_d, List.map_cons, List.map_nil, true_and, Bool.not_eq_true', Bool.not_eq_false', Bool.not_not, Bool.and_eq_true, and_f, cell_lg, cell_lb, cell_lr, cmpP, val_i, val_b, val_d, aget, Nat.reduceBEq, beq_self_eq_true, Bool.false_eq_true, if_true, if_false, Nat.reduceLT, Nat.reduceSub, Nat.sub_self, Nat.lt_irrefl, i0, hr0, KUb1, KUb3, KUi0, KUb96, KUb97, KUb66, KUi65, less_four, place_two, simple_one, twice_one, pl_one]
  refine ⟨fun hc => ?_, fun hc => ?_⟩
  · have hi : i < r.length := by omega
    have N : placeB (lg r i 0) (lg r i 1) = true → (0 < i → lessB (lg r 0 0) (lg r 0 1) (lg r i 0) (lg r i 1) = true) → (∃ j : Nat, IntKind.i64.wrap ((i : Int) + 1) = j ∧ j ≤ r.length ∧ ∀ k : Nat, k < j → placeB (lg r k 0) (lg r k 1) = true ∧ (0 < k → lessB (lg r 0 0) (lg r 0 1) (lg r k 0) (lg r k 1) = true)) ∧ r.length - (IntKind.i64.wrap ((i : Int) + 1)).toNat < r.length - (i : Int).toNat := by
      intro h h'
      rw [wrap_in _ (by omega) (by omega)]
      refine ⟨⟨i + 1, rfl, by omega, fun k hk => ?_⟩, by omega⟩
      by_cases e : k = i
      · subst e; exact ⟨h, h'⟩
      · exact i2 k (by omega)
    refine ⟨by omega, by omega, fun p => F1 i hi p, fun p => ⟨fun a => ⟨by omega, by omega, by omega, fun l => F2 (fun _ _ _ => trivial) i hi (fun q => ?_), fun l => N p (fun _ => l)⟩, fun a => N p (fun h => by omega)⟩⟩
    unfold cornOk at q
    simp only [Bool.and_eq_true, Bool.not_eq_true', Bool.and_eq_false_imp, decide_eq_true_eq, decide_eq_false_iff_not, order_less, Decidable.not_not] at q
    rw [q.1 (by omega)] at l
    exact absurd l (by decide)
  · have hi : i = r.length := by omega
    subst hi
    have hpl : ∀ k : Nat, k < r.length → placeB (lg r k 0) (lg r k 1) = true := fun k hk => (i2 k hk).1
    have hplN : plN r r.length 0 = true := (plN_iff _ _).mpr (fun k _ hk => hpl k (by omega))
    refine TT.sat_loop (fun v => ∃ j : Nat, v.i 0 = j ∧ j ≤ r.length ∧ ∀ k : Nat, k < j → turnI (lg r k 0) (lg r k 1) (lg r (nxt r.length k) 0) (lg r (nxt r.length k) 1) (lg r (nxt r.length (nxt r.length k)) 0) (lg r (nxt r.length (nxt r.length k)) 1) ≠ 0) (fun v => r.length - (v.i 0).toNat)
      ⟨0, by simp [val_i, aget, E.ev], by omega, fun k hk => by omega⟩ (fun u hu => ?_)
    obtain ⟨j, j0, j1, j2⟩ := hu
    simp only [TT.sat_ret, TT.sat_ite, TT.sat_ob, TT.sat_next, TT.sat_stuck, put_i, put_b, put_d, put_fi, put_fb, put_fd, Ob.ok, B.ev, E.ev, X.ev, AL.ev, cmp_t, cmp_f, arEv, V.plain, V2.plain, S.plain, S0.plain, V.val, V2.val, S.val, S0.val, bV, iV, List.all_cons, List.all_nil, Bool.and_true, Bool.and_self, envOf_i, envOf_b, envOf_d, List.map_cons, List.map_nil, true_and, Bool.not_eq_true', Bool.not_eq_false', Bool.not_not, Bool.and_eq_true, and_f, cell_lg, cell_lb, cell_lr, cmpP, val_i, val_b, val_d, aget, Nat.reduceBEq, beq_self_eq_true, Bool.false_eq_true, if_true, if_false, Nat.reduceLT, Nat.reduceSub, Nat.sub_self, Nat.lt_irrefl, j0, hr0, KUb1, KUb3, KUi0, KUb96, KUb97, KUb66, KUi65, less_four, place_two, simple_one, twice_one, pl_one, six_six, turn_six]
    refine ⟨fun hc => ?_, fun hc => ?_⟩
    · have hj : j < r.length := by omega
      have hn := nxt_lt hj
      have hnn := nxt_lt hn
      simp only [rem_next1 hj hlen, rem_next2 hj (by omega) hlen, hpl j hj, hpl _ hn, hpl _ hnn, Bool.and_self]
      refine ⟨by omega, by omega, by omega, by omega, by omega, by omega, by omega, by omega, by simp, fun t => F2 (fun _ _ _ => trivial) (nxt r.length j) hn (fun q => ?_), fun t => ⟨⟨j + 1, ?_, by omega, fun k hk => ?_⟩, ?_⟩⟩
      · exact ((cornOk_iff hpl hn).mp q).2 (by rw [prv_nxt hj]; exact t)
      · rw [wrap_in _ (by omega) (by omega)]; rfl
      · by_cases e : k = j
        · subst e; exact t
        · exact j2 k (by omega)
      · rw [wrap_in _ (by omega) (by omega)]; omega
    · have hj : j = r.length := by omega
      have hco : cornN r r.length 0 = true := (cornN_iff _ _).mpr (fun k _ hk => (cornOk_iff hpl (by omega)).mpr ⟨(i2 k (by omega)).2, by
        have := j2 (prv r.length k) (by have := prv_lt (show k < r.length by omega); omega)
        rw [nxt_prv (by omega)] at this
        exact this⟩)
      rw [hpb, hplN, hco, Bool.true_and, Bool.true_and]
      refine ⟨rfl, fun s => ?_, fun s => ?_⟩
      · rw [s, Bool.true_and]
        congr 1
      · rw [s]; rfl
/-! ### The winding number -/
theorem meet_comm {ax ay bx by' cx cy dx dy : Int} : meetB cx cy dx dy ax ay bx by' = meetB ax ay bx by' cx cy dx dy := by
  rw [Bool.eq_iff_iff, meet_iff, meet_iff]
  exact ⟨fun ⟨k, x, y, h1, h2, h3⟩ => ⟨k, x, y, h1, h3, h2⟩, fun ⟨k, x, y, h1, h2, h3⟩ => ⟨k, x, y, h1, h3, h2⟩⟩
theorem rowN_spec {r : Rows} {i : Nat} : ∀ (f k : Nat), rowN r i f k = true → ∀ j, k ≤ j → j < k + f → pairOk r i j = true
  | 0, _, _, j, h1, h2 => by omega
  | f + 1, k, h, j, h1, h2 => by
    rw [rowN, Bool.and_eq_true] at h
    by_cases e : j = k
    · subst e; exact h.1
    · exact rowN_spec f (k + 1) h.2 j (by omega) (by omega)
theorem simpleN_spec {r : Rows} : ∀ (f i : Nat), simpleN r f i = true → ∀ a, i ≤ a → a < i + f → ∀ k, k < r.length → pairOk r a k = true
  | 0, _, _, a, h1, h2, _, _ => by omega
  | f + 1, i, h, a, h1, h2, k, hk => by
    rw [simpleN, Bool.and_eq_true] at h
    by_cases e : a = i
    · subst e; exact rowN_spec _ 0 h.1 k (by omega) (by omega)
    · exact simpleN_spec f (i + 1) h.2 a (by omega) (by omega) k hk
theorem poly_simple {r : Rows} (hr : polyB r = true) : Simple (cx r) (cy r) r.length := by
  have hl := polyB_len hr
  have hpl : ∀ k : Nat, k < r.length → placeB (lg r k 0) (lg r k 1) = true := fun k hk => polyB_pl hr hk
  have h := hr
  simp only [polyB, Bool.and_eq_true] at h
  obtain ⟨_, _, hco, hsi, _⟩ := h
  have key : ∀ i k, i < k → k < r.length → k ≠ nxt r.length i → i ≠ nxt r.length k → meetB (cx r i) (cy r i) (cx r (nxt r.length i)) (cy r (nxt r.length i)) (cx r k) (cy r k) (cx r (nxt r.length k)) (cy r (nxt r.length k)) = false := by
    intro i k hik hk h1 h2
    have h := simpleN_spec _ 0 hsi i (by omega) (by omega) k hk
    unfold pairOk at h
    have hno : ¬ (k ≤ i + 1 ∨ (i = 0 ∧ k + 1 = r.length)) := by
      unfold nxt at h1 h2
      split at h1 <;> split at h2 <;> omega
    rw [decide_eq_false hno, Bool.false_or, Bool.not_eq_true'] at h
    unfold meetE2 meetR at h
    rw [eight_eight, hpl i (by omega), hpl _ (nxt_lt (show i < r.length by omega)), hpl k hk, hpl _ (nxt_lt hk), meet_eight] at h
    exact h
  refine ⟨hl.1, fun i k hi hk hki h1 h2 => ?_, fun i hi => ?_⟩
  · rcases Nat.lt_or_ge i k with c | c
    · exact key i k c hk h1 h2
    · rw [← meet_comm]
      exact key k i (by omega) hi h2 h1
  · have hn := nxt_lt hi
    have := ((cornOk_iff hpl hn).mp ((cornN_iff _ _).mp hco _ (by omega) (by omega))).2
    rw [prv_nxt hi] at this
    exact fun z => this (sgn0.mpr z)
theorem poly_wind {r : Rows} (hr : polyB r = true) {x y : Int} (hq : ∀ k, k < r.length → onB x y (cx r k) (cy r k) (cx r (nxt r.length k)) (cy r (nxt r.length k)) = false) : -1 ≤ wind (cx r) (cy r) r.length x y ∧ wind (cx r) (cy r) r.length x y ≤ 1 :=
  wind_le (poly_simple hr) (K := 2000001) (by decide) (fun i k hi hk => by
    have h1 := placeB_iff.mp (polyB_pl hr hi)
    have h2 := placeB_iff.mp (polyB_pl hr hk)
    omega) hq
/-- Parity and sum of the crossings. -/
theorem par_sum {r : Rows} {x y : Int} : ∀ m, m ≤ r.length → ∀ b, (sumZ (fun k => sE x y (cx r k) (cy r k) (cx r (nxt r.length k)) (cy r (nxt r.length k))) m % 2 = if b then 1 else 0) → parN r x y r.length 0 = (b ^^ parN r x y (r.length - m) m)
  | 0, _, b, h => by
    cases b
    · simp
    · simp [sumZ] at h
  | m + 1, hm, b, h => by
    rw [sumZ] at h
    have e : parN r x y (r.length - m) m = (crE r x y m ^^ parN r x y (r.length - (m + 1)) (m + 1)) := by
      rw [show r.length - m = (r.length - (m + 1)) + 1 by omega]; rfl
    have hs : sE x y (cx r m) (cy r m) (cx r (nxt r.length m)) (cy r (nxt r.length m)) % 2 = if crE r x y m then 1 else 0 := by
      unfold sE crE
      cases crossP x y (cx r m) (cy r m) (cx r (nxt r.length m)) (cy r (nxt r.length m))
      · rfl
      · simp only [if_true]; split <;> rfl
    generalize sE x y (cx r m) (cy r m) (cx r (nxt r.length m)) (cy r (nxt r.length m)) = u at *
    have ih := par_sum (r := r) (x := x) (y := y) m (by omega) (b ^^ crE r x y m)
    rw [ih, e]
    · cases b <;> cases crE r x y m <;> cases parN r x y (r.length - (m + 1)) (m + 1) <;> rfl
    · revert h hs
      cases b <;> cases crE r x y m <;> simp <;> omega
theorem place_wind {r : Rows} (hr : polyB r = true) {x y : Int} (hq : placeB x y = true) (hon : ∀ k, k < r.length → onB x y (cx r k) (cy r k) (cx r (nxt r.length k)) (cy r (nxt r.length k)) = false) :
    placeN r x y r.length 0 false = if wind (cx r) (cy r) r.length x y = 0 then -1 else 1 := by
  have hw := poly_wind hr hon
  rw [placeN_eq hr hq _ _ _ (by omega), onN_false _ _ (fun k _ hk => hon k (by omega))]
  have hp := par_sum (r := r) (x := x) (y := y) r.length (by omega)
  have ew : sumZ (fun k => sE x y (cx r k) (cy r k) (cx r (nxt r.length k)) (cy r (nxt r.length k))) r.length = wind (cx r) (cy r) r.length x y := rfl
  rw [ew, Nat.sub_self] at hp
  simp only [parN, Bool.xor_false, Bool.false_eq_true, if_false, Bool.false_xor] at hp ⊢
  by_cases h0 : wind (cx r) (cy r) r.length x y = 0
  · rw [hp false (by rw [h0]; rfl), if_pos h0]; rfl
  · rw [hp true (by rw [if_pos rfl]; omega), if_neg h0]; rfl
end Go.Proofs.YtinfmmofcadjgaaGreat
/- Chapter 38: the reference: layer 3's Place; contracts. -/
namespace Go.Proofs.YtinfmmofcadjgaaGreat
open Go.RowKit
/-- A crossing, as the reference tells it. -/
theorem sE_R (x y ax ay bx by' : Int) : sE x y ax ay bx by' = (if ay ≤ y ∧ y < by' ∧ 0 < turnI ax ay bx by' x y then 1 else 0) + (if by' ≤ y ∧ y < ay ∧ turnI ax ay bx by' x y < 0 then -1 else 0) := by
  rw [sE_eq]
  have e : crossI bx by' ax ay x y = - crossI ax ay bx by' x y := by unfold crossI; grind
  rw [e]
  unfold turnI
  simp only [sgn_p, sgn_n]
  generalize crossI ax ay bx by' x y = u
  (repeat' split) <;> omega
theorem onN_no {r : Rows} {x y : Int} : ∀ (f i : Nat), onN r x y f i = false → ∀ k, i ≤ k → k < i + f → onB x y (cx r k) (cy r k) (cx r (nxt r.length k)) (cy r (nxt r.length k)) = false
  | 0, _, _, k, h1, h2 => by omega
  | f + 1, i, h, k, h1, h2 => by
    rw [onN, Bool.or_eq_false_iff] at h
    by_cases e : k = i
    · subst e; exact h.1
    · exact onN_no f (i + 1) h.2 k (by omega) (by omega)
theorem gR3P : GivesIf Tryz.prog 107 [pt, pts] (fun ds => (placeB (iAt ds 0) (iAt ds 1) && polyB (rAt ds 2)) = true) (fun ds => .int .i64 (placeN (rAt ds 2) (iAt ds 0) (iAt ds 1) (rAt ds 2).length 0 false)) := by
  refine fn_gives KU (by kernel_rfl) (fun ρ h => ctR3_ok (Sees.of h 98)) (by kernel_rfl) trR3P_is trR3P_low (by decide) (fun W vals ds hr hok => ?_)
  rw [Bool.and_eq_true] at hok
  obtain ⟨hq, hp⟩ := hok
  have hl := polyB_len hp
  have hpl : ∀ k : Nat, k < (rAt ds 2).length → placeB (lg (rAt ds 2) k 0) (lg (rAt ds 2) k 1) = true := fun k hk => polyB_pl hp hk
  simp only [trR3P]
  refine TT.sat_loop (fun v => ∃ i : Nat, v.i 0 = i ∧ i ≤ (rAt ds 2).length ∧ (v.i 1 = sumZ (fun k => sE (iAt ds 0) (iAt ds 1) (cx (rAt ds 2) k) (cy (rAt ds 2) k) (cx (rAt ds 2) (nxt (rAt ds 2).length k)) (cy (rAt ds 2) (nxt (rAt ds 2).length k))) i ∧ -i ≤ v.i 1 ∧ v.i 1 ≤ i) ∧ ∀ k, k < i → onB (iAt ds 0) (iAt ds 1) (cx (rAt ds 2) k) (cy (rAt ds 2) k) (cx (rAt ds 2) (nxt (rAt ds 2).length k)) (cy (rAt ds 2) (nxt (rAt ds 2).length k)) = false) (fun v => (rAt ds 2).length - (v.i 0).toNat)
    ⟨0, by simp [val_i, aget, E.ev], by omega, ⟨by simp [val_i, aget, E.ev, sumZ], by simp [val_i, aget, E.ev], by simp [val_i, aget, E.ev]⟩, fun k hk => by omega⟩ (fun v hv => ?_)
  obtain ⟨i, i0, i1, ⟨i2, i3, i4⟩, i5⟩ := hv
  simp only [TT.sat_ret, TT.sat_ite, TT.sat_ob, TT.sat_next, TT.sat_stuck, put_i, put_b, put_d, put_fi, put_fb, put_fd, Ob.ok, B.ev, E.ev, X.ev, AL.ev, cmp_t, cmp_f, arEv, V.plain, V2.plain, S.plain, S0.plain, V.val, V2.val, S.val, S0.val, bV, iV, List.all_cons, List.all_nil, Bool.and_true, Bool.and_self, envOf_i, envOf_b, envOf_d, List.map_cons, List.map_nil, true_and, Bool.not_eq_true', Bool.not_eq_false', Bool.not_not, Bool.and_eq_true, and_f, cell_lg, cell_lb, cell_lr, cmpP, val_i, val_b, val_d, aget, Nat.reduceBEq, beq_self_eq_true, Bool.false_eq_true, if_true, if_false, Nat.reduceLT, Nat.reduceSub, Nat.sub_self, Nat.lt_irrefl, i0, KUb1, KUb4, KUi0, six_six, on_six, turn_six]
  refine ⟨fun hc => ?_, fun hc => ?_⟩
  · have hi : i < (rAt ds 2).length := by omega
    have hn := nxt_lt hi
    simp only [rem_next1 hi (show (rAt ds 2).length ≤ 281474976710656 by omega), hq, hpl i hi, hpl _ hn, Bool.and_self]
    have N : ∀ w : Int, w = v.i 1 + sE (iAt ds 0) (iAt ds 1) (cx (rAt ds 2) i) (cy (rAt ds 2) i) (cx (rAt ds 2) (nxt (rAt ds 2).length i)) (cy (rAt ds 2) (nxt (rAt ds 2).length i)) → onB (iAt ds 0) (iAt ds 1) (lg (rAt ds 2) i 0) (lg (rAt ds 2) i 1) (lg (rAt ds 2) (nxt (rAt ds 2).length i) 0) (lg (rAt ds 2) (nxt (rAt ds 2).length i) 1) = false →
        (∃ j : Nat, IntKind.i64.wrap ((i : Int) + 1) = j ∧ j ≤ (rAt ds 2).length ∧ (w = sumZ (fun k => sE (iAt ds 0) (iAt ds 1) (cx (rAt ds 2) k) (cy (rAt ds 2) k) (cx (rAt ds 2) (nxt (rAt ds 2).length k)) (cy (rAt ds 2) (nxt (rAt ds 2).length k))) j ∧ -j ≤ w ∧ w ≤ j) ∧ ∀ k, k < j → onB (iAt ds 0) (iAt ds 1) (cx (rAt ds 2) k) (cy (rAt ds 2) k) (cx (rAt ds 2) (nxt (rAt ds 2).length k)) (cy (rAt ds 2) (nxt (rAt ds 2).length k)) = false) ∧ (rAt ds 2).length - (IntKind.i64.wrap ((i : Int) + 1)).toNat < (rAt ds 2).length - (i : Int).toNat := by
      intro w hw ho
      rw [wrap_in _ (by omega) (by omega)]
      have hs : -1 ≤ sE (iAt ds 0) (iAt ds 1) (cx (rAt ds 2) i) (cy (rAt ds 2) i) (cx (rAt ds 2) (nxt (rAt ds 2).length i)) (cy (rAt ds 2) (nxt (rAt ds 2).length i)) ∧ sE (iAt ds 0) (iAt ds 1) (cx (rAt ds 2) i) (cy (rAt ds 2) i) (cx (rAt ds 2) (nxt (rAt ds 2).length i)) (cy (rAt ds 2) (nxt (rAt ds 2).length i)) ≤ 1 := by
        unfold sE; (repeat' split) <;> omega
      refine ⟨⟨i + 1, rfl, by omega, ⟨?_, by omega, by omega⟩, fun k hk => ?_⟩, by omega⟩
      · rw [sumZ, ← i2]; exact hw
      · by_cases e : k = i
        · subst e; exact ho
        · exact i5 k (by omega)
    have es := sE_R (iAt ds 0) (iAt ds 1) (cx (rAt ds 2) i) (cy (rAt ds 2) i) (cx (rAt ds 2) (nxt (rAt ds 2).length i)) (cy (rAt ds 2) (nxt (rAt ds 2).length i))
    unfold cx cy at es N
    have w1 : IntKind.i64.wrap (v.i 1 + 1) = v.i 1 + 1 := wrap_in _ (by omega) (by omega)
    have w2 : IntKind.i64.wrap (v.i 1 - 1) = v.i 1 - 1 := wrap_in _ (by omega) (by omega)
    have w3 : IntKind.i64.wrap (v.i 1 + 1 - 1) = v.i 1 + 1 - 1 := wrap_in _ (by omega) (by omega)
    simp only [w1, w2, w3]
    generalize turnI (lg (rAt ds 2) i 0) (lg (rAt ds 2) i 1) (lg (rAt ds 2) (nxt (rAt ds 2).length i) 0) (lg (rAt ds 2) (nxt (rAt ds 2).length i) 1) (iAt ds 0) (iAt ds 1) = t at *
    refine ⟨by omega, by omega, by omega, by omega, by omega, by simp, fun o => ?_, fun o => ?_⟩
    · rw [placeN_eq hp hq _ _ _ (by omega)]
      have : onN (rAt ds 2) (iAt ds 0) (iAt ds 1) (rAt ds 2).length 0 = true := by
        cases h : onN (rAt ds 2) (iAt ds 0) (iAt ds 1) (rAt ds 2).length 0 with
        | true => rfl
        | false =>
          have := onN_no _ 0 h i (by omega) (by omega)
          unfold cx cy at this
          rw [o] at this; exact absurd this (by decide)
      rw [this]; rfl
    · (repeat' (first | (intro h; skip) | (refine And.intro ?_ ?_)))
      all_goals try (exfalso; omega)
      all_goals try (simp; done)
      all_goals try (exact (N (v.i 1 + sE _ _ _ _ _ _) rfl o).2)
      all_goals first | (refine (N (v.i 1 + 1) ?_ o).1; rw [es]; (repeat' split) <;> omega) | (refine (N (v.i 1 - 1) ?_ o).1; rw [es]; (repeat' split) <;> omega) | (refine (N (v.i 1) ?_ o).1; rw [es]; (repeat' split) <;> omega)
  · have hi : i = (rAt ds 2).length := by omega
    subst hi
    rw [place_wind hp hq i5]
    have ew : wind (cx (rAt ds 2)) (cy (rAt ds 2)) (rAt ds 2).length (iAt ds 0) (iAt ds 1) = v.i 1 := i2.symm
    rw [ew]
    exact ⟨fun h => by rw [if_pos h], fun h => by rw [if_neg h]⟩
end Go.Proofs.YtinfmmofcadjgaaGreat
/- Chapter 38: the reference: contracts of layer 3's Valid, Place. -/
namespace Go.Proofs.YtinfmmofcadjgaaGreat
open Go.RowKit
def plcL (ds : List D) : Int := placeN (rAt ds 2) (iAt ds 0) (iAt ds 1) (rAt ds 2).length 0 false
/-- All symbols so far. -/
def KV : Interp where
  fi n l := match n with | 98 => plcL l | n => KU.fi n l
  fb n l := KU.fb n l
  fd _ _ := []
theorem KV_KU {ρ : Env} (h : Sees ρ KV 99) : Sees ρ KU 98 := h.trans (by decide) fun n l hn => by
  refine ⟨?_, ?_⟩
  ·
    simp only [KV]
    split <;> first | omega | rfl
  ·
    rfl
def cR3V := ctD [pts] fun al => .ret (bV (bF 69 polyL al))
theorem cR3V_ok {ρ : Env} (h : Sees ρ KG 80) : CtOne Tryz.prog ρ 66 cR3V :=
  ctD_ok gR3V (fun _ => rfl) (fun al => by simp only [iV, bV, V.s0, V.val, V2.val, S.val, S0.val, bF_ev (s := 69) (f := polyL) (fun l => by rw [(h 69 l (by decide)).2]; simp only [KG, KF, KE, KD, KC, KB, KA, K9, K8, K7, K6, K5, K])]; try rfl)
def oPlc (al : AL) : T V := match al with
  | .i a (.i b (.x r .nil)) => T.obs [.tru (.fn 3 (.i a (.i b .nil))), .tru (.fn 69 (.x r .nil))] (.ret (iV .i64 (iF 98 plcL al)))
  | _ => .stuck "place"
def cPlcR := ctD [pt, pts] oPlc
theorem KV_KG {ρ : Env} (h : Sees ρ KV 99) : Sees ρ KG 80 := KU_KG (KV_KU h)
theorem cPlcR_ok {ρ : Env} (h : Sees ρ KV 99) : CtOne Tryz.prog ρ 107 cPlcR := by
  refine ctD_if gR3P (fun al v hv => ?_)
  have h3 : ∀ l, ρ.fb 3 l = placeL l := fun l => by rw [(KV_KG h 3 l (by decide)).2]; simp only [KG, KF, KE, KD, KC, KB, KA, K9, K8, K7, K6, K5, K]
  have h69 : ∀ l, ρ.fb 69 l = polyL l := fun l => by rw [(KV_KG h 69 l (by decide)).2]; simp only [KG, KF, KE, KD, KC, KB, KA, K9, K8, K7, K6, K5, K]
  unfold oPlc at hv
  split at hv
  · rename_i a b r
    obtain ⟨ho, hv⟩ := T.res_obs hv
    obtain rfl := res_ret hv
    have o1 := ho _ (List.mem_cons_self ..)
    have o2 := ho _ (List.mem_cons_of_mem _ (List.mem_cons_self ..))
    simp only [Ob.ok, B.ev, AL.ev, h3, h69] at o1 o2
    refine ⟨rfl, ?_, ?_⟩
    · show (placeB (a.ev ρ) (b.ev ρ) && polyB (r.ev ρ)) = true
      rw [Bool.and_eq_true]
      exact ⟨o1, o2⟩
    · simp only [iV, V.s0, V.val, V2.val, S.val, S0.val, iF_ev (s := 98) (f := plcL) (fun l => by rw [(h 98 l (by decide)).1]; simp only [KV])]
      try rfl
  · exact hv.elim
def ctR4 : Ct := (66, cR3V) :: (107, cPlcR) :: ctR3
theorem ctR4_ok {ρ : Env} (h : Sees ρ KV 99) : CtOk Tryz.prog ρ ctR4 := .cons (cR3V_ok (KV_KG h)) <| .cons (cPlcR_ok h) (ctR3_ok (KV_KU h))
end Go.Proofs.YtinfmmofcadjgaaGreat
/- Chapter 38: trees of the reference: In; layer 5. -/
namespace Go.Proofs.YtinfmmofcadjgaaGreat
open Go.RowKit
-- term trR3I: call Tryz.prog ctR4 [] 100 68 (symArgs 0 [pt, pts]) [] 0
def trR3I : TT OpR :=
(.ite (.not (.fn 3 (.i (.var 0) (.i (.var 1) .nil))))
  (.ret ((.tup [(.one (.z (.int .i64 (.lit 0)))), (.one (.z (.int .i64 (.lit 1))))]), [], 1))
  (.ite (.not (.fn 69 (.x (.var 2) .nil)))
    (.ret ((.tup [(.one (.z (.int .i64 (.lit 0)))), (.one (.z (.int .i64 (.lit 1))))]), [], 1))
    (.ob (.tru (.fn 3 (.i (.var 0) (.i (.var 1) .nil))))
    (.ob (.tru (.fn 69 (.x (.var 2) .nil)))
    (.ret ((.tup [(.one (.z (.int .i64 (.fn 98 (.i (.var 0) (.i (.var 1) (.x (.var 2) .nil))))))), (.one (.z (.int .i64 (.lit 0))))]), [], 1))))))
-- end trR3I
set_option maxRecDepth 100000 in
theorem trR3I_is : T.norm 0 (call Tryz.prog ctR4 [] 100 68 (symArgs 0 [pt, pts]) [] 0) TT.ret = trR3I := by kernel_rfl
theorem trR3I_low : trR3I.low 1000 = true := by kernel_rfl
-- term trR5D: call Tryz.prog [] [] 100 125 (symArgs 0 [dir]) [] 0
def trR5D : TT OpR :=
(.ite (.cmp .geq (.var 0) (.lit (-1000000)))
  (.ite (.cmp .leq (.var 0) (.lit 1000000))
    (.ite (.cmp .geq (.var 1) (.lit (-1000000)))
      (.ite (.cmp .leq (.var 1) (.lit 1000000))
        (.ite (.cmp .neq (.var 0) (.lit 0))
          (.ret ((.v (.one (.z (.bool (.lit true))))), [], 1))
          (.ret ((.v (.one (.z (.bool (.cmp .neq (.var 1) (.lit 0)))))), [], 1)))
        (.ret ((.v (.one (.z (.bool (.lit false))))), [], 1)))
      (.ret ((.v (.one (.z (.bool (.lit false))))), [], 1)))
    (.ret ((.v (.one (.z (.bool (.lit false))))), [], 1)))
  (.ret ((.v (.one (.z (.bool (.lit false))))), [], 1)))
-- end trR5D
set_option maxRecDepth 100000 in
theorem trR5D_is : T.norm 0 (call Tryz.prog [] [] 100 125 (symArgs 0 [dir]) [] 0) TT.ret = trR5D := by kernel_rfl
theorem trR5D_low : trR5D.low 1000 = true := by kernel_rfl
end Go.Proofs.YtinfmmofcadjgaaGreat
/- Chapter 38: the reference: layer 3's In; layer 5's Direction. -/
namespace Go.Proofs.YtinfmmofcadjgaaGreat
open Go.RowKit
theorem KVb3 (W : World) (ds l : List D) : (envOf KV W ds).fb 3 l = placeL l := by simp only [envOf, KV, KU, KT, KR, KG, KF, KE, KD, KC, KB, KA, K9, K8, K7, K6, K5, K]
theorem KVb69 (W : World) (ds l : List D) : (envOf KV W ds).fb 69 l = polyL l := by simp only [envOf, KV, KU, KT, KR, KG, KF, KE, KD, KC, KB, KA, K9, K8, K7, K6, K5, K]
theorem KVi98 (W : World) (ds l : List D) : (envOf KV W ds).fi 98 l = plcL l := by simp only [envOf, KV, KU, KT, KR, KG, KF, KE, KD, KC, KB, KA, K9, K8, K7, K6, K5, K]
theorem gR3I : Gives Tryz.prog 68 [pt, pts] (fun ds => .tuple #[.int .i64 (pinR ds), .int .i64 (pinE ds)]) := by
  refine GivesIf.all (fn_gives KV (by kernel_rfl) (fun ρ h => ctR4_ok (Sees.of h 99)) (by kernel_rfl) trR3I_is trR3I_low (by decide) (fun W vals ds hr _ => ?_))
  simp only [trR3I, TT.sat_ret, TT.sat_ite, TT.sat_ob, TT.sat_next, TT.sat_stuck, put_i, put_b, put_d, put_fi, put_fb, put_fd, Ob.ok, B.ev, E.ev, X.ev, AL.ev, cmp_t, cmp_f, arEv, V.plain, V2.plain, S.plain, S0.plain, V.val, V2.val, S.val, S0.val, bV, iV, List.all_cons, List.all_nil, Bool.and_true, Bool.and_self, envOf_i, envOf_b, envOf_d, List.map_cons, List.map_nil, true_and, Bool.not_eq_true', Bool.not_eq_false', Bool.not_not, Bool.and_eq_true, and_f, cell_lg, cell_lb, cell_lr, cmpP, val_i, val_b, val_d, aget, Nat.reduceBEq, beq_self_eq_true, Bool.false_eq_true, if_true, if_false, Nat.reduceLT, Nat.reduceSub, Nat.sub_self, Nat.lt_irrefl, KVb3, KVb69, KVi98, place_two, poly_one]
  refine ⟨fun h => ?_, fun h => ⟨fun h' => ?_, fun h' => ⟨h, h', ?_⟩⟩⟩
  · simp [pinR, pinE, pinO, h]
  · simp [pinR, pinE, pinO, h']
  · have ho : pinO ds = true := by unfold pinO; rw [h, h']; rfl
    simp only [pinR, pinE, ho, if_true]
    rfl
def dirL (ds : List D) : Bool := dirB (iAt ds 0) (iAt ds 1)
theorem gR5D : Gives Tryz.prog 125 [dir] (fun ds => .bool (dirL ds)) := by
  refine GivesIf.all (fn_gives KV (by kernel_rfl) (fun ρ h => .nil) (by kernel_rfl) trR5D_is trR5D_low (by decide) (fun W vals ds hr _ => ?_))
  simp only [trR5D, TT.sat_ret, TT.sat_ite, TT.sat_ob, TT.sat_next, TT.sat_stuck, put_i, put_b, put_d, put_fi, put_fb, put_fd, Ob.ok, B.ev, E.ev, X.ev, AL.ev, cmp_t, cmp_f, arEv, V.plain, V2.plain, S.plain, S0.plain, V.val, V2.val, S.val, S0.val, bV, iV, List.all_cons, List.all_nil, Bool.and_true, Bool.and_self, envOf_i, envOf_b, envOf_d, List.map_cons, List.map_nil, true_and, Bool.not_eq_true', Bool.not_eq_false', Bool.not_not, Bool.and_eq_true, and_f, cell_lg, cell_lb, cell_lr, cmpP, val_i, val_b, val_d, aget, Nat.reduceBEq, beq_self_eq_true, Bool.false_eq_true, if_true, if_false, Nat.reduceLT, Nat.reduceSub, Nat.sub_self, Nat.lt_irrefl]
  simp only [dirL, dirB]
  (repeat' (first | (intro h; skip) | (refine And.intro ?_ ?_)))
  all_goals (congr 1; rw [Bool.eq_iff_iff]; try rw [cmp_t])
  all_goals (simp only [cmpP, decide_eq_true_eq, Bool.false_eq_true, false_iff, true_iff]; omega)
def hasR6 (ds : List D) : Bool := hasB (iAt ds 0) (iAt ds 1) (iAt ds 2) (iAt ds 3) (iAt ds 4) (iAt ds 5)
/-- All symbols so far. -/
def KW : Interp where
  fi n l := KV.fi n l
  fb n l := match n with | 99 => dirL l | 100 => hasR6 l | n => KV.fb n l
  fd _ _ := []
theorem KW_KV {ρ : Env} (h : Sees ρ KW 101) : Sees ρ KV 99 := h.trans (by decide) fun n l hn => by
  refine ⟨?_, ?_⟩
  ·
    rfl
  ·
    simp only [KW]
    split <;> first | omega | rfl
def cR3I := ctD [pt, pts] fun al => .ret (.tup [.one (sIF 70 pinR al), .one (sIF 71 pinE al)])
theorem cR3I_ok {ρ : Env} (h : Sees ρ KG 80) : CtOne Tryz.prog ρ 68 cR3I :=
  ctD_ok gR3I (fun _ => rfl) (fun al => by simp only [V.val, V2.val, S.val, S0.val, sIF, sBF, List.map_cons, List.map_nil, iF_ev (s := 70) (f := pinR) (fun l => by rw [(h 70 l (by decide)).1]; simp only [KG, KF, KE, KD, KC, KB, KA, K9, K8, K7, K6, K5, K]), iF_ev (s := 71) (f := pinE) (fun l => by rw [(h 71 l (by decide)).1]; simp only [KG, KF, KE, KD, KC, KB, KA, K9, K8, K7, K6, K5, K])]; try rfl)
def cR5D := ctD [dir] fun al => .ret (bV (bF 99 dirL al))
theorem cR5D_ok {ρ : Env} (h : Sees ρ KW 101) : CtOne Tryz.prog ρ 125 cR5D :=
  ctD_ok gR5D (fun _ => rfl) (fun al => by simp only [iV, bV, V.s0, V.val, V2.val, S.val, S0.val, bF_ev (s := 99) (f := dirL) (fun l => by rw [(h 99 l (by decide)).2]; simp only [KW, KV, KU, KT, KR, KG, KF, KE, KD, KC, KB, KA, K9, K8, K7, K6, K5, K])]; try rfl)
theorem KW_KG {ρ : Env} (h : Sees ρ KW 101) : Sees ρ KG 80 := KV_KG (KW_KV h)
def ctR5 : Ct := (68, cR3I) :: (125, cR5D) :: ctR4
theorem ctR5_ok {ρ : Env} (h : Sees ρ KW 101) : CtOk Tryz.prog ρ ctR5 := .cons (cR3I_ok (KW_KG h)) <| .cons (cR5D_ok h) (ctR4_ok (KW_KV h))
end Go.Proofs.YtinfmmofcadjgaaGreat
/- Chapter 38: trees of the reference of layer 5: has, valid. -/
namespace Go.Proofs.YtinfmmofcadjgaaGreat
open Go.RowKit
-- term trR5H: call Tryz.prog ctR5 [] 100 106 (symArgs 0 [dir, dir, dir]) [] 0
def trR5H : TT OpR :=
(.ite (.cmp .eql (.ar .sub .i64 (.ar .mul .i64 (.var 0) (.var 3)) (.ar .mul .i64 (.var 1) (.var 2))) (.lit 0))
  (.ite (.cmp .gtr (.ar .add .i64 (.ar .mul .i64 (.var 0) (.var 2)) (.ar .mul .i64 (.var 1) (.var 3))) (.lit 0))
    (.ret ((.v (.one (.z (.bool (.lit true))))), [], 7))
    (.ite (.cmp .eql (.ar .sub .i64 (.ar .mul .i64 (.var 0) (.var 5)) (.ar .mul .i64 (.var 1) (.var 4))) (.lit 0))
      (.ite (.cmp .gtr (.ar .add .i64 (.ar .mul .i64 (.var 0) (.var 4)) (.ar .mul .i64 (.var 1) (.var 5))) (.lit 0))
        (.ret ((.v (.one (.z (.bool (.lit true))))), [], 11))
        (.ite (.cmp .eql (.ar .sub .i64 (.ar .mul .i64 (.var 2) (.var 5)) (.ar .mul .i64 (.var 3) (.var 4))) (.lit 0))
          (.ite (.cmp .gtr (.ar .add .i64 (.ar .mul .i64 (.var 2) (.var 4)) (.ar .mul .i64 (.var 3) (.var 5))) (.lit 0))
            (.ret ((.v (.one (.z (.bool (.lit false))))), [], 15))
            (.ite (.cmp .gtr (.ar .sub .i64 (.ar .mul .i64 (.var 0) (.var 5)) (.ar .mul .i64 (.var 1) (.var 4))) (.lit 0))
              (.ite (.cmp .gtr (.ar .sub .i64 (.ar .mul .i64 (.var 4) (.var 3)) (.ar .mul .i64 (.var 5) (.var 2))) (.lit 0))
                (.ret ((.v (.one (.z (.bool (.lit true))))), [], 19))
                (.ret ((.v (.one (.z (.bool (.cmp .leq (.ar .sub .i64 (.ar .mul .i64 (.var 0) (.var 3)) (.ar .mul .i64 (.var 1) (.var 2))) (.lit 0)))))), [], 21)))
              (.ite (.cmp .gtr (.ar .sub .i64 (.ar .mul .i64 (.var 4) (.var 3)) (.ar .mul .i64 (.var 5) (.var 2))) (.lit 0))
                (.ret ((.v (.one (.z (.bool (.cmp .lss (.ar .sub .i64 (.ar .mul .i64 (.var 0) (.var 3)) (.ar .mul .i64 (.var 1) (.var 2))) (.lit 0)))))), [], 21))
                (.ret ((.v (.one (.z (.bool (.lit false))))), [], 19)))))
          (.ite (.cmp .gtr (.ar .sub .i64 (.ar .mul .i64 (.var 0) (.var 5)) (.ar .mul .i64 (.var 1) (.var 4))) (.lit 0))
            (.ite (.cmp .gtr (.ar .sub .i64 (.ar .mul .i64 (.var 4) (.var 3)) (.ar .mul .i64 (.var 5) (.var 2))) (.lit 0))
              (.ret ((.v (.one (.z (.bool (.lit true))))), [], 19))
              (.ret ((.v (.one (.z (.bool (.cmp .leq (.ar .sub .i64 (.ar .mul .i64 (.var 0) (.var 3)) (.ar .mul .i64 (.var 1) (.var 2))) (.lit 0)))))), [], 21)))
            (.ite (.cmp .gtr (.ar .sub .i64 (.ar .mul .i64 (.var 4) (.var 3)) (.ar .mul .i64 (.var 5) (.var 2))) (.lit 0))
              (.ret ((.v (.one (.z (.bool (.cmp .lss (.ar .sub .i64 (.ar .mul .i64 (.var 0) (.var 3)) (.ar .mul .i64 (.var 1) (.var 2))) (.lit 0)))))), [], 21))
              (.ret ((.v (.one (.z (.bool (.lit false))))), [], 19))))))
      (.ite (.cmp .eql (.ar .sub .i64 (.ar .mul .i64 (.var 2) (.var 5)) (.ar .mul .i64 (.var 3) (.var 4))) (.lit 0))
        (.ite (.cmp .gtr (.ar .add .i64 (.ar .mul .i64 (.var 2) (.var 4)) (.ar .mul .i64 (.var 3) (.var 5))) (.lit 0))
          (.ret ((.v (.one (.z (.bool (.lit false))))), [], 15))
          (.ite (.cmp .gtr (.ar .sub .i64 (.ar .mul .i64 (.var 0) (.var 5)) (.ar .mul .i64 (.var 1) (.var 4))) (.lit 0))
            (.ite (.cmp .gtr (.ar .sub .i64 (.ar .mul .i64 (.var 4) (.var 3)) (.ar .mul .i64 (.var 5) (.var 2))) (.lit 0))
              (.ret ((.v (.one (.z (.bool (.lit true))))), [], 19))
              (.ret ((.v (.one (.z (.bool (.cmp .leq (.ar .sub .i64 (.ar .mul .i64 (.var 0) (.var 3)) (.ar .mul .i64 (.var 1) (.var 2))) (.lit 0)))))), [], 21)))
            (.ite (.cmp .gtr (.ar .sub .i64 (.ar .mul .i64 (.var 4) (.var 3)) (.ar .mul .i64 (.var 5) (.var 2))) (.lit 0))
              (.ret ((.v (.one (.z (.bool (.cmp .lss (.ar .sub .i64 (.ar .mul .i64 (.var 0) (.var 3)) (.ar .mul .i64 (.var 1) (.var 2))) (.lit 0)))))), [], 21))
              (.ret ((.v (.one (.z (.bool (.lit false))))), [], 19)))))
        (.ite (.cmp .gtr (.ar .sub .i64 (.ar .mul .i64 (.var 0) (.var 5)) (.ar .mul .i64 (.var 1) (.var 4))) (.lit 0))
          (.ite (.cmp .gtr (.ar .sub .i64 (.ar .mul .i64 (.var 4) (.var 3)) (.ar .mul .i64 (.var 5) (.var 2))) (.lit 0))
            (.ret ((.v (.one (.z (.bool (.lit true))))), [], 19))
            (.ret ((.v (.one (.z (.bool (.cmp .leq (.ar .sub .i64 (.ar .mul .i64 (.var 0) (.var 3)) (.ar .mul .i64 (.var 1) (.var 2))) (.lit 0)))))), [], 21)))
          (.ite (.cmp .gtr (.ar .sub .i64 (.ar .mul .i64 (.var 4) (.var 3)) (.ar .mul .i64 (.var 5) (.var 2))) (.lit 0))
            (.ret ((.v (.one (.z (.bool (.cmp .lss (.ar .sub .i64 (.ar .mul .i64 (.var 0) (.var 3)) (.ar .mul .i64 (.var 1) (.var 2))) (.lit 0)))))), [], 21))
            (.ret ((.v (.one (.z (.bool (.lit false))))), [], 19)))))))
  (.ite (.cmp .eql (.ar .sub .i64 (.ar .mul .i64 (.var 0) (.var 5)) (.ar .mul .i64 (.var 1) (.var 4))) (.lit 0))
    (.ite (.cmp .gtr (.ar .add .i64 (.ar .mul .i64 (.var 0) (.var 4)) (.ar .mul .i64 (.var 1) (.var 5))) (.lit 0))
      (.ret ((.v (.one (.z (.bool (.lit true))))), [], 11))
      (.ite (.cmp .eql (.ar .sub .i64 (.ar .mul .i64 (.var 2) (.var 5)) (.ar .mul .i64 (.var 3) (.var 4))) (.lit 0))
        (.ite (.cmp .gtr (.ar .add .i64 (.ar .mul .i64 (.var 2) (.var 4)) (.ar .mul .i64 (.var 3) (.var 5))) (.lit 0))
          (.ret ((.v (.one (.z (.bool (.lit false))))), [], 15))
          (.ite (.cmp .gtr (.ar .sub .i64 (.ar .mul .i64 (.var 0) (.var 5)) (.ar .mul .i64 (.var 1) (.var 4))) (.lit 0))
            (.ite (.cmp .gtr (.ar .sub .i64 (.ar .mul .i64 (.var 4) (.var 3)) (.ar .mul .i64 (.var 5) (.var 2))) (.lit 0))
              (.ret ((.v (.one (.z (.bool (.lit true))))), [], 19))
              (.ret ((.v (.one (.z (.bool (.cmp .leq (.ar .sub .i64 (.ar .mul .i64 (.var 0) (.var 3)) (.ar .mul .i64 (.var 1) (.var 2))) (.lit 0)))))), [], 21)))
            (.ite (.cmp .gtr (.ar .sub .i64 (.ar .mul .i64 (.var 4) (.var 3)) (.ar .mul .i64 (.var 5) (.var 2))) (.lit 0))
              (.ret ((.v (.one (.z (.bool (.cmp .lss (.ar .sub .i64 (.ar .mul .i64 (.var 0) (.var 3)) (.ar .mul .i64 (.var 1) (.var 2))) (.lit 0)))))), [], 21))
              (.ret ((.v (.one (.z (.bool (.lit false))))), [], 19)))))
        (.ite (.cmp .gtr (.ar .sub .i64 (.ar .mul .i64 (.var 0) (.var 5)) (.ar .mul .i64 (.var 1) (.var 4))) (.lit 0))
          (.ite (.cmp .gtr (.ar .sub .i64 (.ar .mul .i64 (.var 4) (.var 3)) (.ar .mul .i64 (.var 5) (.var 2))) (.lit 0))
            (.ret ((.v (.one (.z (.bool (.lit true))))), [], 19))
            (.ret ((.v (.one (.z (.bool (.cmp .leq (.ar .sub .i64 (.ar .mul .i64 (.var 0) (.var 3)) (.ar .mul .i64 (.var 1) (.var 2))) (.lit 0)))))), [], 21)))
          (.ite (.cmp .gtr (.ar .sub .i64 (.ar .mul .i64 (.var 4) (.var 3)) (.ar .mul .i64 (.var 5) (.var 2))) (.lit 0))
            (.ret ((.v (.one (.z (.bool (.cmp .lss (.ar .sub .i64 (.ar .mul .i64 (.var 0) (.var 3)) (.ar .mul .i64 (.var 1) (.var 2))) (.lit 0)))))), [], 21))
            (.ret ((.v (.one (.z (.bool (.lit false))))), [], 19))))))
    (.ite (.cmp .eql (.ar .sub .i64 (.ar .mul .i64 (.var 2) (.var 5)) (.ar .mul .i64 (.var 3) (.var 4))) (.lit 0))
      (.ite (.cmp .gtr (.ar .add .i64 (.ar .mul .i64 (.var 2) (.var 4)) (.ar .mul .i64 (.var 3) (.var 5))) (.lit 0))
        (.ret ((.v (.one (.z (.bool (.lit false))))), [], 15))
        (.ite (.cmp .gtr (.ar .sub .i64 (.ar .mul .i64 (.var 0) (.var 5)) (.ar .mul .i64 (.var 1) (.var 4))) (.lit 0))
          (.ite (.cmp .gtr (.ar .sub .i64 (.ar .mul .i64 (.var 4) (.var 3)) (.ar .mul .i64 (.var 5) (.var 2))) (.lit 0))
            (.ret ((.v (.one (.z (.bool (.lit true))))), [], 19))
            (.ret ((.v (.one (.z (.bool (.cmp .leq (.ar .sub .i64 (.ar .mul .i64 (.var 0) (.var 3)) (.ar .mul .i64 (.var 1) (.var 2))) (.lit 0)))))), [], 21)))
          (.ite (.cmp .gtr (.ar .sub .i64 (.ar .mul .i64 (.var 4) (.var 3)) (.ar .mul .i64 (.var 5) (.var 2))) (.lit 0))
            (.ret ((.v (.one (.z (.bool (.cmp .lss (.ar .sub .i64 (.ar .mul .i64 (.var 0) (.var 3)) (.ar .mul .i64 (.var 1) (.var 2))) (.lit 0)))))), [], 21))
            (.ret ((.v (.one (.z (.bool (.lit false))))), [], 19)))))
      (.ite (.cmp .gtr (.ar .sub .i64 (.ar .mul .i64 (.var 0) (.var 5)) (.ar .mul .i64 (.var 1) (.var 4))) (.lit 0))
        (.ite (.cmp .gtr (.ar .sub .i64 (.ar .mul .i64 (.var 4) (.var 3)) (.ar .mul .i64 (.var 5) (.var 2))) (.lit 0))
          (.ret ((.v (.one (.z (.bool (.lit true))))), [], 19))
          (.ret ((.v (.one (.z (.bool (.cmp .leq (.ar .sub .i64 (.ar .mul .i64 (.var 0) (.var 3)) (.ar .mul .i64 (.var 1) (.var 2))) (.lit 0)))))), [], 21)))
        (.ite (.cmp .gtr (.ar .sub .i64 (.ar .mul .i64 (.var 4) (.var 3)) (.ar .mul .i64 (.var 5) (.var 2))) (.lit 0))
          (.ret ((.v (.one (.z (.bool (.cmp .lss (.ar .sub .i64 (.ar .mul .i64 (.var 0) (.var 3)) (.ar .mul .i64 (.var 1) (.var 2))) (.lit 0)))))), [], 21))
          (.ret ((.v (.one (.z (.bool (.lit false))))), [], 19)))))))
-- end trR5H
set_option maxRecDepth 100000 in
theorem trR5H_is : T.norm 0 (call Tryz.prog ctR5 [] 100 106 (symArgs 0 [dir, dir, dir]) [] 0) TT.ret = trR5H := by kernel_rfl
theorem trR5H_low : trR5H.low 1000 = true := by kernel_rfl
-- term trR5V: call Tryz.prog ctR5 [] 100 105 (symArgs 0 [sec]) [] 0
def trR5V : TT OpR :=
(.ite (.fn 99 (.i (.var 0) (.i (.var 1) .nil)))
  (.ite (.fn 99 (.i (.var 2) (.i (.var 3) .nil)))
    (.ite (.cmp .geq (.var 4) (.lit 1))
      (.ite (.cmp .leq (.var 4) (.lit 3))
        (.ite (.cmp .geq (.var 5) (.lit 1))
          (.ret ((.v (.one (.z (.bool (.cmp .leq (.var 5) (.lit 3000000)))))), [], 1))
          (.ret ((.v (.one (.z (.bool (.lit false))))), [], 1)))
        (.ret ((.v (.one (.z (.bool (.lit false))))), [], 1)))
      (.ret ((.v (.one (.z (.bool (.lit false))))), [], 1)))
    (.ret ((.v (.one (.z (.bool (.lit false))))), [], 1)))
  (.ret ((.v (.one (.z (.bool (.lit false))))), [], 1)))
-- end trR5V
set_option maxRecDepth 100000 in
theorem trR5V_is : T.norm 0 (call Tryz.prog ctR5 [] 100 105 (symArgs 0 [sec]) [] 0) TT.ret = trR5V := by kernel_rfl
theorem trR5V_low : trR5V.low 1000 = true := by kernel_rfl
end Go.Proofs.YtinfmmofcadjgaaGreat
/- Chapter 38: the reference: layer 5's has, valid. -/
namespace Go.Proofs.YtinfmmofcadjgaaGreat
open Go.RowKit
theorem KWb99 (W : World) (ds l : List D) : (envOf KW W ds).fb 99 l = dirL l := by simp only [envOf, KW, KV, KU, KT, KR, KG, KF, KE, KD, KC, KB, KA, K9, K8, K7, K6, K5, K]
theorem dir_two (a b : Int) : dirL [.i a, .i b] = dirB a b := rfl
theorem gR5V : Gives Tryz.prog 105 [sec] (fun ds => .bool (secL ds)) := by
  refine GivesIf.all (fn_gives KW (by kernel_rfl) (fun ρ h => ctR5_ok (Sees.of h 101)) (by kernel_rfl) trR5V_is trR5V_low (by decide) (fun W vals ds hr _ => ?_))
  simp only [trR5V, TT.sat_ret, TT.sat_ite, TT.sat_ob, TT.sat_next, TT.sat_stuck, put_i, put_b, put_d, put_fi, put_fb, put_fd, Ob.ok, B.ev, E.ev, X.ev, AL.ev, cmp_t, cmp_f, arEv, V.plain, V2.plain, S.plain, S0.plain, V.val, V2.val, S.val, S0.val, bV, iV, List.all_cons, List.all_nil, Bool.and_true, Bool.and_self, envOf_i, envOf_b, envOf_d, List.map_cons, List.map_nil, true_and, Bool.not_eq_true', Bool.not_eq_false', Bool.not_not, Bool.and_eq_true, and_f, cell_lg, cell_lb, cell_lr, cmpP, val_i, val_b, val_d, aget, Nat.reduceBEq, beq_self_eq_true, Bool.false_eq_true, if_true, if_false, Nat.reduceLT, Nat.reduceSub, Nat.sub_self, Nat.lt_irrefl, KWb99, dir_two]
  simp only [secL, secB, dirB]
  (repeat' (first | (intro h; skip) | (refine And.intro ?_ ?_)))
  all_goals (congr 1; rw [Bool.eq_iff_iff]; try rw [cmp_t])
  all_goals (simp only [cmpP, decide_eq_true_eq, Bool.false_eq_true, false_iff, true_iff, decide_eq_false_iff_not] at *; omega)
theorem dotW_eq {a b c d : Int} (h1 : dirB a b = true) (h2 : dirB c d = true) : IntKind.i64.wrap (IntKind.i64.wrap (a * c) + IntKind.i64.wrap (b * d)) = a * c + b * d := by
  rw [dirB_iff] at h1 h2
  have m1 := mul_abs (a := a) (b := c) (A := 1000000) (B := 1000000) (by omega) (by omega) (by omega) (by omega)
  have m2 := mul_abs (a := b) (b := d) (A := 1000000) (B := 1000000) (by omega) (by omega) (by omega) (by omega)
  rw [wrap_in (a * c) (by omega) (by omega), wrap_in (b * d) (by omega) (by omega), wrap_in _ (by omega) (by omega)]
theorem crsW_eq' {a b c d : Int} (h1 : dirB a b = true) (h2 : dirB c d = true) : IntKind.i64.wrap (IntKind.i64.wrap (a * d) - IntKind.i64.wrap (b * c)) = crs a b c d := crsW_eq h1 h2
theorem gR5H : GivesIf Tryz.prog 106 [dir, dir, dir] (fun ds => (dirB (iAt ds 0) (iAt ds 1) && (dirB (iAt ds 2) (iAt ds 3) && dirB (iAt ds 4) (iAt ds 5))) = true) (fun ds => .bool (hasR6 ds)) := by
  refine fn_gives KW (by kernel_rfl) (fun ρ h => ctR5_ok (Sees.of h 101)) (by kernel_rfl) trR5H_is trR5H_low (by decide) (fun W vals ds hr hok => ?_)
  rw [Bool.and_eq_true, Bool.and_eq_true] at hok
  obtain ⟨h1, h2, h3⟩ := hok
  simp only [trR5H, TT.sat_ret, TT.sat_ite, TT.sat_ob, TT.sat_next, TT.sat_stuck, put_i, put_b, put_d, put_fi, put_fb, put_fd, Ob.ok, B.ev, E.ev, X.ev, AL.ev, cmp_t, cmp_f, arEv, V.plain, V2.plain, S.plain, S0.plain, V.val, V2.val, S.val, S0.val, bV, iV, List.all_cons, List.all_nil, Bool.and_true, Bool.and_self, envOf_i, envOf_b, envOf_d, List.map_cons, List.map_nil, true_and, Bool.not_eq_true', Bool.not_eq_false', Bool.not_not, Bool.and_eq_true, and_f, cell_lg, cell_lb, cell_lr, cmpP, val_i, val_b, val_d, aget, Nat.reduceBEq, beq_self_eq_true, Bool.false_eq_true, if_true, if_false, Nat.reduceLT, Nat.reduceSub, Nat.sub_self, Nat.lt_irrefl]
  simp only [crsW_eq' h1 h2, crsW_eq' h1 h3, crsW_eq' h2 h3, crsW_eq' h3 h2, dotW_eq h1 h2, dotW_eq h1 h3, dotW_eq h2 h3]
  rw [hasR6, has_eq h1 h2 h3]
  (repeat' (first | (intro h; skip) | (refine And.intro ?_ ?_)))
  all_goals (refine congrArg Value.bool ?_; rw [Bool.eq_iff_iff, decide_eq_true_eq]; unfold hasP alikeP; simp only [cmp_t, cmpP, Bool.false_eq_true, false_iff, true_iff])
  all_goals
    generalize crs (iAt ds 0) (iAt ds 1) (iAt ds 2) (iAt ds 3) = u at *
    generalize crs (iAt ds 0) (iAt ds 1) (iAt ds 4) (iAt ds 5) = v at *
    generalize crs (iAt ds 2) (iAt ds 3) (iAt ds 4) (iAt ds 5) = w at *
    generalize crs (iAt ds 4) (iAt ds 5) (iAt ds 2) (iAt ds 3) = z at *
    generalize iAt ds 0 * iAt ds 2 + iAt ds 1 * iAt ds 3 = x1 at *
    generalize iAt ds 0 * iAt ds 4 + iAt ds 1 * iAt ds 5 = x2 at *
    generalize iAt ds 2 * iAt ds 4 + iAt ds 3 * iAt ds 5 = x3 at *
    clear h1 h2 h3 hr
    (repeat' split) <;> omega
end Go.Proofs.YtinfmmofcadjgaaGreat
/- Chapter 38: the reference: contracts of layer 5's has, valid. -/
namespace Go.Proofs.YtinfmmofcadjgaaGreat
open Go.RowKit
def cR5V := ctD [sec] fun al => .ret (bV (bF 73 secL al))
theorem cR5V_ok {ρ : Env} (h : Sees ρ KG 80) : CtOne Tryz.prog ρ 105 cR5V :=
  ctD_ok gR5V (fun _ => rfl) (fun al => by simp only [iV, bV, V.s0, V.val, V2.val, S.val, S0.val, bF_ev (s := 73) (f := secL) (fun l => by rw [(h 73 l (by decide)).2]; simp only [KG, KF, KE, KD, KC, KB, KA, K9, K8, K7, K6, K5, K])]; try rfl)
def oHasR (al : AL) : T V := match al with
  | .i a (.i b (.i c (.i d (.i x (.i y .nil))))) => T.obs [.tru (.fn 99 (.i a (.i b .nil))), .tru (.fn 99 (.i c (.i d .nil))), .tru (.fn 99 (.i x (.i y .nil)))] (.ret (bV (bF 100 hasR6 al)))
  | _ => .stuck "has"
def cHasR := ctD [dir, dir, dir] oHasR
theorem cHasR_ok {ρ : Env} (h : Sees ρ KW 101) : CtOne Tryz.prog ρ 106 cHasR := by
  refine ctD_if gR5H (fun al v hv => ?_)
  have h99 : ∀ l, ρ.fb 99 l = dirL l := fun l => by rw [(h 99 l (by decide)).2]; simp only [KW]
  unfold oHasR at hv
  split at hv
  · rename_i a b c d x y
    obtain ⟨ho, hv⟩ := T.res_obs hv
    obtain rfl := res_ret hv
    have o1 := ho _ (List.mem_cons_self ..)
    have o2 := ho _ (List.mem_cons_of_mem _ (List.mem_cons_self ..))
    have o3 := ho _ (List.mem_cons_of_mem _ (List.mem_cons_of_mem _ (List.mem_cons_self ..)))
    simp only [Ob.ok, B.ev, AL.ev, h99] at o1 o2 o3
    refine ⟨rfl, ?_, ?_⟩
    · show (dirB (a.ev ρ) (b.ev ρ) && (dirB (c.ev ρ) (d.ev ρ) && dirB (x.ev ρ) (y.ev ρ))) = true
      rw [Bool.and_eq_true, Bool.and_eq_true]
      exact ⟨o1, o2, o3⟩
    · simp only [bV, V.s0, V.val, V2.val, S.val, S0.val, bF_ev (s := 100) (f := hasR6) (fun l => by rw [(h 100 l (by decide)).2]; simp only [KW])]
      try rfl
  · exact hv.elim
def ctR6 : Ct := (105, cR5V) :: (106, cHasR) :: ctR5
theorem ctR6_ok {ρ : Env} (h : Sees ρ KW 101) : CtOk Tryz.prog ρ ctR6 := .cons (cR5V_ok (KW_KG h)) <| .cons (cHasR_ok h) (ctR5_ok h)
end Go.Proofs.YtinfmmofcadjgaaGreat
/- Chapter 38: tree of the reference's list of sectors. -/
namespace Go.Proofs.YtinfmmofcadjgaaGreat
open Go.RowKit
-- term trR5L: call Tryz.prog ctR6 [] 100 67 (symArgs 0 [secs]) [] 0
def trR5L : TT OpR :=
(.ite (.cmp .gtr (.len (.var 0)) (.lit 12))
  (.ret ((.v (.one (.z (.bool (.lit false))))), [], 0))
  (.loop 0 1000 ⟨[(0, (.lit 0))], [], []⟩
    (.ite (.cmp .lss (.var 1000) (.len (.var 0)))
      (.ob (.tru (.cmp .leq (.lit 0) (.var 1000)))
      (.ob (.tru (.cmp .lss (.var 1000) (.len (.var 0))))
      (.ite (.not (.fn 73 (.i (.rd (.var 0) (.var 1000) 0) (.i (.rd (.var 0) (.var 1000) 1) (.i (.rd (.var 0) (.var 1000) 2) (.i (.rd (.var 0) (.var 1000) 3) (.i (.rd (.var 0) (.var 1000) 4) (.i (.rd (.var 0) (.var 1000) 5) .nil))))))))
        (.ret ((.v (.one (.z (.bool (.lit false))))), [], 2))
        (.loop 1 2000 ⟨[(0, (.lit 0))], [], []⟩
          (.ite (.cmp .lss (.var 2000) (.var 1000))
            (.ob (.tru (.cmp .leq (.lit 0) (.var 1000)))
            (.ob (.tru (.cmp .lss (.var 1000) (.len (.var 0))))
            (.ob (.tru (.cmp .leq (.lit 0) (.var 1000)))
            (.ob (.tru (.cmp .lss (.var 1000) (.len (.var 0))))
            (.ob (.tru (.cmp .leq (.lit 0) (.var 2000)))
            (.ob (.tru (.cmp .lss (.var 2000) (.len (.var 0))))
            (.ob (.tru (.fn 99 (.i (.rd (.var 0) (.var 1000) 0) (.i (.rd (.var 0) (.var 1000) 1) .nil))))
            (.ob (.tru (.fn 99 (.i (.rd (.var 0) (.var 1000) 2) (.i (.rd (.var 0) (.var 1000) 3) .nil))))
            (.ob (.tru (.fn 99 (.i (.rd (.var 0) (.var 2000) 0) (.i (.rd (.var 0) (.var 2000) 1) .nil))))
            (.ite (.fn 100 (.i (.rd (.var 0) (.var 1000) 0) (.i (.rd (.var 0) (.var 1000) 1) (.i (.rd (.var 0) (.var 1000) 2) (.i (.rd (.var 0) (.var 1000) 3) (.i (.rd (.var 0) (.var 2000) 0) (.i (.rd (.var 0) (.var 2000) 1) .nil)))))))
              (.ret ((.v (.one (.z (.bool (.lit false))))), [], 2))
              (.ob (.tru (.cmp .leq (.lit 0) (.var 2000)))
              (.ob (.tru (.cmp .lss (.var 2000) (.len (.var 0))))
              (.ob (.tru (.cmp .leq (.lit 0) (.var 2000)))
              (.ob (.tru (.cmp .lss (.var 2000) (.len (.var 0))))
              (.ob (.tru (.cmp .leq (.lit 0) (.var 1000)))
              (.ob (.tru (.cmp .lss (.var 1000) (.len (.var 0))))
              (.ob (.tru (.fn 99 (.i (.rd (.var 0) (.var 2000) 0) (.i (.rd (.var 0) (.var 2000) 1) .nil))))
              (.ob (.tru (.fn 99 (.i (.rd (.var 0) (.var 2000) 2) (.i (.rd (.var 0) (.var 2000) 3) .nil))))
              (.ob (.tru (.fn 99 (.i (.rd (.var 0) (.var 1000) 0) (.i (.rd (.var 0) (.var 1000) 1) .nil))))
              (.ite (.fn 100 (.i (.rd (.var 0) (.var 2000) 0) (.i (.rd (.var 0) (.var 2000) 1) (.i (.rd (.var 0) (.var 2000) 2) (.i (.rd (.var 0) (.var 2000) 3) (.i (.rd (.var 0) (.var 1000) 0) (.i (.rd (.var 0) (.var 1000) 1) .nil)))))))
                (.ret ((.v (.one (.z (.bool (.lit false))))), [], 2))
                (.next 1 ⟨[(0, (.ar .add .i64 (.var 2000) (.lit 1)))], [], []⟩)))))))))))))))))))))
            (.next 0 ⟨[(0, (.ar .add .i64 (.var 1000) (.lit 1)))], [], []⟩))))))
      (.ret ((.v (.one (.z (.bool (.lit true))))), [], 2)))))
-- end trR5L
set_option maxRecDepth 100000 in
theorem trR5L_is : T.norm 0 (call Tryz.prog ctR6 [] 100 67 (symArgs 0 [secs]) [] 0) TT.ret = trR5L := by kernel_rfl
theorem trR5L_low : trR5L.low 1000 = true := by kernel_rfl
end Go.Proofs.YtinfmmofcadjgaaGreat
/- Chapter 38: the reference's list of sectors. -/
namespace Go.Proofs.YtinfmmofcadjgaaGreat
open Go.RowKit
theorem KWb73 (W : World) (ds l : List D) : (envOf KW W ds).fb 73 l = secL l := by simp only [envOf, KW, KV, KU, KT, KR, KG, KF, KE, KD, KC, KB, KA, K9, K8, K7, K6, K5, K]
theorem KWb100 (W : World) (ds l : List D) : (envOf KW W ds).fb 100 l = hasR6 l := by simp only [envOf, KW, KV, KU, KT, KR, KG, KF, KE, KD, KC, KB, KA, K9, K8, K7, K6, K5, K]
theorem hasR_six (a b c d x y : Int) : hasR6 [.i a, .i b, .i c, .i d, .i x, .i y] = hasB a b c d x y := rfl
theorem sec_dir {a b c d e f : Int} (h : secB a b c d e f = true) : dirB a b = true ∧ dirB c d = true := by
  unfold secB at h
  rw [decide_eq_true_eq] at h
  rw [dirB_iff, dirB_iff]
  omega
theorem gR5L : Gives Tryz.prog 67 [secs] (fun ds => .bool (secsL ds)) := by
  refine GivesIf.all (fn_gives KW (by kernel_rfl) (fun ρ h => ctR6_ok (Sees.of h 101)) (by kernel_rfl) trR5L_is trR5L_low (by decide) (fun W vals ds hr _ => ?_))
  have hlen := secs_len hr
  simp only [trR5L, TT.sat_ret, TT.sat_ite, TT.sat_ob, TT.sat_next, TT.sat_stuck, put_i, put_b, put_d, put_fi, put_fb, put_fd, Ob.ok, B.ev, E.ev, X.ev, AL.ev, cmp_t, cmp_f, arEv, V.plain, V2.plain, S.plain, S0.plain, V.val, V2.val, S.val, S0.val, bV, iV, List.all_cons, List.all_nil, Bool.and_true, Bool.and_self, envOf_i, envOf_b, envOf_d, List.map_cons, List.map_nil, true_and, Bool.not_eq_true', Bool.not_eq_false', Bool.not_not, Bool.and_eq_true, and_f, cell_lg, cell_lb, cell_lr, cmpP, val_i, val_b, val_d, aget, Nat.reduceBEq, beq_self_eq_true, Bool.false_eq_true, if_true, if_false, Nat.reduceLT, Nat.reduceSub, Nat.sub_self, Nat.lt_irrefl]
  generalize hr0 : rAt ds 0 = r at hlen ⊢
  have hP : secsL ds = secsB r := by rw [secsL, hr0]
  rw [hP]
  refine ⟨fun h => ?_, fun h => ?_⟩
  · rw [secsB, decide_eq_false (by omega), Bool.and_false]
  have h12 : decide (r.length ≤ 12) = true := decide_eq_true (by omega)
  have hS : secsB r = secN r r.length 0 := by rw [secsB, h12, Bool.and_true]
  rw [hS]
  refine TT.sat_loop (fun v => ∃ i : Nat, v.i 0 = i ∧ i ≤ r.length ∧ secN r (r.length - i) i = secN r r.length 0 ∧ ∀ k : Nat, k < i → secRow r k = true) (fun v => r.length - (v.i 0).toNat)
    ⟨0, by simp [val_i, aget, E.ev], by omega, rfl, fun k hk => by omega⟩ (fun v hv => ?_)
  obtain ⟨i, i0, i1, i2, i3⟩ := hv
  simp only [TT.sat_ret, TT.sat_ite, TT.sat_ob, TT.sat_next, TT.sat_stuck, put_i, put_b, put_d, put_fi, put_fb, put_fd, Ob.ok, B.ev, E.ev, X.ev, AL.ev, cmp_t, cmp_f, arEv, V.plain, V2.plain, S.plain, S0.plain, V.val, V2.val, S.val, S0.val, bV, iV, List.all_cons, List.all_nil, Bool.and_true, Bool.and_self, envOf_i, envOf_b, envOf_d, List.map_cons, List.map_nil, true_and, Bool.not_eq_true', Bool.not_eq_false', Bool.not_not, Bool.and_eq_true, and_f, cell_lg, cell_lb, cell_lr, cmpP, val_i, val_b, val_d, aget, Nat.reduceBEq, beq_self_eq_true, Bool.false_eq_true, if_true, if_false, Nat.reduceLT, Nat.reduceSub, Nat.sub_self, Nat.lt_irrefl, i0, hr0, KWb73, KWb99, KWb100, sec_six]
  refine ⟨fun hc => ?_, fun hc => ?_⟩
  · have hi : i < r.length := by omega
    obtain ⟨f, hf⟩ : ∃ f, r.length - i = f + 1 := ⟨r.length - i - 1, by omega⟩
    rw [hf, secN] at i2
    refine ⟨by omega, by omega, fun p => ?_, fun p => ?_⟩
    · rw [← i2, secRow, p]; rfl
    have hd := sec_dir p
    refine TT.sat_loop (fun v => ∃ k : Nat, v.i 0 = k ∧ k ≤ i ∧ (innN r i (i - k) k && secN r f (i + 1)) = secN r r.length 0) (fun v => i - (v.i 0).toNat)
      ⟨0, by simp [val_i, aget, E.ev], by omega, by rw [← i2, secRow, p]; rfl⟩ (fun u hu => ?_)
    obtain ⟨k, k0, k1, k2⟩ := hu
    simp only [TT.sat_ret, TT.sat_ite, TT.sat_ob, TT.sat_next, TT.sat_stuck, put_i, put_b, put_d, put_fi, put_fb, put_fd, Ob.ok, B.ev, E.ev, X.ev, AL.ev, cmp_t, cmp_f, arEv, V.plain, V2.plain, S.plain, S0.plain, V.val, V2.val, S.val, S0.val, bV, iV, List.all_cons, List.all_nil, Bool.and_true, Bool.and_self, envOf_i, envOf_b, envOf_d, List.map_cons, List.map_nil, true_and, Bool.not_eq_true', Bool.not_eq_false', Bool.not_not, Bool.and_eq_true, and_f, cell_lg, cell_lb, cell_lr, cmpP, val_i, val_b, val_d, aget, Nat.reduceBEq, beq_self_eq_true, Bool.false_eq_true, if_true, if_false, Nat.reduceLT, Nat.reduceSub, Nat.sub_self, Nat.lt_irrefl, i0, k0, hr0, KWb73, KWb99, KWb100, sec_six, hasR_six, dir_two]
    refine ⟨fun hk => ?_, fun hk => ?_⟩
    · have hki : k < i := by omega
      have hdk := sec_dir (i3 k hki)
      obtain ⟨g, hg⟩ : ∃ g, i - k = g + 1 := ⟨i - k - 1, by omega⟩
      rw [hg, innN, hasRow] at k2
      refine ⟨by omega, by omega, by omega, by omega, by omega, by omega, hd.1, hd.2, hdk.1, fun q => ?_, fun q => ⟨by omega, by omega, by omega, by omega, by omega, by omega, hdk.1, hdk.2, hd.1, fun q' => ?_, fun q' => ⟨⟨k + 1, ?_, by omega, ?_⟩, ?_⟩⟩⟩
      · rw [← k2, q]; rfl
      · rw [← k2, q, q']; rfl
      · rw [wrap_in _ (by omega) (by omega)]; rfl
      · rw [show i - (k + 1) = g by omega, ← k2, q, q']; rfl
      · rw [wrap_in _ (by omega) (by omega)]; omega
    · have : i - k = 0 := by omega
      rw [this, innN, Bool.true_and] at k2
      refine ⟨⟨i + 1, ?_, by omega, ?_, fun j hj => ?_⟩, ?_⟩
      · rw [wrap_in _ (by omega) (by omega)]; rfl
      · rw [show r.length - (i + 1) = f by omega]; exact k2
      · by_cases e : j = i
        · subst e; exact p
        · exact i3 j (by omega)
      · rw [wrap_in _ (by omega) (by omega)]; omega
  · have : r.length - i = 0 := by omega
    rw [this, secN] at i2
    rw [← i2]
def cR5L := ctD [secs] fun al => .ret (bV (bF 75 secsL al))
theorem cR5L_ok {ρ : Env} (h : Sees ρ KG 80) : CtOne Tryz.prog ρ 67 cR5L :=
  ctD_ok gR5L (fun _ => rfl) (fun al => by simp only [iV, bV, V.s0, V.val, V2.val, S.val, S0.val, bF_ev (s := 75) (f := secsL) (fun l => by rw [(h 75 l (by decide)).2]; simp only [KG, KF, KE, KD, KC, KB, KA, K9, K8, K7, K6, K5, K])]; try rfl)
def ctR7 : Ct := (67, cR5L) :: ctR6
theorem ctR7_ok {ρ : Env} (h : Sees ρ KW 101) : CtOk Tryz.prog ρ ctR7 := .cons (cR5L_ok (KW_KG h)) (ctR6_ok h)
end Go.Proofs.YtinfmmofcadjgaaGreat
/- Chapter 38: tree of the reference's valid features. -/
namespace Go.Proofs.YtinfmmofcadjgaaGreat
open Go.RowKit
-- term trR7D: call Tryz.prog ctR7 [] 100 63 (symArgs 0 [it]) [] 0
def trR7D : TT OpR :=
(.ite (.cmp .eql (.var 0) (.lit 1))
  (.ret ((.v (.one (.z (.bool (.lit true))))), [], 0))
  (.ite (.cmp .eql (.var 0) (.lit 2))
    (.ret ((.v (.one (.z (.bool (.lit true))))), [], 0))
    (.ret ((.v (.one (.z (.bool (.cmp .eql (.var 0) (.lit 5)))))), [], 0))))
-- end trR7D
set_option maxRecDepth 100000 in
theorem trR7D_is : T.norm 0 (call Tryz.prog ctR7 [] 100 63 (symArgs 0 [it]) [] 0) TT.ret = trR7D := by kernel_rfl
theorem trR7D_low : trR7D.low 1000 = true := by kernel_rfl
-- term trR7V: call Tryz.prog ctR7 [] 100 38 (symArgs 0 [feat]) [] 0
def trR7V : TT OpR :=
(.ite (.cmp .lss (.var 0) (.lit 1))
  (.ret ((.v (.one (.z (.bool (.lit false))))), [], 1))
  (.ite (.cmp .gtr (.var 0) (.lit 100000))
    (.ret ((.v (.one (.z (.bool (.lit false))))), [], 1))
    (.ite (.cmp .lss (.var 7) (.lit 0))
      (.ret ((.v (.one (.z (.bool (.lit false))))), [], 1))
      (.ite (.cmp .gtr (.var 7) (.lit 999))
        (.ret ((.v (.one (.z (.bool (.lit false))))), [], 1))
        (.ite (.cmp .lss (.var 6) (.lit 0))
          (.ret ((.v (.one (.z (.bool (.lit false))))), [], 1))
          (.ite (.cmp .gtr (.var 6) (.lit 100000))
            (.ret ((.v (.one (.z (.bool (.lit false))))), [], 1))
            (.ite (.cmp .lss (.var 4) (.lit 0))
              (.ret ((.v (.one (.z (.bool (.lit false))))), [], 1))
              (.ite (.cmp .gtr (.var 4) (.lit 100000))
                (.ret ((.v (.one (.z (.bool (.lit false))))), [], 1))
                (.ite (.cmp .eql (.var 1) (.lit 1))
                  (.ite (.fn 3 (.i (.var 2) (.i (.var 3) .nil)))
                    (.ite (.cmp .geq (.ar .sub .i64 (.var 2) (.var 4)) (.lit (-1000000)))
                      (.ite (.cmp .leq (.ar .add .i64 (.var 2) (.var 4)) (.lit 1000000))
                        (.ite (.cmp .geq (.ar .sub .i64 (.var 3) (.var 4)) (.lit (-1000000)))
                          (.ite (.cmp .leq (.ar .add .i64 (.var 3) (.var 4)) (.lit 1000000))
                            (.ite (.cmp .eql (.len (.var 5)) (.lit 0))
                              (.ret ((.v (.one (.z (.bool (.cmp .eql (.len (.var 8)) (.lit 0)))))), [], 1))
                              (.ret ((.v (.one (.z (.bool (.lit false))))), [], 1)))
                            (.ret ((.v (.one (.z (.bool (.lit false))))), [], 1)))
                          (.ret ((.v (.one (.z (.bool (.lit false))))), [], 1)))
                        (.ret ((.v (.one (.z (.bool (.lit false))))), [], 1)))
                      (.ret ((.v (.one (.z (.bool (.lit false))))), [], 1)))
                    (.ret ((.v (.one (.z (.bool (.lit false))))), [], 1)))
                  (.ite (.cmp .eql (.var 1) (.lit 2))
                    (.ite (.fn 3 (.i (.var 2) (.i (.var 3) .nil)))
                      (.ite (.cmp .geq (.ar .sub .i64 (.var 2) (.var 4)) (.lit (-1000000)))
                        (.ite (.cmp .leq (.ar .add .i64 (.var 2) (.var 4)) (.lit 1000000))
                          (.ite (.cmp .geq (.ar .sub .i64 (.var 3) (.var 4)) (.lit (-1000000)))
                            (.ite (.cmp .leq (.ar .add .i64 (.var 3) (.var 4)) (.lit 1000000))
                              (.ite (.cmp .eql (.len (.var 5)) (.lit 0))
                                (.ret ((.v (.one (.z (.bool (.cmp .eql (.len (.var 8)) (.lit 0)))))), [], 1))
                                (.ret ((.v (.one (.z (.bool (.lit false))))), [], 1)))
                              (.ret ((.v (.one (.z (.bool (.lit false))))), [], 1)))
                            (.ret ((.v (.one (.z (.bool (.lit false))))), [], 1)))
                          (.ret ((.v (.one (.z (.bool (.lit false))))), [], 1)))
                        (.ret ((.v (.one (.z (.bool (.lit false))))), [], 1)))
                      (.ret ((.v (.one (.z (.bool (.lit false))))), [], 1)))
                    (.ite (.cmp .eql (.var 1) (.lit 5))
                      (.ite (.fn 3 (.i (.var 2) (.i (.var 3) .nil)))
                        (.ite (.cmp .geq (.ar .sub .i64 (.var 2) (.var 4)) (.lit (-1000000)))
                          (.ite (.cmp .leq (.ar .add .i64 (.var 2) (.var 4)) (.lit 1000000))
                            (.ite (.cmp .geq (.ar .sub .i64 (.var 3) (.var 4)) (.lit (-1000000)))
                              (.ite (.cmp .leq (.ar .add .i64 (.var 3) (.var 4)) (.lit 1000000))
                                (.ite (.cmp .eql (.len (.var 5)) (.lit 0))
                                  (.ret ((.v (.one (.z (.bool (.cmp .eql (.len (.var 8)) (.lit 0)))))), [], 1))
                                  (.ret ((.v (.one (.z (.bool (.lit false))))), [], 1)))
                                (.ret ((.v (.one (.z (.bool (.lit false))))), [], 1)))
                              (.ret ((.v (.one (.z (.bool (.lit false))))), [], 1)))
                            (.ret ((.v (.one (.z (.bool (.lit false))))), [], 1)))
                          (.ret ((.v (.one (.z (.bool (.lit false))))), [], 1)))
                        (.ret ((.v (.one (.z (.bool (.lit false))))), [], 1)))
                      (.ite (.cmp .eql (.var 1) (.lit 3))
                        (.ite (.fn 69 (.x (.var 5) .nil))
                          (.ite (.and (.cmp .eql (.var 2) (.lit 0)) (.cmp .eql (.var 3) (.lit 0)))
                            (.ite (.cmp .eql (.var 4) (.lit 0))
                              (.ite (.cmp .eql (.len (.var 8)) (.lit 0))
                                (.ite (.cmp .eql (.var 1) (.lit 3))
                                  (.ret ((.v (.one (.z (.bool (.lit true))))), [], 1))
                                  (.ret ((.v (.one (.z (.bool (.cmp .eql (.var 6) (.lit 0)))))), [], 1)))
                                (.ret ((.v (.one (.z (.bool (.lit false))))), [], 1)))
                              (.ret ((.v (.one (.z (.bool (.lit false))))), [], 1)))
                            (.ret ((.v (.one (.z (.bool (.lit false))))), [], 1)))
                          (.ret ((.v (.one (.z (.bool (.lit false))))), [], 1)))
                        (.ite (.cmp .eql (.var 1) (.lit 6))
                          (.ite (.fn 69 (.x (.var 5) .nil))
                            (.ite (.and (.cmp .eql (.var 2) (.lit 0)) (.cmp .eql (.var 3) (.lit 0)))
                              (.ite (.cmp .eql (.var 4) (.lit 0))
                                (.ite (.cmp .eql (.len (.var 8)) (.lit 0))
                                  (.ite (.cmp .eql (.var 1) (.lit 3))
                                    (.ret ((.v (.one (.z (.bool (.lit true))))), [], 1))
                                    (.ret ((.v (.one (.z (.bool (.cmp .eql (.var 6) (.lit 0)))))), [], 1)))
                                  (.ret ((.v (.one (.z (.bool (.lit false))))), [], 1)))
                                (.ret ((.v (.one (.z (.bool (.lit false))))), [], 1)))
                              (.ret ((.v (.one (.z (.bool (.lit false))))), [], 1)))
                            (.ret ((.v (.one (.z (.bool (.lit false))))), [], 1)))
                          (.ite (.cmp .eql (.var 1) (.lit 4))
                            (.ite (.fn 3 (.i (.var 2) (.i (.var 3) .nil)))
                              (.ite (.fn 75 (.x (.var 8) .nil))
                                (.ite (.cmp .eql (.var 4) (.lit 0))
                                  (.ite (.cmp .eql (.var 6) (.lit 0))
                                    (.ret ((.v (.one (.z (.bool (.cmp .eql (.len (.var 5)) (.lit 0)))))), [], 1))
                                    (.ret ((.v (.one (.z (.bool (.lit false))))), [], 1)))
                                  (.ret ((.v (.one (.z (.bool (.lit false))))), [], 1)))
                                (.ret ((.v (.one (.z (.bool (.lit false))))), [], 1)))
                              (.ret ((.v (.one (.z (.bool (.lit false))))), [], 1)))
                            (.ret ((.v (.one (.z (.bool (.lit false))))), [], 1))))))))))))))))
-- end trR7V
set_option maxRecDepth 100000 in
theorem trR7V_is : T.norm 0 (call Tryz.prog ctR7 [] 100 38 (symArgs 0 [feat]) [] 0) TT.ret = trR7V := by kernel_rfl
theorem trR7V_low : trR7V.low 1000 = true := by kernel_rfl
end Go.Proofs.YtinfmmofcadjgaaGreat
/- Chapter 38: the reference's valid features. -/
namespace Go.Proofs.YtinfmmofcadjgaaGreat
open Go.RowKit
theorem KWb3 (W : World) (ds l : List D) : (envOf KW W ds).fb 3 l = placeL l := by simp only [envOf, KW, KV, KU, KT, KR, KG, KF, KE, KD, KC, KB, KA, K9, K8, K7, K6, K5, K]
theorem KWb69 (W : World) (ds l : List D) : (envOf KW W ds).fb 69 l = polyL l := by simp only [envOf, KW, KV, KU, KT, KR, KG, KF, KE, KD, KC, KB, KA, K9, K8, K7, K6, K5, K]
theorem KWb75 (W : World) (ds l : List D) : (envOf KW W ds).fb 75 l = secsL l := by simp only [envOf, KW, KV, KU, KT, KR, KG, KF, KE, KD, KC, KB, KA, K9, K8, K7, K6, K5, K]
def discL (ds : List D) : Bool := decide (iAt ds 0 = 1 ∨ iAt ds 0 = 2 ∨ iAt ds 0 = 5)
theorem gR7D : Gives Tryz.prog 63 [it] (fun ds => .bool (discL ds)) := by
  refine GivesIf.all (fn_gives KW (by kernel_rfl) (fun ρ h => ctR7_ok (Sees.of h 101)) (by kernel_rfl) trR7D_is trR7D_low (by decide) (fun W vals ds hr _ => ?_))
  simp only [trR7D, TT.sat_ret, TT.sat_ite, TT.sat_ob, TT.sat_next, TT.sat_stuck, put_i, put_b, put_d, put_fi, put_fb, put_fd, Ob.ok, B.ev, E.ev, X.ev, AL.ev, cmp_t, cmp_f, arEv, V.plain, V2.plain, S.plain, S0.plain, V.val, V2.val, S.val, S0.val, bV, iV, List.all_cons, List.all_nil, Bool.and_true, Bool.and_self, envOf_i, envOf_b, envOf_d, List.map_cons, List.map_nil, true_and, Bool.not_eq_true', Bool.not_eq_false', Bool.not_not, Bool.and_eq_true, and_f, cell_lg, cell_lb, cell_lr, cmpP, val_i, val_b, val_d, aget, Nat.reduceBEq, beq_self_eq_true, Bool.false_eq_true, if_true, if_false, Nat.reduceLT, Nat.reduceSub, Nat.sub_self, Nat.lt_irrefl]
  simp only [discL]
  (repeat' (first | (intro h; skip) | (refine And.intro ?_ ?_)))
  all_goals (congr 1; rw [Bool.eq_iff_iff]; try rw [cmp_t])
  all_goals (simp only [cmpP, decide_eq_true_eq, Bool.false_eq_true, false_iff, true_iff]; omega)
set_option maxHeartbeats 4000000 in
theorem gR7V : Gives Tryz.prog 38 [feat] (fun ds => .bool (featL ds)) := by
  refine GivesIf.all (fn_gives KW (by kernel_rfl) (fun ρ h => ctR7_ok (Sees.of h 101)) (by kernel_rfl) trR7V_is trR7V_low (by decide) (fun W vals ds hr _ => ?_))
  simp only [trR7V, TT.sat_ret, TT.sat_ite, TT.sat_ob, TT.sat_next, TT.sat_stuck, put_i, put_b, put_d, put_fi, put_fb, put_fd, Ob.ok, B.ev, E.ev, X.ev, AL.ev, cmp_t, cmp_f, arEv, V.plain, V2.plain, S.plain, S0.plain, V.val, V2.val, S.val, S0.val, bV, iV, List.all_cons, List.all_nil, Bool.and_true, Bool.and_self, envOf_i, envOf_b, envOf_d, List.map_cons, List.map_nil, true_and, Bool.not_eq_true', Bool.not_eq_false', Bool.not_not, Bool.and_eq_true, and_f, cell_lg, cell_lb, cell_lr, cmpP, val_i, val_b, val_d, aget, Nat.reduceBEq, beq_self_eq_true, Bool.false_eq_true, if_true, if_false, Nat.reduceLT, Nat.reduceSub, Nat.sub_self, Nat.lt_irrefl, KWb3, KWb69, KWb75, place_two, poly_one, secs_one]
  simp only [featL, featB]
  generalize iAt ds 0 = id
  generalize iAt ds 1 = kind
  generalize iAt ds 2 = x
  generalize iAt ds 3 = y
  generalize iAt ds 4 = rad
  generalize rAt ds 5 = area
  generalize iAt ds 6 = depth
  generalize iAt ds 7 = sym
  generalize rAt ds 8 = sc
  have E0 := @placeB_iff x y
  have E1 := @placeB_iff (x - rad) (y - rad)
  have E2 := @placeB_iff (x + rad) (y + rad)
  have W1 : placeB x y = true → 0 ≤ rad → rad ≤ 100000 → IntKind.i64.wrap (x - rad) = x - rad ∧ IntKind.i64.wrap (y - rad) = y - rad ∧ IntKind.i64.wrap (x + rad) = x + rad ∧ IntKind.i64.wrap (y + rad) = y + rad := fun h _ _ => by
    rw [placeB_iff] at h
    exact ⟨wrap_in _ (by omega) (by omega), wrap_in _ (by omega) (by omega), wrap_in _ (by omega) (by omega), wrap_in _ (by omega) (by omega)⟩
  (repeat' (first | (intro h; skip) | (refine And.intro ?_ ?_)))
  all_goals (refine congrArg Value.bool ?_; rw [Bool.eq_iff_iff]; simp only [cmp_t, cmpP, decide_eq_true_eq, Bool.false_eq_true, false_iff, featP])
  all_goals clear hr
  all_goals grind
/-- All symbols so far. -/
def KX : Interp where
  fi n l := KW.fi n l
  fb n l := match n with | 101 => discL l | n => KW.fb n l
  fd _ _ := []
theorem KX_KW {ρ : Env} (h : Sees ρ KX 102) : Sees ρ KW 101 := h.trans (by decide) fun n l hn => by
  refine ⟨?_, ?_⟩
  ·
    rfl
  ·
    simp only [KX]
    split <;> first | omega | rfl
def cR7V := ctD [feat] fun al => .ret (bV (bF 76 featL al))
theorem cR7V_ok {ρ : Env} (h : Sees ρ KG 80) : CtOne Tryz.prog ρ 38 cR7V :=
  ctD_ok gR7V (fun _ => rfl) (fun al => by simp only [iV, bV, V.s0, V.val, V2.val, S.val, S0.val, bF_ev (s := 76) (f := featL) (fun l => by rw [(h 76 l (by decide)).2]; simp only [KG, KF, KE, KD, KC, KB, KA, K9, K8, K7, K6, K5, K])]; try rfl)
def cR7D := ctD [it] fun al => .ret (bV (bF 101 discL al))
theorem cR7D_ok {ρ : Env} (h : Sees ρ KX 102) : CtOne Tryz.prog ρ 63 cR7D :=
  ctD_ok gR7D (fun _ => rfl) (fun al => by simp only [iV, bV, V.s0, V.val, V2.val, S.val, S0.val, bF_ev (s := 101) (f := discL) (fun l => by rw [(h 101 l (by decide)).2]; simp only [KX, KW, KV, KU, KT, KR, KG, KF, KE, KD, KC, KB, KA, K9, K8, K7, K6, K5, K])]; try rfl)
theorem KX_KG {ρ : Env} (h : Sees ρ KX 102) : Sees ρ KG 80 := KW_KG (KX_KW h)
def ctR8 : Ct := (38, cR7V) :: (63, cR7D) :: ctR7
theorem ctR8_ok {ρ : Env} (h : Sees ρ KX 102) : CtOk Tryz.prog ρ ctR8 := .cons (cR7V_ok (KX_KG h)) <| .cons (cR7D_ok h) (ctR7_ok (KX_KW h))
end Go.Proofs.YtinfmmofcadjgaaGreat
/- Chapter 38: trees of the reference of layer 38. -/
namespace Go.Proofs.YtinfmmofcadjgaaGreat
open Go.RowKit
-- term trR38V: call Tryz.prog ctR8 [] 100 7 (symArgs 0 [psg]) [] 0
def trR38V : TT OpR :=
(.ite (.cmp .geq (.var 0) (.lit 0))
  (.ite (.cmp .geq (.var 1) (.lit 0))
    (.ite (.not (.cmp .leq (.var 0) (.lit 10000000)))
      (.ret ((.v (.one (.z (.bool (.lit false))))), [], 1))
      (.ite (.not (.cmp .leq (.var 1) (.lit 10000000)))
        (.ret ((.v (.one (.z (.bool (.lit false))))), [], 1))
        (.ite (.cmp .gtr (.var 0) (.var 1))
          (.ret ((.v (.one (.z (.bool (.lit false))))), [], 1))
          (.ite (.cmp .lss (.var 2) (.lit 0))
            (.ret ((.v (.one (.z (.bool (.lit false))))), [], 1))
            (.ite (.cmp .gtr (.var 2) (.lit 100000))
              (.ret ((.v (.one (.z (.bool (.lit false))))), [], 1))
              (.ite (.cmp .lss (.len (.var 3)) (.lit 1))
                (.ret ((.v (.one (.z (.bool (.lit false))))), [], 1))
                (.ite (.cmp .gtr (.len (.var 3)) (.lit 40))
                  (.ret ((.v (.one (.z (.bool (.lit false))))), [], 1))
                  (.loop 0 2000 ⟨[(0, (.lit 0))], [], []⟩
                    (.ite (.cmp .lss (.var 2000) (.len (.var 3)))
                      (.ob (.tru (.cmp .leq (.lit 0) (.var 2000)))
                      (.ob (.tru (.cmp .lss (.var 2000) (.len (.var 3))))
                      (.ite (.not (.fn 3 (.i (.rd (.var 3) (.var 2000) 0) (.i (.rd (.var 3) (.var 2000) 1) .nil))))
                        (.ret ((.v (.one (.z (.bool (.lit false))))), [], 3))
                        (.ite (.not (.fn 3 (.i (.rd (.var 3) (.var 2000) 2) (.i (.rd (.var 3) (.var 2000) 3) .nil))))
                          (.ret ((.v (.one (.z (.bool (.lit false))))), [], 3))
                          (.ite (.and (.cmp .eql (.rd (.var 3) (.var 2000) 0) (.rd (.var 3) (.var 2000) 2)) (.cmp .eql (.rd (.var 3) (.var 2000) 1) (.rd (.var 3) (.var 2000) 3)))
                            (.ret ((.v (.one (.z (.bool (.lit false))))), [], 3))
                            (.ite (.cmp .lss (.rd (.var 3) (.var 2000) 4) (.lit 1))
                              (.ret ((.v (.one (.z (.bool (.lit false))))), [], 3))
                              (.ite (.cmp .gtr (.rd (.var 3) (.var 2000) 4) (.rd (.var 3) (.var 2000) 5))
                                (.ret ((.v (.one (.z (.bool (.lit false))))), [], 3))
                                (.ite (.cmp .gtr (.rd (.var 3) (.var 2000) 5) (.lit 2000))
                                  (.ret ((.v (.one (.z (.bool (.lit false))))), [], 3))
                                  (.ite (.cmp .gtr (.var 2000) (.lit 0))
                                    (.ob (.tru (.cmp .leq (.lit 0) (.ar .sub .i64 (.var 2000) (.lit 1))))
                                    (.ob (.tru (.cmp .lss (.ar .sub .i64 (.var 2000) (.lit 1)) (.len (.var 3))))
                                    (.ite (.not (.and (.cmp .eql (.rd (.var 3) (.var 2000) 0) (.rd (.var 3) (.ar .sub .i64 (.var 2000) (.lit 1)) 2)) (.cmp .eql (.rd (.var 3) (.var 2000) 1) (.rd (.var 3) (.ar .sub .i64 (.var 2000) (.lit 1)) 3))))
                                      (.ret ((.v (.one (.z (.bool (.lit false))))), [], 3))
                                      (.next 0 ⟨[(0, (.ar .add .i64 (.var 2000) (.lit 1)))], [], []⟩))))
                                    (.next 0 ⟨[(0, (.ar .add .i64 (.var 2000) (.lit 1)))], [], []⟩))))))))))
                      (.ret ((.v (.one (.z (.bool (.lit true))))), [], 3)))))))))))
    (.ite (.not (.cmp .leq (.var 0) (.lit 10000000)))
      (.ret ((.v (.one (.z (.bool (.lit false))))), [], 1))
      (.ret ((.v (.one (.z (.bool (.lit false))))), [], 1))))
  (.ite (.cmp .geq (.var 1) (.lit 0))
    (.ret ((.v (.one (.z (.bool (.lit false))))), [], 1))
    (.ret ((.v (.one (.z (.bool (.lit false))))), [], 1))))
-- end trR38V
set_option maxRecDepth 100000 in
theorem trR38V_is : T.norm 0 (call Tryz.prog ctR8 [] 100 7 (symArgs 0 [psg]) [] 0) TT.ret = trR38V := by kernel_rfl
theorem trR38V_low : trR38V.low 1000 = true := by kernel_rfl
end Go.Proofs.YtinfmmofcadjgaaGreat
/- Chapter 38: the reference's valid passages. -/
namespace Go.Proofs.YtinfmmofcadjgaaGreat
open Go.RowKit
theorem KXb3 (W : World) (ds l : List D) : (envOf KX W ds).fb 3 l = placeL l := by simp only [envOf, KX, KW, KV, KU, KT, KR, KG, KF, KE, KD, KC, KB, KA, K9, K8, K7, K6, K5, K]
def pvX (r : Rows) (i : Nat) : Int := if i = 0 then lg r 0 0 else lg r ((i - 1 : Nat) : Int) 2
def pvY (r : Rows) (i : Nat) : Int := if i = 0 then lg r 0 1 else lg r ((i - 1 : Nat) : Int) 3
theorem gR38V : Gives Tryz.prog 7 [psg] (fun ds => .bool (psgL ds)) := by
  refine GivesIf.all (fn_gives KX (by kernel_rfl) (fun ρ h => ctR8_ok (Sees.of h 102)) (by kernel_rfl) trR38V_is trR38V_low (by decide) (fun W vals ds hr _ => ?_))
  have hlen := psg_len hr
  simp only [trR38V, TT.sat_ret, TT.sat_ite, TT.sat_ob, TT.sat_next, TT.sat_stuck, put_i, put_b, put_d, put_fi, put_fb, put_fd, Ob.ok, B.ev, E.ev, X.ev, AL.ev, cmp_t, cmp_f, arEv, V.plain, V2.plain, S.plain, S0.plain, V.val, V2.val, S.val, S0.val, bV, iV, List.all_cons, List.all_nil, Bool.and_true, Bool.and_self, envOf_i, envOf_b, envOf_d, List.map_cons, List.map_nil, true_and, Bool.not_eq_true', Bool.not_eq_false', Bool.not_not, Bool.and_eq_true, and_f, cell_lg, cell_lb, cell_lr, cmpP, val_i, val_b, val_d, aget, Nat.reduceBEq, beq_self_eq_true, Bool.false_eq_true, if_true, if_false, Nat.reduceLT, Nat.reduceSub, Nat.sub_self, Nat.lt_irrefl]
  have hP : psgL ds = (timeB (iAt ds 0) && timeB (iAt ds 1) && decide (iAt ds 0 ≤ iAt ds 1 ∧ 0 ≤ iAt ds 2 ∧ iAt ds 2 ≤ 100000 ∧ 1 ≤ (rAt ds 3).length ∧ (rAt ds 3).length ≤ 40) && legsFrom (rAt ds 3) (rAt ds 3).length 0 (lg (rAt ds 3) 0 0) (lg (rAt ds 3) 0 1)) := rfl
  have F : ¬ ((0 ≤ iAt ds 0 ∧ iAt ds 0 ≤ 10000000) ∧ (0 ≤ iAt ds 1 ∧ iAt ds 1 ≤ 10000000) ∧ iAt ds 0 ≤ iAt ds 1 ∧ 0 ≤ iAt ds 2 ∧ iAt ds 2 ≤ 100000 ∧ 1 ≤ (rAt ds 3).length ∧ (rAt ds 3).length ≤ 40) → Value.bool false = Value.bool (psgL ds) := by
    intro h
    have : (timeB (iAt ds 0) && timeB (iAt ds 1) && decide (iAt ds 0 ≤ iAt ds 1 ∧ 0 ≤ iAt ds 2 ∧ iAt ds 2 ≤ 100000 ∧ 1 ≤ (rAt ds 3).length ∧ (rAt ds 3).length ≤ 40)) = false := by
      rw [Bool.eq_false_iff]
      intro q
      simp only [timeB, Bool.and_eq_true, decide_eq_true_eq] at q
      exact h ⟨q.1.1, q.1.2, q.2.1, q.2.2.1, q.2.2.2.1, q.2.2.2.2.1, q.2.2.2.2.2⟩
    rw [hP, this]; rfl
  refine ⟨fun a1 => ⟨fun a2 => ⟨fun a3 => F (by omega), fun a3 => ⟨fun a4 => F (by omega), fun a4 => ⟨fun a5 => F (by omega), fun a5 => ⟨fun a6 => F (by omega), fun a6 => ⟨fun a7 => F (by omega), fun a7 => ⟨fun a8 => F (by omega), fun a8 => ⟨fun a9 => F (by omega), fun a9 => ?_⟩⟩⟩⟩⟩⟩⟩, fun a2 => ⟨fun _ => F (by omega), fun _ => F (by omega)⟩⟩, fun a1 => ⟨fun _ => F (by omega), fun _ => F (by omega)⟩⟩
  have hT : (timeB (iAt ds 0) && timeB (iAt ds 1) && decide (iAt ds 0 ≤ iAt ds 1 ∧ 0 ≤ iAt ds 2 ∧ iAt ds 2 ≤ 100000 ∧ 1 ≤ (rAt ds 3).length ∧ (rAt ds 3).length ≤ 40)) = true := by
    simp only [timeB, Bool.and_eq_true, decide_eq_true_eq]; omega
  rw [hT, Bool.true_and] at hP
  clear F
  refine TT.sat_loop (fun v => ∃ i : Nat, v.i 0 = i ∧ i ≤ (rAt ds 3).length ∧ legsFrom (rAt ds 3) ((rAt ds 3).length - i) i (pvX (rAt ds 3) i) (pvY (rAt ds 3) i) = psgL ds) (fun v => (rAt ds 3).length - (v.i 0).toNat)
    ⟨0, by simp [val_i, aget, E.ev], by omega, hP.symm⟩ (fun v hv => ?_)
  obtain ⟨i, i0, i1, i2⟩ := hv
  simp only [TT.sat_ret, TT.sat_ite, TT.sat_ob, TT.sat_next, TT.sat_stuck, put_i, put_b, put_d, put_fi, put_fb, put_fd, Ob.ok, B.ev, E.ev, X.ev, AL.ev, cmp_t, cmp_f, arEv, V.plain, V2.plain, S.plain, S0.plain, V.val, V2.val, S.val, S0.val, bV, iV, List.all_cons, List.all_nil, Bool.and_true, Bool.and_self, envOf_i, envOf_b, envOf_d, List.map_cons, List.map_nil, true_and, Bool.not_eq_true', Bool.not_eq_false', Bool.not_not, Bool.and_eq_true, and_f, cell_lg, cell_lb, cell_lr, cmpP, val_i, val_b, val_d, aget, Nat.reduceBEq, beq_self_eq_true, Bool.false_eq_true, if_true, if_false, Nat.reduceLT, Nat.reduceSub, Nat.sub_self, Nat.lt_irrefl, i0, KXb3, place_two]
  refine ⟨fun hc => ?_, fun hc => ?_⟩
  · have hi : i < (rAt ds 3).length := by omega
    obtain ⟨f, hf⟩ : ∃ f, (rAt ds 3).length - i = f + 1 := ⟨(rAt ds 3).length - i - 1, by omega⟩
    rw [hf, legsFrom] at i2
    have G : legB (rAt ds 3) i = false ∨ ¬ (lg (rAt ds 3) i 0 = pvX (rAt ds 3) i ∧ lg (rAt ds 3) i 1 = pvY (rAt ds 3) i) → Value.bool false = Value.bool (psgL ds) := by
      intro h
      rw [← i2]
      rcases h with h | h
      · rw [h]; rfl
      · rw [decide_eq_false h]; simp
    have N : legB (rAt ds 3) i = true → (lg (rAt ds 3) i 0 = pvX (rAt ds 3) i ∧ lg (rAt ds 3) i 1 = pvY (rAt ds 3) i) → (∃ j : Nat, IntKind.i64.wrap ((i : Int) + 1) = j ∧ j ≤ (rAt ds 3).length ∧ legsFrom (rAt ds 3) ((rAt ds 3).length - j) j (pvX (rAt ds 3) j) (pvY (rAt ds 3) j) = psgL ds) ∧ (rAt ds 3).length - (IntKind.i64.wrap ((i : Int) + 1)).toNat < (rAt ds 3).length - (i : Int).toNat := by
      intro h h'
      rw [wrap_in _ (by omega) (by omega)]
      refine ⟨⟨i + 1, rfl, by omega, ?_⟩, by omega⟩
      rw [show (rAt ds 3).length - (i + 1) = f by omega, ← i2, h, decide_eq_true h']
      unfold pvX pvY
      rw [if_neg (by omega), if_neg (by omega)]
      rfl
    have hB : legB (rAt ds 3) i = true ↔ _ := legB_iff
    have hw : 0 < i → IntKind.i64.wrap ((i : Int) - 1) = ((i - 1 : Nat) : Int) := fun h => by rw [wrap_in _ (by omega) (by omega)]; omega
    have hX : 0 < i → pvX (rAt ds 3) i = lg (rAt ds 3) ((i - 1 : Nat) : Int) 2 ∧ pvY (rAt ds 3) i = lg (rAt ds 3) ((i - 1 : Nat) : Int) 3 := fun h => by unfold pvX pvY; rw [if_neg (by omega), if_neg (by omega)]; exact ⟨rfl, rfl⟩
    have hX0 : ¬ 0 < i → lg (rAt ds 3) (i : Int) 0 = pvX (rAt ds 3) i ∧ lg (rAt ds 3) (i : Int) 1 = pvY (rAt ds 3) i := fun h => by
      have : i = 0 := by omega
      subst this; exact ⟨rfl, rfl⟩
    have nB : ∀ {P : Prop}, (legB (rAt ds 3) i = true → P) → ¬ P → legB (rAt ds 3) i = false := fun h n => by rw [Bool.eq_false_iff]; exact fun q => n (h q)
    refine ⟨by omega, by omega, fun b1 => G (.inl (nB (fun q => (hB.mp q).1.1) (by rw [b1]; decide))), fun b1 => ⟨fun b2 => G (.inl (nB (fun q => (hB.mp q).1.2) (by rw [b2]; decide))), fun b2 => ⟨fun b3 => G (.inl (nB (fun q => (hB.mp q).2.1) (fun n => n (by simpa using b3)))), fun b3 => ⟨fun b4 => G (.inl (nB (fun q => (hB.mp q).2.2.1) (by omega))), fun b4 => ⟨fun b5 => G (.inl (nB (fun q => (hB.mp q).2.2.2.1) (by omega))), fun b5 => ⟨fun b6 => G (.inl (nB (fun q => (hB.mp q).2.2.2.2) (by omega))), fun b6 => ?_⟩⟩⟩⟩⟩⟩
    have hL : legB (rAt ds 3) i = true := hB.mpr ⟨⟨b1, b2⟩, fun q => by simp [q.1, q.2] at b3, by omega, by omega, by omega⟩
    refine ⟨fun b7 => ?_, fun b7 => N hL (hX0 (by omega))⟩
    rw [hw (by omega)]
    obtain ⟨x1, x2⟩ := hX (by omega)
    refine ⟨by omega, by omega, fun q => G (.inr ?_), fun q => N hL ?_⟩
    · rw [x1, x2]; simpa using q
    · rw [x1, x2]; simpa using q
  · have : (rAt ds 3).length - i = 0 := by omega
    rw [this, legsFrom] at i2
    rw [← i2]
def cR38V := ctD [psg] fun al => .ret (bV (bF 20 psgL al))
theorem cR38V_ok {ρ : Env} (h : Sees ρ KG 80) : CtOne Tryz.prog ρ 7 cR38V :=
  ctD_ok gR38V (fun _ => rfl) (fun al => by simp only [iV, bV, V.s0, V.val, V2.val, S.val, S0.val, bF_ev (s := 20) (f := psgL) (fun l => by rw [(h 20 l (by decide)).2]; simp only [KG, KF, KE, KD, KC, KB, KA, K9, K8, K7, K6, K5, K])]; try rfl)
def ctR9 : Ct := (7, cR38V) :: ctR8
theorem ctR9_ok {ρ : Env} (h : Sees ρ KX 102) : CtOk Tryz.prog ρ ctR9 := .cons (cR38V_ok (KX_KG h)) (ctR8_ok h)
end Go.Proofs.YtinfmmofcadjgaaGreat
