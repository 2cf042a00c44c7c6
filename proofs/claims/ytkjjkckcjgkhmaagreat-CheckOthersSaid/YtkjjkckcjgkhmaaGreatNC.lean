/- NC, merged: TNe, Ne, Yd, TNf, Nf. -/
import Derived.Test.YtkjjkckcjgkhmaaGreatNB
import Derived.Test.YtkjjkckcjgkhmaaGreatMY
import Derived.Test.YtkjjkckcjgkhmaaGreatMG
import Derived.Test.YtkjjkckcjgkhmaaGreatMP
set_option linter.unusedSimpArgs false
set_option linter.unusedVariables false
/- Chapter 40: trees of Source, and the law of it. -/
namespace Go.Proofs.YtkjjkckcjgkhmaaGreat
open Go.RowKit
-- term trSource: call Tryz.prog ctN4 (Lt.of []) 100 32 (symArgs 0 [nots, it, it]) [] 0
def trSource : TT OpR :=
(.ite (.cmp .gtr (.len (.var 0)) (.lit 200))
 (.ret ((.tup [(.one (.z (.int .i64 (.lit 0)))), (.one (.z (.int .i64 (.lit 1))))]), [], 1))
 (.ite (.cmp .lss (.var 1) (.lit 1))
 (.ret ((.tup [(.one (.z (.int .i64 (.lit 0)))), (.one (.z (.int .i64 (.lit 1))))]), [], 1))
 (.ite (.cmp .gtr (.var 1) (.lit 1000))
 (.ret ((.tup [(.one (.z (.int .i64 (.lit 0)))), (.one (.z (.int .i64 (.lit 1))))]), [], 1))
 (.ite (.cmp .lss (.var 2) (.lit 1))
 (.ret ((.tup [(.one (.z (.int .i64 (.lit 0)))), (.one (.z (.int .i64 (.lit 1))))]), [], 1))
 (.ite (.cmp .gtr (.var 2) (.lit 100000))
 (.ret ((.tup [(.one (.z (.int .i64 (.lit 0)))), (.one (.z (.int .i64 (.lit 1))))]), [], 1))
 (.loop 0 2000 ⟨[(0, (.lit 0))], [], []⟩
 (.ite (.cmp .lss (.var 2000) (.len (.var 0)))
 (.ob (.tru (.cmp .leq (.lit 0) (.var 2000)))
 (.ob (.tru (.cmp .lss (.var 2000) (.len (.var 0))))
 (.ite (.not (.fn 170 (.i (.rd (.var 0) (.var 2000) 0) (.i (.rd (.var 0) (.var 2000) 1) (.i (.rd (.var 0) (.var 2000) 2) (.i (.rd (.var 0) (.var 2000) 3) (.i (.rd (.var 0) (.var 2000) 4) (.i (.rd (.var 0) (.var 2000) 5) (.x (.rd (.var 0) (.var 2000) 6) .nil)))))))))
 (.ite (.cmp .geq (.var 2000) (.lit 0))
 (.ret ((.tup [(.one (.z (.int .i64 (.lit 0)))), (.one (.z (.int .i64 (.lit 1))))]), [], 3))
 (.loop 1 4000 ⟨[(1, (.lit 0)), (0, (.lit 0))], [], []⟩
 (.ite (.cmp .lss (.var 4000) (.len (.var 0)))
 (.ob (.tru (.cmp .leq (.lit 0) (.var 4000)))
 (.ob (.tru (.cmp .lss (.var 4000) (.len (.var 0))))
 (.ite (.cmp .neq (.rd (.var 0) (.var 4000) 2) (.lit 1))
 (.next 1 ⟨[(1, (.var 4001)), (0, (.ar .add .i64 (.var 4000) (.lit 1)))], [], []⟩)
 (.loop 2 6000 ⟨[(0, (.var 4001)), (1, (.lit 0))], [], []⟩
 (.ite (.cmp .lss (.var 6001) (.len (.rd (.var 0) (.var 4000) 6)))
 (.ob (.tru (.cmp .leq (.lit 0) (.var 6001)))
 (.ob (.tru (.cmp .lss (.var 6001) (.len (.rd (.var 0) (.var 4000) 6))))
 (.ite (.cmp .eql (.rd (.rd (.var 0) (.var 4000) 6) (.var 6001) 0) (.var 1))
 (.loop 3 8000 ⟨[(0, (.lit 0))], [], []⟩
 (.ite (.cmp .lss (.var 8000) (.len (.rd (.rd (.var 0) (.var 4000) 6) (.var 6001) 2)))
 (.ob (.tru (.cmp .leq (.lit 0) (.var 8000)))
 (.ob (.tru (.cmp .lss (.var 8000) (.len (.rd (.rd (.var 0) (.var 4000) 6) (.var 6001) 2))))
 (.ite (.cmp .eql (.rd (.rd (.rd (.var 0) (.var 4000) 6) (.var 6001) 2) (.var 8000) 1) (.var 2))
 (.ite (.cmp .geq (.var 8000) (.lit 0))
 (.next 2 ⟨[(0, (.mx (.var 6000) (.rd (.var 0) (.var 4000) 1))), (1, (.ar .add .i64 (.var 6001) (.lit 1)))], [], []⟩)
 (.next 2 ⟨[(0, (.var 6000)), (1, (.ar .add .i64 (.var 6001) (.lit 1)))], [], []⟩))
 (.next 3 ⟨[(0, (.ar .add .i64 (.var 8000) (.lit 1)))], [], []⟩))))
 (.next 2 ⟨[(0, (.var 6000)), (1, (.ar .add .i64 (.var 6001) (.lit 1)))], [], []⟩)))
 (.next 2 ⟨[(0, (.var 6000)), (1, (.ar .add .i64 (.var 6001) (.lit 1)))], [], []⟩))))
 (.next 1 ⟨[(1, (.var 6000)), (0, (.ar .add .i64 (.var 4000) (.lit 1)))], [], []⟩))))))
 (.ite (.cmp .eql (.var 4001) (.lit 0))
 (.ret ((.tup [(.one (.z (.int .i64 (.lit 0)))), (.one (.z (.int .i64 (.lit 4))))]), [], 9))
 (.ret ((.tup [(.one (.z (.int .i64 (.var 4001)))), (.one (.z (.int .i64 (.lit 0))))]), [], 9))))))
 (.next 0 ⟨[(0, (.ar .add .i64 (.var 2000) (.lit 1)))], [], []⟩))))
 (.loop 1 4000 ⟨[(1, (.lit 0)), (0, (.lit 0))], [], []⟩
 (.ite (.cmp .lss (.var 4000) (.len (.var 0)))
 (.ob (.tru (.cmp .leq (.lit 0) (.var 4000)))
 (.ob (.tru (.cmp .lss (.var 4000) (.len (.var 0))))
 (.ite (.cmp .neq (.rd (.var 0) (.var 4000) 2) (.lit 1))
 (.next 1 ⟨[(1, (.var 4001)), (0, (.ar .add .i64 (.var 4000) (.lit 1)))], [], []⟩)
 (.loop 2 6000 ⟨[(0, (.var 4001)), (1, (.lit 0))], [], []⟩
 (.ite (.cmp .lss (.var 6001) (.len (.rd (.var 0) (.var 4000) 6)))
 (.ob (.tru (.cmp .leq (.lit 0) (.var 6001)))
 (.ob (.tru (.cmp .lss (.var 6001) (.len (.rd (.var 0) (.var 4000) 6))))
 (.ite (.cmp .eql (.rd (.rd (.var 0) (.var 4000) 6) (.var 6001) 0) (.var 1))
 (.loop 3 8000 ⟨[(0, (.lit 0))], [], []⟩
 (.ite (.cmp .lss (.var 8000) (.len (.rd (.rd (.var 0) (.var 4000) 6) (.var 6001) 2)))
 (.ob (.tru (.cmp .leq (.lit 0) (.var 8000)))
 (.ob (.tru (.cmp .lss (.var 8000) (.len (.rd (.rd (.var 0) (.var 4000) 6) (.var 6001) 2))))
 (.ite (.cmp .eql (.rd (.rd (.rd (.var 0) (.var 4000) 6) (.var 6001) 2) (.var 8000) 1) (.var 2))
 (.ite (.cmp .geq (.var 8000) (.lit 0))
 (.next 2 ⟨[(0, (.mx (.var 6000) (.rd (.var 0) (.var 4000) 1))), (1, (.ar .add .i64 (.var 6001) (.lit 1)))], [], []⟩)
 (.next 2 ⟨[(0, (.var 6000)), (1, (.ar .add .i64 (.var 6001) (.lit 1)))], [], []⟩))
 (.next 3 ⟨[(0, (.ar .add .i64 (.var 8000) (.lit 1)))], [], []⟩))))
 (.next 2 ⟨[(0, (.var 6000)), (1, (.ar .add .i64 (.var 6001) (.lit 1)))], [], []⟩)))
 (.next 2 ⟨[(0, (.var 6000)), (1, (.ar .add .i64 (.var 6001) (.lit 1)))], [], []⟩))))
 (.next 1 ⟨[(1, (.var 6000)), (0, (.ar .add .i64 (.var 4000) (.lit 1)))], [], []⟩))))))
 (.ite (.cmp .eql (.var 4001) (.lit 0))
 (.ret ((.tup [(.one (.z (.int .i64 (.lit 0)))), (.one (.z (.int .i64 (.lit 4))))]), [], 9))
 (.ret ((.tup [(.one (.z (.int .i64 (.var 4001)))), (.one (.z (.int .i64 (.lit 0))))]), [], 9))))))))))))
-- end trSource
set_option maxRecDepth 100000 in
theorem trSource_is : T.norm 0 (call Tryz.prog ctN4 (Lt.of []) 100 32 (symArgs 0 [nots, it, it]) [] 0) TT.ret = trSource := by kernel_rfl
theorem trSource_low : trSource.low 1000 = true := by kernel_rfl
end Go.Proofs.YtkjjkckcjgkhmaaGreat
/- Chapter 40: check.Source. -/
namespace Go.Proofs.YtkjjkckcjgkhmaaGreat
open Go.RowKit
def noticeRow (r : Rows) (i : Nat) : Bool := noticeL [.i (lg r i 0), .i (lg r i 1), .i (lg r i 2), .i (lg r i 3), .i (lg r i 4), .i (lg r i 5), .l (lr r i 6)]
def nvN (r : Rows) : Nat → Nat → Bool
  | 0, _ => true
  | f + 1, i => noticeRow r i && nvN r f (i + 1)
theorem nvN_iff {r : Rows} : ∀ f i, nvN r f i = true ↔ ∀ k, i ≤ k → k < i + f → noticeRow r k = true
  | 0, i => ⟨fun _ k h1 h2 => by omega, fun _ => rfl⟩
  | f + 1, i => by
    rw [nvN, Bool.and_eq_true, nvN_iff f (i + 1)]
    constructor
    · rintro ⟨h1, h2⟩ k h3 h4
      by_cases e : k = i
      · subst e; exact h1
      · exact h2 k (by omega) (by omega)
    · exact fun h => ⟨h i (by omega) (by omega), fun k h1 h2 => h k (by omega) (by omega)⟩
theorem parB_len {c : Int} {a o : Rows} {n : Int} (h : parB c a o n = true) : o.length ≤ 100 := by
  unfold parB at h
  simp only [Bool.and_eq_true, decide_eq_true_eq] at h
  omega
theorem ptsN_par {r : Rows} {n : Int} : ∀ f i last, ptsN r n f i last = true → ∀ k, i ≤ k → k < i + f → parB (lg r k 0) (lr r k 1) (lr r k 2) n = true
  | 0, _, _, _, k, h1, h2 => by omega
  | f + 1, i, last, h, k, h1, h2 => by
    rw [ptsN, Bool.and_eq_true, Bool.and_eq_true] at h
    by_cases e : k = i
    · subst e; exact h.1.2
    · exact ptsN_par f (i + 1) _ h.2 k (by omega) (by omega)
theorem notice_is {r : Rows} {i : Nat} (h : noticeRow r i = true) : 1 ≤ lg r i 1 ∧ (lr r i 6).length ≤ 20 ∧ ∀ k, k < (lr r i 6).length → (lr (lr r i 6) k 2).length ≤ 100 := by
  unfold noticeRow noticeL at h
  simp only [Bool.and_eq_true, decide_eq_true_eq] at h
  obtain ⟨h1, _, h2, h3⟩ := h
  exact ⟨h1.2.1.1, h2, fun k hk => parB_len (ptsN_par _ _ _ h3 k (Nat.zero_le _) (by show k < 0 + (lr r i 6).length; omega))⟩
def opHas (o : Rows) (id : Int) : Nat → Nat → Bool
  | 0, _ => false
  | f + 1, i => decide (lg o i 1 = id) || opHas o id f (i + 1)
def partHas (p : Rows) (c id : Int) (i : Nat) : Bool := decide (lg p i 0 = c) && opHas (lr p i 2) id (lr p i 2).length 0
def lpN (p : Rows) (c id num : Int) : Nat → Nat → Int → Int
  | 0, _, m => m
  | f + 1, i, m => lpN p c id num f (i + 1) (if partHas p c id i then max m num else m)
def lsN (r : Rows) (c id : Int) : Nat → Nat → Int → Int
  | 0, _, m => m
  | f + 1, i, m => lsN r c id f (i + 1) (if lg r i 2 = 1 then lpN (lr r i 6) c id (lg r i 1) (lr r i 6).length 0 m else m)
def srcO (ds : List D) : Bool := decide ((rAt ds 0).length ≤ 200 ∧ (1 ≤ iAt ds 1 ∧ iAt ds 1 ≤ 1000) ∧ 1 ≤ iAt ds 2 ∧ iAt ds 2 ≤ 100000) && nvN (rAt ds 0) (rAt ds 0).length 0
def srcN (ds : List D) : Int := lsN (rAt ds 0) (iAt ds 1) (iAt ds 2) (rAt ds 0).length 0 0
def srcR (ds : List D) : Int := if srcO ds then srcN ds else 0
def srcE (ds : List D) : Int := if srcO ds then (if srcN ds = 0 then 4 else 0) else 1
theorem N4b170 (W : World) (ds l : List D) : (envOf N4 W ds).fb 170 l = noticeL l := by simp only [envOf, N4, N3, N2, N1, KG, KF, KE, KD, KC, KB, KA, K9, K8, K7, K6, K5, K]
theorem N4b171 (W : World) (ds l : List D) : (envOf N4 W ds).fb 171 l = deR l := by simp only [envOf, N4, N3, N2, N1, KG, KF, KE, KD, KC, KB, KA, K9, K8, K7, K6, K5, K]
theorem N4i171 (W : World) (ds l : List D) : (envOf N4 W ds).fi 171 l = deE l := by simp only [envOf, N4, N3, N2, N1, KG, KF, KE, KD, KC, KB, KA, K9, K8, K7, K6, K5, K]
theorem noticeRow_eq (r : Rows) (i : Nat) : noticeL [.i (lg r i 0), .i (lg r i 1), .i (lg r i 2), .i (lg r i 3), .i (lg r i 4), .i (lg r i 5), .l (lr r i 6)] = noticeRow r i := rfl
set_option maxHeartbeats 1000000 in
theorem gSource : Gives Tryz.prog 32 [nots, it, it] (fun ds => .tuple #[.int .i64 (srcR ds), .int .i64 (srcE ds)]) := by
  refine GivesIf.all (fn_gives N4 (by kernel_rfl) (fun ρ h => ctN4_ok (Sees.of h 180)) (by kernel_rfl) trSource_is trSource_low (by decide) (fun W vals ds hr _ => ?_))
  simp only [trSource, TT.sat_ret, TT.sat_ite, B.ev, E.ev, X.ev, cmp_t, cmp_f, V.plain, V2.plain, S.plain, S0.plain, V.val, V2.val, S.val, S0.val, List.all_cons, List.all_nil, Bool.and_self, envOf_i, envOf_d, List.map_cons, List.map_nil, true_and, cmpP]
  clear hr
  have F : srcO ds = false → Value.tuple #[.int .i64 0, .int .i64 1] = Value.tuple #[.int .i64 (srcR ds), .int .i64 (srcE ds)] := fun h => by simp [srcR, srcE, h]
  have G : ¬ ((rAt ds 0).length ≤ 200 ∧ (1 ≤ iAt ds 1 ∧ iAt ds 1 ≤ 1000) ∧ 1 ≤ iAt ds 2 ∧ iAt ds 2 ≤ 100000) → Value.tuple #[.int .i64 0, .int .i64 1] = Value.tuple #[.int .i64 (srcR ds), .int .i64 (srcE ds)] := fun h => F (by unfold srcO; rw [decide_eq_false h]; rfl)
  refine ⟨fun _ => G (by omega), fun _ => ⟨fun _ => G (by omega), fun _ => ⟨fun _ => G (by omega), fun _ => ⟨fun _ => G (by omega), fun _ => ⟨fun _ => G (by omega), fun _ => ?_⟩⟩⟩⟩⟩
  have eO : srcO ds = nvN (rAt ds 0) (rAt ds 0).length 0 := by unfold srcO; rw [decide_eq_true (by omega), Bool.true_and]
  have T : srcO ds = true → ∀ m, srcN ds = m → (m = 0 → Value.tuple #[.int .i64 0, .int .i64 4] = Value.tuple #[.int .i64 (srcR ds), .int .i64 (srcE ds)]) ∧ (¬ m = 0 → Value.tuple #[.int .i64 m, .int .i64 0] = Value.tuple #[.int .i64 (srcR ds), .int .i64 (srcE ds)]) := fun h m hm => by
    refine ⟨fun h0 => ?_, fun h0 => ?_⟩
    · simp [srcR, srcE, h, hm, h0]
    · simp [srcR, srcE, h, hm, h0]
  have eN : srcN ds = lsN (rAt ds 0) (iAt ds 1) (iAt ds 2) (rAt ds 0).length 0 0 := rfl
  rw [eN] at T
  rw [eO] at F T
  clear G eN eO
  generalize e0 : rAt ds 0 = r at *
  generalize e1 : iAt ds 1 = c at *
  generalize e2 : iAt ds 2 = d at *
  refine TT.sat_loop (fun v => ∃ i : Nat, v.i 0 = i ∧ i ≤ r.length ∧ nvN r (r.length - i) i = nvN r r.length 0) (fun v => r.length - (v.i 0).toNat) ⟨0, by simp [val_i, aget, E.ev], by omega, rfl⟩ (fun v hv => ?_)
  obtain ⟨i, i0, i1, i2⟩ := hv
  simp only [TT.sat_ret, TT.sat_ite, TT.sat_ob, TT.sat_next, put_i, put_d, put_fb, Ob.ok, B.ev, E.ev, X.ev, AL.ev, cmp_t, cmp_f, arEv, V2.plain, S.plain, S0.plain, V2.val, S.val, S0.val, List.all_cons, List.all_nil, Bool.and_self, envOf_i, envOf_d, List.map_cons, List.map_nil, true_and, Bool.not_eq_true', Bool.not_eq_false', cell_lg, cell_lr, cmpP, val_i, aget, beq_self_eq_true, if_true, if_false, Nat.reduceLT, Nat.reduceSub, Nat.sub_self, Nat.lt_irrefl, i0, e0, e1, e2, N4b170, noticeRow_eq]
  refine ⟨fun hc => ?_, fun hc => ?_⟩
  · obtain ⟨f, hf⟩ : ∃ f, r.length - i = f + 1 := ⟨r.length - i - 1, by omega⟩
    have hf' : r.length - (i + 1) = f := by omega
    rw [hf, nvN] at i2
    refine ⟨by omega, by omega, fun h => ⟨fun _ => F ?_, fun q => absurd q (by omega)⟩, fun h => ⟨⟨i + 1, ?_, by omega, ?_⟩, ?_⟩⟩
    · rw [← i2, h]; rfl
    · rw [wrap_in ((i : Int) + 1) (by omega) (by omega)]; rfl
    · rw [hf', ← i2, h, Bool.true_and]
    · rw [wrap_in ((i : Int) + 1) (by omega) (by omega)]; omega
  · have h0 : r.length - i = 0 := by omega
    rw [h0, nvN] at i2
    replace T := T i2.symm
    have hV : ∀ k, k < r.length → noticeRow r k = true := fun k hk => (nvN_iff _ _).1 i2.symm k (Nat.zero_le _) (by omega)
    clear F i2 h0 hc i0 i1
    refine TT.sat_loop (fun v => ∃ i : Nat, v.i 0 = i ∧ i ≤ r.length ∧ lsN r c d (r.length - i) i (v.i 1) = lsN r c d r.length 0 0) (fun v => r.length - (v.i 0).toNat) ⟨0, by simp [val_i, aget, E.ev], by omega, rfl⟩ (fun u hu => ?_)
    obtain ⟨j, j0, j1, j2⟩ := hu
    simp only [TT.sat_ret, TT.sat_ite, TT.sat_ob, TT.sat_next, put_i, put_d, Ob.ok, B.ev, E.ev, X.ev, cmp_t, cmp_f, arEv, V2.plain, S.plain, S0.plain, V2.val, S.val, S0.val, List.all_cons, List.all_nil, Bool.and_self, envOf_i, envOf_d, List.map_cons, List.map_nil, true_and, cell_lg, cmpP, val_i, aget, Nat.reduceBEq, beq_self_eq_true, Bool.false_eq_true, if_true, if_false, Nat.reduceLT, Nat.reduceSub, Nat.sub_self, Nat.lt_irrefl, j0, e0, e1, e2]
    refine ⟨fun hc => ?_, fun hc => ?_⟩
    · have hj : j < r.length := by omega
      obtain ⟨f, hf⟩ : ∃ f, r.length - j = f + 1 := ⟨r.length - j - 1, by omega⟩
      have hf' : r.length - (j + 1) = f := by omega
      rw [hf, lsN] at j2
      obtain ⟨_, hp, ho⟩ := notice_is (hV j hj)
      have hw : IntKind.i64.wrap ((j : Int) + 1) = (j : Int) + 1 := wrap_in ((j : Int) + 1) (by omega) (by omega)
      rw [hw]
      refine ⟨by omega, by omega, fun k => ⟨⟨j + 1, rfl, by omega, ?_⟩, by omega⟩, fun k => ?_⟩
      · rw [hf', ← j2, if_neg k]
      rw [if_pos (by omega)] at j2
      generalize ep : lr r j 6 = p at *
      generalize en : lg r j 1 = num at *
      refine TT.sat_loop (fun v => ∃ i : Nat, v.i 1 = i ∧ i ≤ p.length ∧ lpN p c d num (p.length - i) i (v.i 0) = lpN p c d num p.length 0 (u.i 1)) (fun v => p.length - (v.i 1).toNat) ⟨0, by simp [val_i, aget, E.ev], by omega, ?_⟩ (fun w hw => ?_)
      · simp only [val_i, aget, put_i, E.ev, envOf_i, val_i, aget, Nat.reduceBEq, beq_self_eq_true, Bool.false_eq_true, if_true, if_false, Nat.reduceLT, Nat.reduceSub]; rfl
      obtain ⟨l, l0, l1, l2⟩ := hw
      simp only [TT.sat_ite, TT.sat_ob, TT.sat_next, put_i, put_d, Ob.ok, B.ev, E.ev, X.ev, cmp_t, cmp_f, arEv, envOf_i, envOf_d, cell_lg, cell_lr, cmpP, val_i, aget, Nat.reduceBEq, beq_self_eq_true, Bool.false_eq_true, if_true, if_false, Nat.reduceLT, Nat.reduceSub, Nat.sub_self, Nat.lt_irrefl, l0, j0, e0, e1, e2, ep, en]
      refine ⟨fun hc2 => ?_, fun hc2 => ?_⟩
      · have hl : l < p.length := by omega
        obtain ⟨g, hg⟩ : ∃ g, p.length - l = g + 1 := ⟨p.length - l - 1, by omega⟩
        have hg' : p.length - (l + 1) = g := by omega
        rw [hg, lpN] at l2
        have hol := ho l hl
        have hwl : IntKind.i64.wrap ((l : Int) + 1) = (l : Int) + 1 := wrap_in ((l : Int) + 1) (by omega) (by omega)
        rw [hwl]
        have no : partHas p c d l = false → ∃ i : Nat, ((l : Int) + 1) = i ∧ i ≤ p.length ∧ lpN p c d num (p.length - i) i (w.i 0) = lpN p c d num p.length 0 (u.i 1) := fun h => ⟨l + 1, rfl, by omega, by rw [hg', ← l2, h]; rfl⟩
        refine ⟨by omega, by omega, fun k1 => ?_, fun k1 => ⟨no ?_, by omega⟩⟩
        · generalize eo : lr p l 2 = o at *
          have hP : partHas p c d l = opHas o d o.length 0 := by unfold partHas; rw [eo, decide_eq_true k1, Bool.true_and]
          refine TT.sat_loop (fun v => ∃ i : Nat, v.i 0 = i ∧ i ≤ o.length ∧ opHas o d (o.length - i) i = opHas o d o.length 0) (fun v => o.length - (v.i 0).toNat) ⟨0, by simp [val_i, aget, E.ev], by omega, rfl⟩ (fun y hy => ?_)
          obtain ⟨m, m0, m1, m2⟩ := hy
          simp only [TT.sat_ite, TT.sat_ob, TT.sat_next, put_i, put_d, Ob.ok, B.ev, E.ev, X.ev, cmp_t, cmp_f, arEv, envOf_i, envOf_d, cell_lg, cell_lr, cmpP, val_i, aget, Nat.reduceBEq, beq_self_eq_true, Bool.false_eq_true, if_true, if_false, Nat.reduceLT, Nat.reduceSub, Nat.sub_self, Nat.lt_irrefl, m0, l0, j0, e0, e1, e2, ep, en, eo]
          refine ⟨fun hc3 => ?_, fun hc3 => ?_⟩
          · obtain ⟨z, hz⟩ : ∃ z, o.length - m = z + 1 := ⟨o.length - m - 1, by omega⟩
            have hz' : o.length - (m + 1) = z := by omega
            rw [hz, opHas] at m2
            rw [wrap_in ((m : Int) + 1) (by omega) (by omega), hwl]
            refine ⟨by omega, by omega, fun k2 => ⟨fun _ => ⟨⟨l + 1, rfl, by omega, ?_⟩, by omega⟩, fun q => absurd q (by omega)⟩, fun k2 => ⟨⟨m + 1, rfl, by omega, ?_⟩, by omega⟩⟩
            · rw [decide_eq_true k2, Bool.true_or] at m2
              rw [hg', ← l2, hP, ← m2]; rfl
            · rw [hz', ← m2, decide_eq_false k2, Bool.false_or]
          · have h0 : o.length - m = 0 := by omega
            rw [h0, opHas] at m2
            rw [hwl]
            exact ⟨no (by rw [hP, ← m2]), by omega⟩
        · unfold partHas; rw [decide_eq_false k1, Bool.false_and]
      · have h0 : p.length - l = 0 := by omega
        rw [h0, lpN] at l2
        rw [hw]
        exact ⟨⟨j + 1, rfl, by omega, by rw [hf', ← j2, ← l2]⟩, by omega⟩
    · have h0 : r.length - j = 0 := by omega
      rw [h0, lsN] at j2
      exact T _ j2.symm
def N5 : Interp where
  fi n l := match n with | 180 => srcR l | 181 => srcE l | n => N4.fi n l
  fb n l := N4.fb n l
  fd _ _ := []
theorem N5_N4 {ρ : Env} (h : Sees ρ N5 190) : Sees ρ N4 180 := h.trans (by decide) fun n l hn => by
  refine ⟨?_, ?_⟩
  ·
    simp only [N5]
    split <;> first | omega | rfl
  ·
    rfl
def cSource := ctD [nots, it, it] fun al => .ret (.tup [.one (sIF 180 srcR al), .one (sIF 181 srcE al)])
theorem cSource_ok {ρ : Env} (h : Sees ρ N5 190) : CtOne Tryz.prog ρ 32 cSource :=
  ctD_ok gSource (fun _ => rfl) (fun al => by simp only [V.val, V2.val, S.val, S0.val, sIF, sBF, List.map_cons, List.map_nil, iF_ev (s := 180) (f := srcR) (fun l => by rw [(h 180 l (by decide)).1]; simp only [N5, N4, N3, N2, N1, KG, KF, KE, KD, KC, KB, KA, K9, K8, K7, K6, K5, K]), iF_ev (s := 181) (f := srcE) (fun l => by rw [(h 181 l (by decide)).1]; simp only [N5, N4, N3, N2, N1, KG, KF, KE, KD, KC, KB, KA, K9, K8, K7, K6, K5, K])]; try rfl)
def ctN5 : Ct := (32, cSource) :: ctN4
theorem ctN5_ok {ρ : Env} (h : Sees ρ N5 190) : CtOk Tryz.prog ρ ctN5 := .cons (cSource_ok h) (ctN4_ok (N5_N4 h))
end Go.Proofs.YtkjjkckcjgkhmaaGreat
/- Chapter 40: slices.Clone of legs, points, sectors. -/
namespace Go.Proofs.YtkjjkckcjgkhmaaGreat
open Go.RowKit
theorem info_clone_Leg : (Tryz.prog.info? 83).map (fun i => (i.zero, i.size, i.bytes)) = some (some (.agg #[.int .i64 0, .int .i64 0, .int .i64 0, .int .i64 0, .int .i64 0, .int .i64 0]), 6, 48) := by kernel_rfl
set_option maxRecDepth 100000 in
theorem clone_Leg : CloneOk Tryz.prog 116 83 6 := by
  intro w base a n c news hbase hl ha hnews h1 hn
  obtain ⟨i0, hi, hz0, hz1, hz2⟩ := info_parts info_clone_Leg
  have heq := fun W => run_eq_nil (P := Tryz.prog) Tryz.underlying25 a n c W
  cases a with
  | none =>
    obtain rfl : n = 0 := by
      rcases Nat.eq_zero_or_pos n with e | e
      · exact e
      · have := ha e; cases this
    obtain rfl : news = [] := List.eq_nil_of_length_eq_zero (by simpa using hl)
    clear hl ha hnews h1
    go_enter Tryz.func116, Tryz.ntmps116
    go_wp2
    go_ret
    exact ⟨_, rfl, AppRes.same (.inl (World.ownsRow_nil _ _ _ _)) ⟨_, _, rfl⟩⟩
  | some b =>
    go_enter Tryz.func116, Tryz.ntmps116
    go_wp2_with (at_builtin; refine wpList_append_row rfl _ _ 25 rfl base 83 i0 (.agg #[.int .i64 0, .int .i64 0, .int .i64 0, .int .i64 0, .int .i64 0, .int .i64 0]) 6 48 Tryz.underlying25 hi hz0 hz1 hz2 rfl _ 0 [] rfl ?c1 ?c2 (some b) n c news rfl hl ha ?c3 h1 ?c4 ?c5 ?c6 ?_)
    case c1 => exact .inr ⟨rfl, rfl, _, rfl⟩
    case c2 => exact ⟨_, _, rfl⟩
    case c3 =>
      intro b1 hb1 j u hj
      have q := hnews b1 hb1 j u hj
      rw [World.cell?_alloc_lt _ _ _ (World.block_lt_of_cell? _ _ q)]
      exact q
    case c4 => simp only [maxLen]; omega
    case c5 => omega
    case c6 => simp only [World.size_alloc]; omega
    intro v' W' happ
    go_wp2
    go_ret
    exact ⟨_, rfl, happ.fresh (by omega)⟩
theorem info_clone_Point : (Tryz.prog.info? 60).map (fun i => (i.zero, i.size, i.bytes)) = some (some (.agg #[.int .i64 0, .int .i64 0]), 2, 16) := by kernel_rfl
set_option maxRecDepth 100000 in
theorem clone_Point : CloneOk Tryz.prog 71 60 2 := by
  intro w base a n c news hbase hl ha hnews h1 hn
  obtain ⟨i0, hi, hz0, hz1, hz2⟩ := info_parts info_clone_Point
  have heq := fun W => run_eq_nil (P := Tryz.prog) Tryz.underlying61 a n c W
  cases a with
  | none =>
    obtain rfl : n = 0 := by
      rcases Nat.eq_zero_or_pos n with e | e
      · exact e
      · have := ha e; cases this
    obtain rfl : news = [] := List.eq_nil_of_length_eq_zero (by simpa using hl)
    clear hl ha hnews h1
    go_enter Tryz.func71, Tryz.ntmps71
    go_wp2
    go_ret
    exact ⟨_, rfl, AppRes.same (.inl (World.ownsRow_nil _ _ _ _)) ⟨_, _, rfl⟩⟩
  | some b =>
    go_enter Tryz.func71, Tryz.ntmps71
    go_wp2_with (at_builtin; refine wpList_append_row rfl _ _ 61 rfl base 60 i0 (.agg #[.int .i64 0, .int .i64 0]) 2 16 Tryz.underlying61 hi hz0 hz1 hz2 rfl _ 0 [] rfl ?c1 ?c2 (some b) n c news rfl hl ha ?c3 h1 ?c4 ?c5 ?c6 ?_)
    case c1 => exact .inr ⟨rfl, rfl, _, rfl⟩
    case c2 => exact ⟨_, _, rfl⟩
    case c3 =>
      intro b1 hb1 j u hj
      have q := hnews b1 hb1 j u hj
      rw [World.cell?_alloc_lt _ _ _ (World.block_lt_of_cell? _ _ q)]
      exact q
    case c4 => simp only [maxLen]; omega
    case c5 => omega
    case c6 => simp only [World.size_alloc]; omega
    intro v' W' happ
    go_wp2
    go_ret
    exact ⟨_, rfl, happ.fresh (by omega)⟩
theorem info_clone_Sector : (Tryz.prog.info? 150).map (fun i => (i.zero, i.size, i.bytes)) = some (some (.agg #[.int .i64 0, .int .i64 0, .int .i64 0, .int .i64 0, .int .i64 0, .int .i64 0]), 6, 48) := by kernel_rfl
set_option maxRecDepth 100000 in
theorem clone_Sector : CloneOk Tryz.prog 72 150 6 := by
  intro w base a n c news hbase hl ha hnews h1 hn
  obtain ⟨i0, hi, hz0, hz1, hz2⟩ := info_parts info_clone_Sector
  have heq := fun W => run_eq_nil (P := Tryz.prog) Tryz.underlying62 a n c W
  cases a with
  | none =>
    obtain rfl : n = 0 := by
      rcases Nat.eq_zero_or_pos n with e | e
      · exact e
      · have := ha e; cases this
    obtain rfl : news = [] := List.eq_nil_of_length_eq_zero (by simpa using hl)
    clear hl ha hnews h1
    go_enter Tryz.func72, Tryz.ntmps72
    go_wp2
    go_ret
    exact ⟨_, rfl, AppRes.same (.inl (World.ownsRow_nil _ _ _ _)) ⟨_, _, rfl⟩⟩
  | some b =>
    go_enter Tryz.func72, Tryz.ntmps72
    go_wp2_with (at_builtin; refine wpList_append_row rfl _ _ 62 rfl base 150 i0 (.agg #[.int .i64 0, .int .i64 0, .int .i64 0, .int .i64 0, .int .i64 0, .int .i64 0]) 6 48 Tryz.underlying62 hi hz0 hz1 hz2 rfl _ 0 [] rfl ?c1 ?c2 (some b) n c news rfl hl ha ?c3 h1 ?c4 ?c5 ?c6 ?_)
    case c1 => exact .inr ⟨rfl, rfl, _, rfl⟩
    case c2 => exact ⟨_, _, rfl⟩
    case c3 =>
      intro b1 hb1 j u hj
      have q := hnews b1 hb1 j u hj
      rw [World.cell?_alloc_lt _ _ _ (World.block_lt_of_cell? _ _ q)]
      exact q
    case c4 => simp only [maxLen]; omega
    case c5 => omega
    case c6 => simp only [World.size_alloc]; omega
    intro v' W' happ
    go_wp2
    go_ret
    exact ⟨_, rfl, happ.fresh (by omega)⟩
def cCloneLeg := cClone 83 legK
theorem cCloneLeg_ok {ρ : Env} : CtOne Tryz.prog ρ 116 cCloneLeg := cClone_ok clone_Leg
def cClonePt := cClone 60 ptK
theorem cClonePt_ok {ρ : Env} : CtOne Tryz.prog ρ 71 cClonePt := cClone_ok clone_Point
def cCloneSec := cClone 150 secK
theorem cCloneSec_ok {ρ : Env} : CtOne Tryz.prog ρ 72 cCloneSec := cClone_ok clone_Sector
end Go.Proofs.YtkjjkckcjgkhmaaGreat
/- Chapter 40: the tree of Leg. -/
namespace Go.Proofs.YtkjjkckcjgkhmaaGreat
open Go.RowKit
def ctN6 : Ct := (116, cCloneLeg) :: ctN5
-- term trLeg: call Tryz.prog ctN6 (Lt.of []) 100 18 (symArgs 0 [shee, psg, it, shp, tid]) [] 0
def trLeg : TT OpR :=
(.ite (.not (.fn 151 (.i (.var 0) (.i (.var 1) (.i (.var 2) (.i (.var 3) (.i (.var 4) (.i (.var 5) (.i (.var 6) (.i (.var 7) (.i (.var 8) (.i (.var 9) (.i (.var 10) (.x (.var 11) (.x (.var 12) .nil)))))))))))))))
 (.ret ((.tup [(.one (.z (.int .i64 (.lit 0)))), (.one (.z (.int .i64 (.lit 1))))]), [], 5))
 (.ite (.fn 20 (.i (.var 13) (.i (.var 14) (.i (.var 15) (.x (.var 16) .nil)))))
 (.ite (.cmp .geq (.var 17) (.lit 0))
 (.ite (.cmp .lss (.var 17) (.len (.var 16)))
 (.ite (.fn 144 (.i (.var 18) (.i (.var 19) (.x (.var 20) .nil))))
 (.ite (.not (.fn 150 (.i (.var 21) (.i (.var 22) (.x (.var 23) .nil)))))
 (.ret ((.tup [(.one (.z (.int .i64 (.lit 0)))), (.one (.z (.int .i64 (.lit 1))))]), [], 6))
 (.ite (.not (.and (.cmp .eql (.var 3) (.lit 1000000)) (.and (.cmp .eql (.var 4) (.lit 0)) (.and (.cmp .eql (.var 6) (.lit 0)) (.cmp .eql (.var 7) (.lit 1000000))))))
 (.ret ((.tup [(.one (.z (.int .i64 (.lit 0)))), (.one (.z (.int .i64 (.lit 12))))]), [], 11))
 (.ite (.cmp .neq (.fn 26 (.i (.var 13) (.i (.var 14) (.i (.var 15) (.x (.var 16) (.i (.var 17) .nil)))))) (.lit 0))
 (.ret ((.tup [(.one (.z (.int .i64 (.lit 0)))), (.one (.z (.int .i64 (.lit 3))))]), [], 12))
 (.ob (.tru (.cmp .leq (.len (.var 16)) (.lit 1000000)))
 (.loop 0 14000 ⟨[(0, (.lit 0))], [], [(1, (.var 16))]⟩
 (.ite (.cmp .lss (.var 14000) (.len (.var 16)))
 (.ob (.tru (.cmp .leq (.lit 0) (.var 14000)))
 (.ob (.tru (.cmp .lss (.var 14000) (.len (.var 14001))))
 (.ob (.tru (.cmp .leq (.lit 0) (.var 14000)))
 (.ob (.tru (.cmp .lss (.var 14000) (.len (.var 14001))))
 (.ob (.tru (.cmp .leq (.lit 0) (.var 14000)))
 (.ob (.tru (.cmp .lss (.var 14000) (.len (.upd (.var 14001) (.var 14000) 0 (.i (.ar .add .i64 (.rd (.var 14001) (.var 14000) 0) (.var 5)) (.i (.ar .add .i64 (.rd (.var 14001) (.var 14000) 1) (.var 8)) .nil))))))
 (.next 0 ⟨[(0, (.ar .add .i64 (.var 14000) (.lit 1)))], [], [(1, (.upd (.upd (.var 14001) (.var 14000) 0 (.i (.ar .add .i64 (.rd (.var 14001) (.var 14000) 0) (.var 5)) (.i (.ar .add .i64 (.rd (.var 14001) (.var 14000) 1) (.var 8)) .nil))) (.var 14000) 2 (.i (.ar .add .i64 (.rd (.var 14001) (.var 14000) 2) (.var 5)) (.i (.ar .add .i64 (.rd (.var 14001) (.var 14000) 3) (.var 8)) .nil))))]⟩)))))))
 (.ite (.not (.fn 20 (.i (.var 13) (.i (.var 14) (.i (.ar .add .i64 (.var 15) (.ar .mul .i64 (.lit 2) (.var 9))) (.x (.var 14001) .nil))))))
 (.ret ((.tup [(.one (.z (.int .i64 (.lit 0)))), (.one (.z (.int .i64 (.lit 3))))]), [], 20))
 (.ob (.tru (.cmp .leq (.lit 0) (.var 17)))
 (.ob (.tru (.cmp .lss (.var 17) (.len (.var 14001))))
 (.ite (.cmp .neq (.fn 171 (.i (.var 18) (.i (.var 19) (.x (.var 20) (.i (.var 21) (.i (.var 22) (.x (.var 23) (.i (.var 10) (.i (.rd (.var 14001) (.var 17) 5) (.i (.fn 24 (.i (.var 13) (.i (.var 14) (.i (.var 15) (.x (.var 16) (.i (.var 17) .nil)))))) (.i (.fn 25 (.i (.var 13) (.i (.var 14) (.i (.var 15) (.x (.var 16) (.i (.var 17) .nil)))))) .nil))))))))))) (.lit 0))
 (.ret ((.tup [(.one (.z (.int .i64 (.lit 0)))), (.one (.z (.int .i64 (.fn 171 (.i (.var 18) (.i (.var 19) (.x (.var 20) (.i (.var 21) (.i (.var 22) (.x (.var 23) (.i (.var 10) (.i (.rd (.var 14001) (.var 17) 5) (.i (.fn 24 (.i (.var 13) (.i (.var 14) (.i (.var 15) (.x (.var 16) (.i (.var 17) .nil)))))) (.i (.fn 25 (.i (.var 13) (.i (.var 14) (.i (.var 15) (.x (.var 16) (.i (.var 17) .nil)))))) .nil))))))))))))))]), [], 21))
 (.ob (.tru (.cmp .leq (.lit 0) (.var 17)))
 (.ob (.tru (.cmp .lss (.var 17) (.len (.var 14001))))
 (.ite (.not (.fn 171 (.i (.var 18) (.i (.var 19) (.x (.var 20) (.i (.var 21) (.i (.var 22) (.x (.var 23) (.i (.var 10) (.i (.rd (.var 14001) (.var 17) 5) (.i (.fn 24 (.i (.var 13) (.i (.var 14) (.i (.var 15) (.x (.var 16) (.i (.var 17) .nil)))))) (.i (.fn 25 (.i (.var 13) (.i (.var 14) (.i (.var 15) (.x (.var 16) (.i (.var 17) .nil)))))) .nil))))))))))))
 (.ret ((.tup [(.one (.z (.int .i64 (.lit 0)))), (.one (.z (.int .i64 (.lit 20))))]), [], 22))
 (.loop 1 23000 ⟨[(0, (.lit 0))], [], []⟩
 (.ite (.cmp .lss (.var 23000) (.len (.var 12)))
 (.ob (.tru (.cmp .leq (.lit 0) (.var 23000)))
 (.ob (.tru (.cmp .lss (.var 23000) (.len (.var 12))))
 (.ite (.cmp .neq (.fn 77 (.i (.var 13) (.i (.var 14) (.i (.ar .add .i64 (.var 15) (.ar .mul .i64 (.lit 2) (.var 9))) (.x (.var 14001) (.i (.var 17) (.i (.rd (.var 12) (.var 23000) 0) (.i (.rd (.var 12) (.var 23000) 1) (.i (.rd (.var 12) (.var 23000) 2) (.i (.rd (.var 12) (.var 23000) 3) (.i (.rd (.var 12) (.var 23000) 4) (.x (.rd (.var 12) (.var 23000) 5) (.i (.rd (.var 12) (.var 23000) 6) (.i (.rd (.var 12) (.var 23000) 7) (.x (.rd (.var 12) (.var 23000) 8) .nil))))))))))))))) (.lit 0))
 (.next 1 ⟨[(0, (.ar .add .i64 (.var 23000) (.lit 1)))], [], []⟩)
 (.ite (.not (.fn 77 (.i (.var 13) (.i (.var 14) (.i (.ar .add .i64 (.var 15) (.ar .mul .i64 (.lit 2) (.var 9))) (.x (.var 14001) (.i (.var 17) (.i (.rd (.var 12) (.var 23000) 0) (.i (.rd (.var 12) (.var 23000) 1) (.i (.rd (.var 12) (.var 23000) 2) (.i (.rd (.var 12) (.var 23000) 3) (.i (.rd (.var 12) (.var 23000) 4) (.x (.rd (.var 12) (.var 23000) 5) (.i (.rd (.var 12) (.var 23000) 6) (.i (.rd (.var 12) (.var 23000) 7) (.x (.rd (.var 12) (.var 23000) 8) .nil))))))))))))))))
 (.next 1 ⟨[(0, (.ar .add .i64 (.var 23000) (.lit 1)))], [], []⟩)
 (.ob (.tru (.cmp .leq (.lit 0) (.var 17)))
 (.ob (.tru (.cmp .lss (.var 17) (.len (.var 14001))))
 (.ite (.cmp .eql (.rd (.var 12) (.var 23000) 1) (.lit 6))
 (.ite (.cmp .geq (.var 23000) (.lit 0))
 (.ob (.tru (.cmp .leq (.lit 0) (.var 23000)))
 (.ob (.tru (.cmp .lss (.var 23000) (.len (.var 12))))
 (.ret ((.tup [(.one (.z (.int .i64 (.rd (.var 12) (.var 23000) 0)))), (.one (.z (.int .i64 (.lit 20))))]), [], 26))))
 (.ret ((.tup [(.one (.z (.int .i64 (.lit 0)))), (.one (.z (.int .i64 (.lit 0))))]), [], 26)))
 (.ite (.cmp .neq (.fn 171 (.i (.var 18) (.i (.var 19) (.x (.var 20) (.i (.var 21) (.i (.var 22) (.x (.var 23) (.i (.rd (.var 12) (.var 23000) 6) (.i (.rd (.var 14001) (.var 17) 5) (.i (.fn 24 (.i (.var 13) (.i (.var 14) (.i (.var 15) (.x (.var 16) (.i (.var 17) .nil)))))) (.i (.fn 25 (.i (.var 13) (.i (.var 14) (.i (.var 15) (.x (.var 16) (.i (.var 17) .nil)))))) .nil))))))))))) (.lit 0))
 (.ite (.cmp .geq (.var 23000) (.lit 0))
 (.ob (.tru (.cmp .leq (.lit 0) (.var 23000)))
 (.ob (.tru (.cmp .lss (.var 23000) (.len (.var 12))))
 (.ret ((.tup [(.one (.z (.int .i64 (.rd (.var 12) (.var 23000) 0)))), (.one (.z (.int .i64 (.lit 20))))]), [], 26))))
 (.ret ((.tup [(.one (.z (.int .i64 (.lit 0)))), (.one (.z (.int .i64 (.lit 0))))]), [], 26)))
 (.ite (.not (.fn 171 (.i (.var 18) (.i (.var 19) (.x (.var 20) (.i (.var 21) (.i (.var 22) (.x (.var 23) (.i (.rd (.var 12) (.var 23000) 6) (.i (.rd (.var 14001) (.var 17) 5) (.i (.fn 24 (.i (.var 13) (.i (.var 14) (.i (.var 15) (.x (.var 16) (.i (.var 17) .nil)))))) (.i (.fn 25 (.i (.var 13) (.i (.var 14) (.i (.var 15) (.x (.var 16) (.i (.var 17) .nil)))))) .nil))))))))))))
 (.ite (.cmp .geq (.var 23000) (.lit 0))
 (.ob (.tru (.cmp .leq (.lit 0) (.var 23000)))
 (.ob (.tru (.cmp .lss (.var 23000) (.len (.var 12))))
 (.ret ((.tup [(.one (.z (.int .i64 (.rd (.var 12) (.var 23000) 0)))), (.one (.z (.int .i64 (.lit 20))))]), [], 26))))
 (.ret ((.tup [(.one (.z (.int .i64 (.lit 0)))), (.one (.z (.int .i64 (.lit 0))))]), [], 26)))
 (.next 1 ⟨[(0, (.ar .add .i64 (.var 23000) (.lit 1)))], [], []⟩))))))))))
 (.ret ((.tup [(.one (.z (.int .i64 (.lit 0)))), (.one (.z (.int .i64 (.lit 0))))]), [], 26)))))))))))))))))
 (.ret ((.tup [(.one (.z (.int .i64 (.lit 0)))), (.one (.z (.int .i64 (.lit 1))))]), [], 6)))
 (.ret ((.tup [(.one (.z (.int .i64 (.lit 0)))), (.one (.z (.int .i64 (.lit 1))))]), [], 6)))
 (.ret ((.tup [(.one (.z (.int .i64 (.lit 0)))), (.one (.z (.int .i64 (.lit 1))))]), [], 6)))
 (.ret ((.tup [(.one (.z (.int .i64 (.lit 0)))), (.one (.z (.int .i64 (.lit 1))))]), [], 6))))
-- end trLeg
set_option maxRecDepth 100000 in
theorem trLeg_is : T.norm 0 (call Tryz.prog ctN6 (Lt.of []) 100 18 (symArgs 0 [shee, psg, it, shp, tid]) [] 0) TT.ret = trLeg := by kernel_rfl
theorem trLeg_low : trLeg.low 1000 = true := by kernel_rfl
end Go.Proofs.YtkjjkckcjgkhmaaGreat
/- Chapter 40: what a sheet says of a leg. -/
namespace Go.Proofs.YtkjjkckcjgkhmaaGreat
open Go.RowKit
/-! Legs that are moved -/
theorem lg_upd_ne {m : Rows} {i : Nat} {j : Nat} {l : List D} {i' : Nat} (h : i' ≠ i) (c : Nat) : lg (updR m i j l) i' c = lg m i' c := by
  unfold lg cellAt updR
  rw [Int.toNat_natCast, Int.toNat_natCast, List.getElem?_modify]
  simp only [if_neg (fun e : i = i' => h e.symm)]
  cases m[i']? <;> rfl
def mlN (r : Rows) (s t : Int) : Nat → Rows
  | 0 => r
  | i + 1 => updR (updR (mlN r s t i) i 0 [.i (lg r i 0 + s), .i (lg r i 1 + t)]) i 2 [.i (lg r i 2 + s), .i (lg r i 3 + t)]
def mvLegs (r : Rows) (s t : Int) : Rows := mlN r s t r.length
theorem mlN_len {r : Rows} {s t : Int} : ∀ i, (mlN r s t i).length = r.length
  | 0 => rfl
  | i + 1 => by rw [mlN, updR_len, updR_len, mlN_len i]
theorem mlN_rest {r : Rows} {s t : Int} : ∀ (i j : Nat), i ≤ j → ∀ c : Nat, lg (mlN r s t i) j c = lg r j c
  | 0, _, _, _ => rfl
  | i + 1, j, h, c => by rw [mlN, lg_upd_ne (by omega), lg_upd_ne (by omega), mlN_rest i j (by omega)]
theorem mlN_mid {r : Rows} {s t : Int} (h4 : ∀ i : Nat, i < r.length → lg r i 4 ≠ 0) : ∀ i, i ≤ r.length → Mid r s t i (mlN r s t i)
  | 0, _ => ⟨rfl, fun _ _ => rfl, fun _ _ h => absurd h (Nat.not_lt_zero _), fun _ _ _ _ => rfl⟩
  | i + 1, h => (mlN_mid h4 i (by omega)).step (by omega) (h4 i (by omega)) _ rfl
theorem mvLegs_mv {r : Rows} {s t : Int} (h4 : ∀ i : Nat, i < r.length → lg r i 4 ≠ 0) : MvL r (mvLegs r s t) s t := (mlN_mid h4 r.length (Nat.le_refl _)).end
theorem mvLegs_len {r : Rows} {s t : Int} : (mvLegs r s t).length = r.length := mlN_len _
/-! The verdict of a sheet -/
def lgM (ds : List D) : Rows := mvLegs (rAt ds 16) (iAt ds 5) (iAt ds 8)
def lgT (ds : List D) : List D := [.i (iAt ds 13), .i (iAt ds 14), .i (iAt ds 15), .l (rAt ds 16), .i (iAt ds 17)]
def lgOff (ds : List D) : Int := iAt ds 15 + 2 * iAt ds 9
def lgK (ds : List D) (depth : Int) : List D := [.i (iAt ds 18), .i (iAt ds 19), .l (rAt ds 20), .i (iAt ds 21), .i (iAt ds 22), .l (rAt ds 23), .i depth, .i (lg (lgM ds) (iAt ds 17) 5), .i (durL (lgT ds)), .i (durH (lgT ds))]
def lgN (ds : List D) (i : Nat) : List D := [.i (iAt ds 13), .i (iAt ds 14), .i (lgOff ds), .l (lgM ds), .i (iAt ds 17), .i (lg (rAt ds 12) i 0), .i (lg (rAt ds 12) i 1), .i (lg (rAt ds 12) i 2), .i (lg (rAt ds 12) i 3), .i (lg (rAt ds 12) i 4), .l (lr (rAt ds 12) i 5), .i (lg (rAt ds 12) i 6), .i (lg (rAt ds 12) i 7), .l (lr (rAt ds 12) i 8)]
def lgF (ds : List D) (i : Nat) : Bool := decide (nearPE (lgN ds i) = 0) && (nearPR (lgN ds i) && (decide (lg (rAt ds 12) i 1 = 6) || (!decide (deE (lgK ds (lg (rAt ds 12) i 6)) = 0) || !deR (lgK ds (lg (rAt ds 12) i 6)))))
def lgFirst (ds : List D) : Nat → Nat → Nat
  | 0, i => i
  | f + 1, i => if lgF ds i then i else lgFirst ds f (i + 1)
def lgI (ds : List D) : Nat := lgFirst ds (rAt ds 12).length 0
def sh13 (ds : List D) : List D := [.i (iAt ds 0), .i (iAt ds 1), .i (iAt ds 2), .i (iAt ds 3), .i (iAt ds 4), .i (iAt ds 5), .i (iAt ds 6), .i (iAt ds 7), .i (iAt ds 8), .i (iAt ds 9), .i (iAt ds 10), .l (rAt ds 11), .l (rAt ds 12)]
def askB (ds : List D) : Bool := psgB (iAt ds 13) (iAt ds 14) (iAt ds 15) (rAt ds 16) && (decide (0 ≤ iAt ds 17 ∧ iAt ds 17 < (rAt ds 16).length) && (kevB (iAt ds 18) (iAt ds 19) (rAt ds 20) && tideB (iAt ds 21) (iAt ds 22) (rAt ds 23)))
def plainB (ds : List D) : Bool := decide (iAt ds 3 = 1000000 ∧ iAt ds 4 = 0 ∧ iAt ds 6 = 0 ∧ iAt ds 7 = 1000000)
def legE (ds : List D) : Int :=
  if sheetL (sh13 ds) && askB ds then
    if plainB ds then
      if durE (lgT ds) = 0 ∧ psgB (iAt ds 13) (iAt ds 14) (lgOff ds) (lgM ds) = true then
        if deE (lgK ds (iAt ds 10)) = 0 then (if deR (lgK ds (iAt ds 10)) = true ∧ lgI ds = (rAt ds 12).length then 0 else 20) else deE (lgK ds (iAt ds 10))
      else 3
    else 12
  else 1
def legR (ds : List D) : Int := if legE ds = 20 ∧ deR (lgK ds (iAt ds 10)) = true then lg (rAt ds 12) (lgI ds) 0 else 0
theorem psg_leg4 {lo hi off : Int} {r : Rows} (h : psgB lo hi off r = true) : ∀ i : Nat, i < r.length → lg r i 4 ≠ 0 := fun i hi => by
  have := (legB_iff.1 ((psgB_iff h).2.2.2 i hi)).2.2
  omega
theorem N5b151 (W : World) (ds l : List D) : (envOf N5 W ds).fb 151 l = sheetL l := by simp only [envOf, N5, N4, N3, N2, N1, KG, KF, KE, KD, KC, KB, KA, K9, K8, K7, K6, K5, K]
theorem N5b20 (W : World) (ds l : List D) : (envOf N5 W ds).fb 20 l = psgL l := by simp only [envOf, N5, N4, N3, N2, N1, KG, KF, KE, KD, KC, KB, KA, K9, K8, K7, K6, K5, K]
theorem N5b144 (W : World) (ds l : List D) : (envOf N5 W ds).fb 144 l = kevL l := by simp only [envOf, N5, N4, N3, N2, N1, KG, KF, KE, KD, KC, KB, KA, K9, K8, K7, K6, K5, K]
theorem N5b150 (W : World) (ds l : List D) : (envOf N5 W ds).fb 150 l = tideL l := by simp only [envOf, N5, N4, N3, N2, N1, KG, KF, KE, KD, KC, KB, KA, K9, K8, K7, K6, K5, K]
theorem N5i26 (W : World) (ds l : List D) : (envOf N5 W ds).fi 26 l = durE l := by simp only [envOf, N5, N4, N3, N2, N1, KG, KF, KE, KD, KC, KB, KA, K9, K8, K7, K6, K5, K]
theorem N5i24 (W : World) (ds l : List D) : (envOf N5 W ds).fi 24 l = durL l := by simp only [envOf, N5, N4, N3, N2, N1, KG, KF, KE, KD, KC, KB, KA, K9, K8, K7, K6, K5, K]
theorem N5i25 (W : World) (ds l : List D) : (envOf N5 W ds).fi 25 l = durH l := by simp only [envOf, N5, N4, N3, N2, N1, KG, KF, KE, KD, KC, KB, KA, K9, K8, K7, K6, K5, K]
theorem N5b171 (W : World) (ds l : List D) : (envOf N5 W ds).fb 171 l = deR l := by simp only [envOf, N5, N4, N3, N2, N1, KG, KF, KE, KD, KC, KB, KA, K9, K8, K7, K6, K5, K]
theorem N5i171 (W : World) (ds l : List D) : (envOf N5 W ds).fi 171 l = deE l := by simp only [envOf, N5, N4, N3, N2, N1, KG, KF, KE, KD, KC, KB, KA, K9, K8, K7, K6, K5, K]
theorem N5b77 (W : World) (ds l : List D) : (envOf N5 W ds).fb 77 l = nearPR l := by simp only [envOf, N5, N4, N3, N2, N1, KG, KF, KE, KD, KC, KB, KA, K9, K8, K7, K6, K5, K]
theorem N5i77 (W : World) (ds l : List D) : (envOf N5 W ds).fi 77 l = nearPE l := by simp only [envOf, N5, N4, N3, N2, N1, KG, KF, KE, KD, KC, KB, KA, K9, K8, K7, K6, K5, K]
theorem tide_31 (a b : Int) (r : Rows) : tideL [.i a, .i b, .l r] = tideB a b r := rfl
set_option maxHeartbeats 1000000 in
theorem gLeg : Gives Tryz.prog 18 [shee, psg, it, shp, tid] (fun ds => .tuple #[.int .i64 (legR ds), .int .i64 (legE ds)]) := by
  refine GivesIf.all (fn_gives N5 (by kernel_rfl) (fun ρ h => .cons cCloneLeg_ok (ctN5_ok (Sees.of h 190))) (by kernel_rfl) trLeg_is trLeg_low (by decide) (fun W vals ds hr _ => ?_))
  have hlen := (sheet_rep hr).2
  simp only [trLeg, TT.sat_ret, TT.sat_ite, TT.sat_ob, TT.sat_next, TT.sat_stuck, put_i, put_b, put_d, put_fi, put_fb, put_fd, Ob.ok, B.ev, E.ev, X.ev, AL.ev, cmp_t, cmp_f, arEv, V.plain, V2.plain, S.plain, S0.plain, V.val, V2.val, S.val, S0.val, bV, iV, List.all_cons, List.all_nil, Bool.and_true, Bool.and_self, envOf_i, envOf_b, envOf_d, List.map_cons, List.map_nil, true_and, Bool.not_eq_true', Bool.not_eq_false', Bool.not_not, Bool.and_eq_true, and_f, cell_lg, cell_lb, cell_lr, cmpP, val_i, val_b, val_d, aget, Nat.reduceBEq, beq_self_eq_true, Bool.false_eq_true, if_true, if_false, Nat.reduceLT, Nat.reduceSub, Nat.sub_self, Nat.lt_irrefl, N5b151, N5b20, N5b144, N5b150, N5i26, psg_four, kev_3, tide_31]
  clear hr
  have Z : ∀ e, legE ds = e → e ≠ 20 → Value.tuple #[.int .i64 0, .int .i64 e] = Value.tuple #[.int .i64 (legR ds), .int .i64 (legE ds)] := fun e h h' => by
    have : legR ds = 0 := by unfold legR; rw [if_neg (by omega)]
    rw [this, h]
  have Z1 : (sheetL (sh13 ds) && askB ds) = false → Value.tuple #[.int .i64 0, .int .i64 1] = Value.tuple #[.int .i64 (legR ds), .int .i64 (legE ds)] := fun h => Z 1 (by unfold legE; rw [h]; rfl) (by decide)
  refine ⟨fun h => Z1 (by unfold sh13; rw [h, Bool.false_and]), fun hS => ⟨fun hP => ⟨fun k0 => ⟨fun k1 => ⟨fun hK => ⟨fun hT => Z1 ?_, fun hT => ?_⟩, fun hK => Z1 ?_⟩, fun k1 => Z1 ?_⟩, fun k0 => Z1 ?_⟩, fun hP => Z1 ?_⟩⟩
  · unfold askB; rw [hT]; simp
  rotate_left
  · unfold askB; rw [hK]; simp
  · unfold askB; rw [decide_eq_false (p := 0 ≤ iAt ds 17 ∧ iAt ds 17 < (rAt ds 16).length) (by omega)]; simp
  · unfold askB; rw [decide_eq_false (p := 0 ≤ iAt ds 17 ∧ iAt ds 17 < (rAt ds 16).length) (by omega)]; simp
  · unfold askB; rw [hP]; simp
  have hA : (sheetL (sh13 ds) && askB ds) = true := by
    have : sheetL (sh13 ds) = true := hS
    unfold askB
    rw [this, hP, hK, hT, decide_eq_true (p := 0 ≤ iAt ds 17 ∧ iAt ds 17 < (rAt ds 16).length) ⟨k0, k1⟩]
    rfl
  clear Z1
  refine ⟨fun hp => Z 12 (by unfold legE plainB; rw [hA, if_pos rfl, decide_eq_false hp]; rfl) (by decide), fun hp => ⟨fun hd => Z 3 (by unfold legE; rw [hA, if_pos rfl]; unfold plainB; rw [decide_eq_true hp, if_pos rfl, if_neg (fun q => hd q.1)]) (by decide), fun hd => ?_⟩⟩
  have hd : durE (lgT ds) = 0 := Decidable.not_not.mp hd
  have eA : legE ds = if psgB (iAt ds 13) (iAt ds 14) (lgOff ds) (lgM ds) = true then (if deE (lgK ds (iAt ds 10)) = 0 then (if deR (lgK ds (iAt ds 10)) = true ∧ lgI ds = (rAt ds 12).length then 0 else 20) else deE (lgK ds (iAt ds 10))) else 3 := by
    unfold legE; rw [hA, if_pos rfl]; unfold plainB; rw [decide_eq_true hp, if_pos rfl]
    by_cases q : psgB (iAt ds 13) (iAt ds 14) (lgOff ds) (lgM ds) = true
    · rw [if_pos ⟨hd, q⟩, if_pos q]
    · rw [if_neg (fun x => q x.2), if_neg q]
  -- bounds
  have hDat : datB (iAt ds 3) (iAt ds 4) (iAt ds 5) (iAt ds 6) (iAt ds 7) (iAt ds 8) (iAt ds 9) = true := by
    have : sheetL (sh13 ds) = true := hS
    unfold sheetL at this
    simp only [Bool.and_eq_true] at this
    exact this.2.2.1
  unfold datB at hDat
  simp only [Bool.and_eq_true, decide_eq_true_eq] at hDat
  obtain ⟨_, _, hC, hF, hRes⟩ := hDat
  obtain ⟨_, _, p3, p4⟩ := psgB_iff hP
  have h4 := psg_leg4 hP
  have wl : ∀ i : Nat, i < (rAt ds 16).length → (IntKind.i64.wrap (lg (rAt ds 16) i 0 + iAt ds 5) = lg (rAt ds 16) i 0 + iAt ds 5 ∧ IntKind.i64.wrap (lg (rAt ds 16) i 1 + iAt ds 8) = lg (rAt ds 16) i 1 + iAt ds 8) ∧ IntKind.i64.wrap (lg (rAt ds 16) i 2 + iAt ds 5) = lg (rAt ds 16) i 2 + iAt ds 5 ∧ IntKind.i64.wrap (lg (rAt ds 16) i 3 + iAt ds 8) = lg (rAt ds 16) i 3 + iAt ds 8 := fun i hi => by
    obtain ⟨⟨l1, l2⟩, _, _, _⟩ := legB_iff.1 (p4 i hi)
    rw [placeB_iff] at l1 l2
    exact ⟨⟨wrap_in _ (by omega) (by omega), wrap_in _ (by omega) (by omega)⟩, wrap_in _ (by omega) (by omega), wrap_in _ (by omega) (by omega)⟩
  have wo : IntKind.i64.wrap (iAt ds 15 + IntKind.i64.wrap (2 * iAt ds 9)) = lgOff ds := by
    rw [wrap_in (2 * iAt ds 9) (by omega) (by omega), wrap_in _ (by omega) (by omega)]; rfl
  have eT : [D.i (iAt ds 13), .i (iAt ds 14), .i (iAt ds 15), .l (rAt ds 16), .i (iAt ds 17)] = lgT ds := rfl
  have eK : ∀ x, [D.i (iAt ds 18), .i (iAt ds 19), .l (rAt ds 20), .i (iAt ds 21), .i (iAt ds 22), .l (rAt ds 23), .i x, .i (lg (lgM ds) (iAt ds 17) 5), .i (durL (lgT ds)), .i (durH (lgT ds))] = lgK ds x := fun _ => rfl
  refine ⟨by omega, ?_⟩
  refine TT.sat_loop (fun v => ∃ i : Nat, v.i 0 = i ∧ i ≤ (rAt ds 16).length ∧ v.d 1 = mlN (rAt ds 16) (iAt ds 5) (iAt ds 8) i) (fun v => (rAt ds 16).length - (v.i 0).toNat) ⟨0, by simp [val_i, aget, E.ev], by omega, by simp only [val_d, aget, TT.sat_ret, TT.sat_ite, TT.sat_ob, TT.sat_next, TT.sat_stuck, put_i, put_b, put_d, put_fi, put_fb, put_fd, Ob.ok, B.ev, E.ev, X.ev, AL.ev, cmp_t, cmp_f, arEv, V.plain, V2.plain, S.plain, S0.plain, V.val, V2.val, S.val, S0.val, bV, iV, List.all_cons, List.all_nil, Bool.and_true, Bool.and_self, envOf_i, envOf_b, envOf_d, List.map_cons, List.map_nil, true_and, Bool.not_eq_true', Bool.not_eq_false', Bool.not_not, Bool.and_eq_true, and_f, cell_lg, cell_lb, cell_lr, cmpP, val_i, val_b, val_d, aget, Nat.reduceBEq, beq_self_eq_true, Bool.false_eq_true, if_true, if_false, Nat.reduceLT, Nat.reduceSub, Nat.sub_self, Nat.lt_irrefl]; rfl⟩ (fun v hv => ?_)
  obtain ⟨i, i0, i1, i2⟩ := hv
  simp only [TT.sat_ret, TT.sat_ite, TT.sat_ob, TT.sat_next, TT.sat_stuck, put_i, put_b, put_d, put_fi, put_fb, put_fd, Ob.ok, B.ev, E.ev, X.ev, AL.ev, cmp_t, cmp_f, arEv, V.plain, V2.plain, S.plain, S0.plain, V.val, V2.val, S.val, S0.val, bV, iV, List.all_cons, List.all_nil, Bool.and_true, Bool.and_self, envOf_i, envOf_b, envOf_d, List.map_cons, List.map_nil, true_and, Bool.not_eq_true', Bool.not_eq_false', Bool.not_not, Bool.and_eq_true, and_f, cell_lg, cell_lb, cell_lr, cmpP, val_i, val_b, val_d, aget, Nat.reduceBEq, beq_self_eq_true, Bool.false_eq_true, if_true, if_false, Nat.reduceLT, Nat.reduceSub, Nat.sub_self, Nat.lt_irrefl, i0, i2, mlN_len, updR_len, N5b20, psg_four, N5i171, N5b171, N5i24, N5i25, eT]
  refine ⟨fun hc => ?_, fun hc => ?_⟩
  · have hi : i < (rAt ds 16).length := by omega
    have e0 := mlN_rest (r := rAt ds 16) (s := iAt ds 5) (t := iAt ds 8) i i (Nat.le_refl _)
    obtain ⟨⟨w0, w1⟩, w2, w3⟩ := wl i hi
    rw [e0 0, e0 1, e0 2, e0 3, w0, w1, w2, w3, wrap_in ((i : Int) + 1) (by omega) (by omega)]
    exact ⟨by omega, by omega, by omega, by omega, by omega, by omega, ⟨i + 1, by omega, by omega, rfl⟩, by omega⟩
  · obtain rfl : i = (rAt ds 16).length := by omega
    have eM : mlN (rAt ds 16) (iAt ds 5) (iAt ds 8) (rAt ds 16).length = lgM ds := rfl
    rw [eM, wo]
    simp only [eK]
    refine ⟨fun h => Z 3 (by rw [eA, h]; rfl) (by decide), fun h => ⟨by omega, by omega, fun g => ?_, fun g => ⟨by omega, by omega, fun g2 => ?_, fun g2 => ?_⟩⟩⟩
    · refine Z _ (by rw [eA, if_pos h, if_neg g]) ?_
      unfold deE
      have := heE_3 (heD (lgK ds (iAt ds 10)))
      split
      · split <;> omega
      · omega
    all_goals
      have g := Decidable.not_not.mp g
      rw [if_pos h, if_pos g] at eA
    · rw [g2, if_neg (by simp)] at eA
      have : legR ds = 0 := by unfold legR; rw [if_neg (by rw [g2]; simp)]
      rw [eA, this]
    have eI : ∀ n : Nat, lgI ds = n → (n < (rAt ds 12).length → Value.tuple #[.int .i64 (lg (rAt ds 12) n 0), .int .i64 20] = Value.tuple #[.int .i64 (legR ds), .int .i64 (legE ds)]) ∧ (n = (rAt ds 12).length → Value.tuple #[.int .i64 0, .int .i64 0] = Value.tuple #[.int .i64 (legR ds), .int .i64 (legE ds)]) := fun n hn => by
      refine ⟨fun hl => ?_, fun hl => ?_⟩
      · have e20 : legE ds = 20 := by rw [eA, if_neg (by omega)]
        have : legR ds = lg (rAt ds 12) n 0 := by unfold legR; rw [if_pos ⟨e20, g2⟩, hn]
        rw [e20, this]
      · have e0 : legE ds = 0 := by rw [eA, if_pos ⟨g2, by omega⟩]
        exact Z 0 e0 (by decide)
    clear Z eA wl
    refine TT.sat_loop (fun v => ∃ j : Nat, v.i 0 = j ∧ j ≤ (rAt ds 12).length ∧ lgFirst ds ((rAt ds 12).length - j) j = lgI ds) (fun v => (rAt ds 12).length - (v.i 0).toNat) ⟨0, by simp [val_i, aget, E.ev], by omega, rfl⟩ (fun u hu => ?_)
    obtain ⟨j, j0, j1, j2⟩ := hu
    have eN : [D.i (iAt ds 13), .i (iAt ds 14), .i (lgOff ds), .l (lgM ds), .i (iAt ds 17), .i (lg (rAt ds 12) j 0), .i (lg (rAt ds 12) j 1), .i (lg (rAt ds 12) j 2), .i (lg (rAt ds 12) j 3), .i (lg (rAt ds 12) j 4), .l (lr (rAt ds 12) j 5), .i (lg (rAt ds 12) j 6), .i (lg (rAt ds 12) j 7), .l (lr (rAt ds 12) j 8)] = lgN ds j := rfl
    have hMl : (lgM ds).length = (rAt ds 16).length := mvLegs_len
    simp only [TT.sat_ret, TT.sat_ite, TT.sat_ob, TT.sat_next, TT.sat_stuck, put_i, put_b, put_d, put_fi, put_fb, put_fd, Ob.ok, B.ev, E.ev, X.ev, AL.ev, cmp_t, cmp_f, arEv, V.plain, V2.plain, S.plain, S0.plain, V.val, V2.val, S.val, S0.val, bV, iV, List.all_cons, List.all_nil, Bool.and_true, Bool.and_self, envOf_i, envOf_b, envOf_d, List.map_cons, List.map_nil, true_and, Bool.not_eq_true', Bool.not_eq_false', Bool.not_not, Bool.and_eq_true, and_f, cell_lg, cell_lb, cell_lr, cmpP, val_i, val_b, val_d, aget, Nat.reduceBEq, beq_self_eq_true, Bool.false_eq_true, if_true, if_false, Nat.reduceLT, Nat.reduceSub, Nat.sub_self, Nat.lt_irrefl, j0, i2, eM, wo, N5b77, N5i77, N5i171, N5b171, N5i24, N5i25, eT, eK, eN]
    refine ⟨fun hc2 => ?_, fun hc2 => ?_⟩
    · have hj : j < (rAt ds 12).length := by omega
      obtain ⟨f, hf⟩ : ∃ f, (rAt ds 12).length - j = f + 1 := ⟨(rAt ds 12).length - j - 1, by omega⟩
      have hf' : (rAt ds 12).length - (j + 1) = f := by omega
      rw [hf, lgFirst] at j2
      have yes : lgF ds j = true → Value.tuple #[.int .i64 (lg (rAt ds 12) j 0), .int .i64 20] = Value.tuple #[.int .i64 (legR ds), .int .i64 (legE ds)] := fun q => (eI j (by rw [← j2, if_pos q])).1 hj
      rw [wrap_in ((j : Int) + 1) (by omega) (by omega)]
      have no : lgF ds j = false → (∃ i : Nat, (j : Int) + 1 = i ∧ i ≤ (rAt ds 12).length ∧ lgFirst ds ((rAt ds 12).length - i) i = lgI ds) ∧ (rAt ds 12).length - ((j : Int) + 1).toNat < (rAt ds 12).length - (j : Int).toNat := fun q => ⟨⟨j + 1, rfl, by omega, by rw [hf', ← j2, q]; rfl⟩, by omega⟩
      have eF : lgF ds j = (decide (nearPE (lgN ds j) = 0) && (nearPR (lgN ds j) && (decide (lg (rAt ds 12) j 1 = 6) || (!decide (deE (lgK ds (lg (rAt ds 12) j 6)) = 0) || !deR (lgK ds (lg (rAt ds 12) j 6)))))) := rfl
      refine ⟨by omega, hc2, fun a => no ?_, fun a => ⟨fun b => no ?_, fun b => ⟨k0, by omega, fun c => ⟨fun _ => ⟨by omega, hc2, yes ?_⟩, fun q => absurd q (by omega)⟩, fun c => ⟨fun d => ⟨fun _ => ⟨by omega, hc2, yes ?_⟩, fun q => absurd q (by omega)⟩, fun d => ⟨fun e => ⟨fun _ => ⟨by omega, hc2, yes ?_⟩, fun q => absurd q (by omega)⟩, fun e => no ?_⟩⟩⟩⟩⟩
      · rw [eF, decide_eq_false a]; rfl
      all_goals
        have a := Decidable.not_not.mp a
        rw [eF, decide_eq_true a, b]
      · rfl
      · rw [decide_eq_true c]; rfl
      · rw [decide_eq_false d]; simp
      · rw [e]; simp
      · have d := Decidable.not_not.mp d
        rw [decide_eq_false c, decide_eq_true d, e]; rfl
    · have h0 : (rAt ds 12).length - j = 0 := by omega
      rw [h0, lgFirst] at j2
      exact (eI j j2.symm).2 (by omega)
def N6 : Interp where
  fi n l := match n with | 190 => legR l | 191 => legE l | n => N5.fi n l
  fb n l := N5.fb n l
  fd _ _ := []
theorem N6_N5 {ρ : Env} (h : Sees ρ N6 200) : Sees ρ N5 190 := h.trans (by decide) fun n l hn => by
  refine ⟨?_, ?_⟩
  ·
    simp only [N6]
    split <;> first | omega | rfl
  ·
    rfl
def cLeg := ctD [shee, psg, it, shp, tid] fun al => .ret (.tup [.one (sIF 190 legR al), .one (sIF 191 legE al)])
theorem cLeg_ok {ρ : Env} (h : Sees ρ N6 200) : CtOne Tryz.prog ρ 18 cLeg :=
  ctD_ok gLeg (fun _ => rfl) (fun al => by simp only [V.val, V2.val, S.val, S0.val, sIF, sBF, List.map_cons, List.map_nil, iF_ev (s := 190) (f := legR) (fun l => by rw [(h 190 l (by decide)).1]; simp only [N6, N5, N4, N3, N2, N1, KG, KF, KE, KD, KC, KB, KA, K9, K8, K7, K6, K5, K]), iF_ev (s := 191) (f := legE) (fun l => by rw [(h 191 l (by decide)).1]; simp only [N6, N5, N4, N3, N2, N1, KG, KF, KE, KD, KC, KB, KA, K9, K8, K7, K6, K5, K])]; try rfl)
def ctN7 : Ct := (18, cLeg) :: ctN6
theorem ctN7_ok {ρ : Env} (h : Sees ρ N6 200) : CtOk Tryz.prog ρ ctN7 := .cons (cLeg_ok h) <| .cons cCloneLeg_ok (ctN5_ok (N6_N5 h))
end Go.Proofs.YtkjjkckcjgkhmaaGreat
