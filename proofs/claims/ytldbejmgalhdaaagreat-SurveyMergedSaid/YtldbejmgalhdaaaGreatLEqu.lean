/- LEqu, merged: TVx, Vx, TVy, Vy. -/
import Derived.Test.YtldbejmgalhdaaaGreatLLea
import Derived.Test.YtldbejmgalhdaaaGreatLMod
set_option linter.unusedSimpArgs false
set_option linter.unusedVariables false
/- Chapter 09: trees of the reference's comparisons. -/
namespace Go.Proofs.YtldbejmgalhdaaaGreat
open Go.RowKit
def idl : Sh := .one (.sl [.int .i64])
def prl : Sh := .one (.sl [.int .i64, .int .i64])
def trR9Ints : TT OpR :=
(.ite (.cmp .neq (.len (.var 0)) (.len (.var 1)))
 (.ret ((.v (.one (.z (.bool (.lit false))))), [], 0))
 (.loop 0 1000 ⟨[(0, (.lit 0))], [], []⟩
 (.ite (.cmp .lss (.var 1000) (.len (.var 0)))
 (.ob (.tru (.cmp .leq (.lit 0) (.var 1000)))
 (.ob (.tru (.cmp .lss (.var 1000) (.len (.var 0))))
 (.ob (.tru (.cmp .leq (.lit 0) (.var 1000)))
 (.ob (.tru (.cmp .lss (.var 1000) (.len (.var 1))))
 (.ite (.cmp .neq (.rd (.var 0) (.var 1000) 0) (.rd (.var 1) (.var 1000) 0))
 (.ret ((.v (.one (.z (.bool (.lit false))))), [], 1))
 (.next 0 ⟨[(0, (.ar .add .i64 (.var 1000) (.lit 1)))], [], []⟩))))))
 (.ret ((.v (.one (.z (.bool (.lit true))))), [], 1)))))
set_option maxRecDepth 100000 in
theorem trR9Ints_is : T.norm 0 (call Tryz.prog ctV5 (Lt.of []) 150 17 (symArgs 0 [idl, idl]) [] 0) TT.ret = trR9Ints := by kernel_rfl
theorem trR9Ints_low : trR9Ints.low 1000 = true := by kernel_rfl
def trR9Pairs : TT OpR :=
(.ite (.cmp .neq (.len (.var 0)) (.len (.var 1)))
 (.ret ((.v (.one (.z (.bool (.lit false))))), [], 0))
 (.loop 0 1000 ⟨[(0, (.lit 0))], [], []⟩
 (.ite (.cmp .lss (.var 1000) (.len (.var 0)))
 (.ob (.tru (.cmp .leq (.lit 0) (.var 1000)))
 (.ob (.tru (.cmp .lss (.var 1000) (.len (.var 0))))
 (.ob (.tru (.cmp .leq (.lit 0) (.var 1000)))
 (.ob (.tru (.cmp .lss (.var 1000) (.len (.var 1))))
 (.ite (.not (.and (.cmp .eql (.rd (.var 0) (.var 1000) 0) (.rd (.var 1) (.var 1000) 0)) (.cmp .eql (.rd (.var 0) (.var 1000) 1) (.rd (.var 1) (.var 1000) 1))))
 (.ret ((.v (.one (.z (.bool (.lit false))))), [], 1))
 (.next 0 ⟨[(0, (.ar .add .i64 (.var 1000) (.lit 1)))], [], []⟩))))))
 (.ret ((.v (.one (.z (.bool (.lit true))))), [], 1)))))
set_option maxRecDepth 100000 in
theorem trR9Pairs_is : T.norm 0 (call Tryz.prog ctV5 (Lt.of []) 150 27 (symArgs 0 [prl, prl]) [] 0) TT.ret = trR9Pairs := by kernel_rfl
theorem trR9Pairs_low : trR9Pairs.low 1000 = true := by kernel_rfl
def trR7Same : TT OpR :=
(.ite (.cmp .neq (.var 0) (.var 9))
 (.ret ((.v (.one (.z (.bool (.lit false))))), [], 2))
 (.ite (.cmp .neq (.var 1) (.var 10))
 (.ret ((.v (.one (.z (.bool (.lit false))))), [], 2))
 (.ite (.not (.and (.cmp .eql (.var 2) (.var 11)) (.cmp .eql (.var 3) (.var 12))))
 (.ret ((.v (.one (.z (.bool (.lit false))))), [], 2))
 (.ite (.cmp .neq (.var 4) (.var 13))
 (.ret ((.v (.one (.z (.bool (.lit false))))), [], 2))
 (.ite (.cmp .neq (.var 6) (.var 15))
 (.ret ((.v (.one (.z (.bool (.lit false))))), [], 2))
 (.ite (.cmp .neq (.var 7) (.var 16))
 (.ret ((.v (.one (.z (.bool (.lit false))))), [], 2))
 (.ite (.cmp .neq (.len (.var 5)) (.len (.var 14)))
 (.ret ((.v (.one (.z (.bool (.lit false))))), [], 2))
 (.loop 0 3000 ⟨[(0, (.lit 0))], [], []⟩
 (.ite (.cmp .lss (.var 3000) (.len (.var 5)))
 (.ob (.tru (.cmp .leq (.lit 0) (.var 3000)))
 (.ob (.tru (.cmp .lss (.var 3000) (.len (.var 5))))
 (.ob (.tru (.cmp .leq (.lit 0) (.var 3000)))
 (.ob (.tru (.cmp .lss (.var 3000) (.len (.var 14))))
 (.ite (.not (.and (.cmp .eql (.rd (.var 5) (.var 3000) 0) (.rd (.var 14) (.var 3000) 0)) (.cmp .eql (.rd (.var 5) (.var 3000) 1) (.rd (.var 14) (.var 3000) 1))))
 (.ret ((.v (.one (.z (.bool (.lit false))))), [], 3))
 (.next 0 ⟨[(0, (.ar .add .i64 (.var 3000) (.lit 1)))], [], []⟩))))))
 (.ite (.cmp .neq (.len (.var 8)) (.len (.var 17)))
 (.ret ((.v (.one (.z (.bool (.lit false))))), [], 3))
 (.loop 1 4000 ⟨[(0, (.lit 0))], [], []⟩
 (.ite (.cmp .lss (.var 4000) (.len (.var 8)))
 (.ob (.tru (.cmp .leq (.lit 0) (.var 4000)))
 (.ob (.tru (.cmp .lss (.var 4000) (.len (.var 8))))
 (.ob (.tru (.cmp .leq (.lit 0) (.var 4000)))
 (.ob (.tru (.cmp .lss (.var 4000) (.len (.var 17))))
 (.ite (.not (.and (.and (.cmp .eql (.rd (.var 8) (.var 4000) 0) (.rd (.var 17) (.var 4000) 0)) (.cmp .eql (.rd (.var 8) (.var 4000) 1) (.rd (.var 17) (.var 4000) 1))) (.and (.and (.cmp .eql (.rd (.var 8) (.var 4000) 2) (.rd (.var 17) (.var 4000) 2)) (.cmp .eql (.rd (.var 8) (.var 4000) 3) (.rd (.var 17) (.var 4000) 3))) (.and (.cmp .eql (.rd (.var 8) (.var 4000) 4) (.rd (.var 17) (.var 4000) 4)) (.cmp .eql (.rd (.var 8) (.var 4000) 5) (.rd (.var 17) (.var 4000) 5))))))
 (.ret ((.v (.one (.z (.bool (.lit false))))), [], 4))
 (.next 1 ⟨[(0, (.ar .add .i64 (.var 4000) (.lit 1)))], [], []⟩))))))
 (.ret ((.v (.one (.z (.bool (.lit true))))), [], 4))))))))))))))
set_option maxRecDepth 100000 in
theorem trR7Same_is : T.norm 0 (call Tryz.prog ctV5 (Lt.of []) 150 51 (symArgs 0 [feat, feat]) [] 0) TT.ret = trR7Same := by kernel_rfl
theorem trR7Same_low : trR7Same.low 1000 = true := by kernel_rfl
end Go.Proofs.YtldbejmgalhdaaaGreat
/- Chapter 09: the reference's comparisons: feature Same, Ints and Pairs of equal lists. -/
namespace Go.Proofs.YtldbejmgalhdaaaGreat
open Go.RowKit
set_option maxHeartbeats 1000000 in
theorem gR7Same : Gives Tryz.prog 51 [feat, feat] (fun ds => .bool (sameL ds)) := by
  refine GivesIf.all (fn_gives KVe (by kernel_rfl) (fun ρ h => ctV5_ok (Sees.of h 190) (SeesD.of h 4)) (by kernel_rfl) trR7Same_is trR7Same_low (by decide) (fun W vals ds hr _ => ?_))
  obtain ⟨⟨n5, n8⟩, n14, n17⟩ := rows_len W vals ds _ hr
  simp only [trR7Same, TT.sat_ret, TT.sat_ite, TT.sat_ob, TT.sat_next, TT.sat_stuck, put_i, put_b, put_d, put_fi, put_fb, put_fd, Ob.ok, B.ev, E.ev, X.ev, AL.ev, cmp_t, cmp_f, arEv, V.plain, V2.plain, S.plain, S0.plain, V.val, V2.val, S.val, S0.val, bV, iV, List.all_cons, List.all_nil, Bool.and_true, Bool.and_self, envOf_i, envOf_b, envOf_d, List.map_cons, List.map_nil, true_and, Bool.not_eq_true', Bool.not_eq_false', Bool.not_not, Bool.and_eq_true, and_f, cell_lg, cell_lb, cell_lr, cmpP, val_i, val_b, val_d, aget, Nat.reduceBEq, beq_self_eq_true, Bool.false_eq_true, if_true, if_false, Nat.reduceLT, Nat.reduceSub, Nat.sub_self, Nat.lt_irrefl]
  have F : ∀ b, sameL ds = b → Value.bool b = Value.bool (sameL ds) := fun b h => by rw [h]
  have N : ¬ ((iAt ds 0 = iAt ds 9 ∧ iAt ds 1 = iAt ds 10 ∧ iAt ds 2 = iAt ds 11 ∧ iAt ds 3 = iAt ds 12) ∧ iAt ds 4 = iAt ds 13 ∧ iAt ds 6 = iAt ds 15 ∧ iAt ds 7 = iAt ds 16) → Value.bool false = Value.bool (sameL ds) := fun h => F _ (by rw [sameL, sameB, decide_eq_false h, Bool.false_and])
  refine ⟨fun h => N (by omega), fun h0 => ⟨fun h => N (by omega), fun h1 => ⟨fun h => N (by omega), fun h2 => ⟨fun h => N (by omega), fun h3 => ⟨fun h => N (by omega), fun h4 => ⟨fun h => N (by omega), fun h5 => ?_⟩⟩⟩⟩⟩⟩
  have hS : sameL ds = (eqX 2 (rAt ds 5) (rAt ds 14) && eqX 6 (rAt ds 8) (rAt ds 17)) := by
    rw [sameL, sameB, decide_eq_true (by omega), Bool.true_and]
  rw [hS]
  clear N F hS hr
  generalize e5 : rAt ds 5 = a at *
  generalize e14 : rAt ds 14 = b at *
  generalize e8 : rAt ds 8 = s at *
  generalize e17 : rAt ds 17 = t at *
  refine ⟨fun h => ?_, fun h => ?_⟩
  · rw [eqX, decide_eq_false (by omega)]; rfl
  have hab : a.length = b.length := by omega
  have hX : eqX 2 a b = eqN 2 a b a.length 0 := by rw [eqX, decide_eq_true hab]; rfl
  rw [hX]
  refine TT.sat_loop (fun v => ∃ i : Nat, v.i 0 = i ∧ i ≤ a.length ∧ eqN 2 a b (a.length - i) i = eqN 2 a b a.length 0) (fun v => a.length - (v.i 0).toNat)
    ⟨0, by simp [val_i, aget, E.ev], by omega, rfl⟩ (fun v hv => ?_)
  obtain ⟨i, i0, i1, i2⟩ := hv
  simp only [TT.sat_ret, TT.sat_ite, TT.sat_ob, TT.sat_next, TT.sat_stuck, put_i, put_b, put_d, put_fi, put_fb, put_fd, Ob.ok, B.ev, E.ev, X.ev, AL.ev, cmp_t, cmp_f, arEv, V.plain, V2.plain, S.plain, S0.plain, V.val, V2.val, S.val, S0.val, bV, iV, List.all_cons, List.all_nil, Bool.and_true, Bool.and_self, envOf_i, envOf_b, envOf_d, List.map_cons, List.map_nil, true_and, Bool.not_eq_true', Bool.not_eq_false', Bool.not_not, Bool.and_eq_true, and_f, cell_lg, cell_lb, cell_lr, cmpP, val_i, val_b, val_d, aget, Nat.reduceBEq, beq_self_eq_true, Bool.false_eq_true, if_true, if_false, Nat.reduceLT, Nat.reduceSub, Nat.sub_self, Nat.lt_irrefl, i0, e5, e14, e8, e17]
  refine ⟨fun hc => ?_, fun hc => ?_⟩
  · have hi : i < a.length := by omega
    obtain ⟨f, hf⟩ : ∃ f, a.length - i = f + 1 := ⟨a.length - i - 1, by omega⟩
    have hf' : a.length - (i + 1) = f := by omega
    rw [hf, eqN] at i2
    rw [wrap_in ((i : Int) + 1) (by omega) (by omega)]
    refine ⟨by omega, by omega, by omega, by omega, fun q => ?_, fun q => ⟨⟨i + 1, rfl, by omega, ?_⟩, by omega⟩⟩
    · rw [← i2, show eqC a b i 2 = false by rw [← Bool.not_eq_true, eqC_iff]; exact fun g => q ⟨g 0 (by omega), g 1 (by omega)⟩]; rfl
    · rw [hf', ← i2, show eqC a b i 2 = true by
        simp only [eqC, decide_eq_true_eq, Bool.and_eq_true, Bool.true_and]
        exact q]; rfl
  · have h0 : a.length - i = 0 := by omega
    rw [h0, eqN] at i2
    rw [← i2, Bool.true_and]
    refine ⟨fun h => ?_, fun h => ?_⟩
    · rw [eqX, decide_eq_false (by omega)]; rfl
    have hst : s.length = t.length := by omega
    have hX : eqX 6 s t = eqN 6 s t s.length 0 := by rw [eqX, decide_eq_true hst]; rfl
    rw [hX]
    refine TT.sat_loop (fun v => ∃ i : Nat, v.i 0 = i ∧ i ≤ s.length ∧ eqN 6 s t (s.length - i) i = eqN 6 s t s.length 0) (fun v => s.length - (v.i 0).toNat)
      ⟨0, by simp [val_i, aget, E.ev], by omega, rfl⟩ (fun u hu => ?_)
    obtain ⟨j, j0, j1, j2⟩ := hu
    simp only [TT.sat_ret, TT.sat_ite, TT.sat_ob, TT.sat_next, TT.sat_stuck, put_i, put_b, put_d, put_fi, put_fb, put_fd, Ob.ok, B.ev, E.ev, X.ev, AL.ev, cmp_t, cmp_f, arEv, V.plain, V2.plain, S.plain, S0.plain, V.val, V2.val, S.val, S0.val, bV, iV, List.all_cons, List.all_nil, Bool.and_true, Bool.and_self, envOf_i, envOf_b, envOf_d, List.map_cons, List.map_nil, true_and, Bool.not_eq_true', Bool.not_eq_false', Bool.not_not, Bool.and_eq_true, and_f, cell_lg, cell_lb, cell_lr, cmpP, val_i, val_b, val_d, aget, Nat.reduceBEq, beq_self_eq_true, Bool.false_eq_true, if_true, if_false, Nat.reduceLT, Nat.reduceSub, Nat.sub_self, Nat.lt_irrefl, j0, e5, e14, e8, e17]
    refine ⟨fun hc => ?_, fun hc => ?_⟩
    · have hj : j < s.length := by omega
      obtain ⟨f, hf⟩ : ∃ f, s.length - j = f + 1 := ⟨s.length - j - 1, by omega⟩
      have hf' : s.length - (j + 1) = f := by omega
      rw [hf, eqN] at j2
      rw [wrap_in ((j : Int) + 1) (by omega) (by omega)]
      refine ⟨by omega, by omega, by omega, by omega, fun q => ?_, fun q => ⟨⟨j + 1, rfl, by omega, ?_⟩, by omega⟩⟩
      · rw [← j2, show eqC s t j 6 = false by rw [← Bool.not_eq_true, eqC_iff]; exact fun g => q ⟨⟨g 0 (by omega), g 1 (by omega)⟩, ⟨g 2 (by omega), g 3 (by omega)⟩, g 4 (by omega), g 5 (by omega)⟩]; rfl
      · rw [hf', ← j2, show eqC s t j 6 = true by
          simp only [eqC, decide_eq_true_eq, Bool.and_eq_true, Bool.true_and]
          omega]; rfl
    · have h0 : s.length - j = 0 := by omega
      rw [h0, eqN] at j2
      rw [← j2]
/-! Equal data, as a truth value -/
mutual
def D.eqb : D → D → Bool
  | .i a, b => match b with | .i c => decide (a = c) | _ => false
  | .b a, b => match b with | .b c => a == c | _ => false
  | .l a, b => match b with | .l c => rowsEqb a c | _ => false
def rowsEqb : List (List D) → List (List D) → Bool
  | [], b => match b with | [] => true | _ => false
  | r :: a, b => match b with | r' :: b' => rowEqb r r' && rowsEqb a b' | _ => false
def rowEqb : List D → List D → Bool
  | [], b => match b with | [] => true | _ => false
  | d :: a, b => match b with | d' :: b' => D.eqb d d' && rowEqb a b' | _ => false
end
mutual
theorem D.eqb_eq : ∀ (a b : D), D.eqb a b = true → a = b
  | .i a, b, h => by cases b <;> simp [D.eqb] at h; rw [h]
  | .b a, b, h => by cases b <;> simp [D.eqb] at h; rw [h]
  | .l a, b, h => by cases b <;> simp [D.eqb] at h; rw [rowsEqb_eq _ _ h]
theorem rowsEqb_eq : ∀ (a b : List (List D)), rowsEqb a b = true → a = b
  | [], b, h => by cases b <;> simp [rowsEqb] at h; rfl
  | r :: a, b, h => by cases b <;> simp [rowsEqb] at h; rw [rowEqb_eq _ _ h.1, rowsEqb_eq _ _ h.2]
theorem rowEqb_eq : ∀ (a b : List D), rowEqb a b = true → a = b
  | [], b, h => by cases b <;> simp [rowEqb] at h; rfl
  | r :: a, b, h => by cases b <;> simp [rowEqb] at h; rw [D.eqb_eq _ _ h.1, rowEqb_eq _ _ h.2]
end
mutual
theorem D.eqb_self : ∀ (a : D), D.eqb a a = true
  | .i a => by simp [D.eqb]
  | .b a => by simp [D.eqb]
  | .l a => by simp [D.eqb, rowsEqb_self a]
theorem rowsEqb_self : ∀ (a : List (List D)), rowsEqb a a = true
  | [] => by simp [rowsEqb]
  | r :: a => by simp [rowsEqb, rowEqb_self r, rowsEqb_self a]
theorem rowEqb_self : ∀ (a : List D), rowEqb a a = true
  | [] => by simp [rowEqb]
  | r :: a => by simp [rowEqb, D.eqb_self r, rowEqb_self a]
end
def eqLL (ds : List D) : Bool := rowsEqb (rAt ds 0) (rAt ds 1)
theorem eqLL_two (a b : Rows) : eqLL [.l a, .l b] = rowsEqb a b := rfl
theorem one_len {W : World} {vals : List Value} {ds : List D} {ks : List CK} {sh : List Sh} (h : repSh W (.one (.sl ks) :: sh) vals ds) : (rAt ds 0).length ≤ 281474976710656 := by
  obtain ⟨v, vs', d, ds', rfl, rfl, ⟨d, rfl, h⟩, _⟩ := h
  rw [rep_sl] at h
  obtain ⟨r, rfl, a, n, c, _, hs, _⟩ := h
  have e1 := hs.len
  have e2 := hs.big
  show r.length ≤ _
  omega
theorem gR9Ints : GivesIf Tryz.prog 17 [idl, idl] (fun ds => eqLL ds = true) (fun _ => .bool true) := by
  refine fn_gives KVe (by kernel_rfl) (fun ρ h => ctV5_ok (Sees.of h 190) (SeesD.of h 4)) (by kernel_rfl) trR9Ints_is trR9Ints_low (by decide) (fun W vals ds hr hok => ?_)
  have hl := one_len hr
  have e1 := rowsEqb_eq _ _ hok
  simp only [trR9Ints, TT.sat_ret, TT.sat_ite, TT.sat_ob, TT.sat_next, TT.sat_stuck, put_i, put_b, put_d, put_fi, put_fb, put_fd, Ob.ok, B.ev, E.ev, X.ev, AL.ev, cmp_t, cmp_f, arEv, V.plain, V2.plain, S.plain, S0.plain, V.val, V2.val, S.val, S0.val, bV, iV, List.all_cons, List.all_nil, Bool.and_true, Bool.and_self, envOf_i, envOf_b, envOf_d, List.map_cons, List.map_nil, true_and, Bool.not_eq_true', Bool.not_eq_false', Bool.not_not, Bool.and_eq_true, and_f, cell_lg, cell_lb, cell_lr, cmpP, val_i, val_b, val_d, aget, Nat.reduceBEq, beq_self_eq_true, Bool.false_eq_true, if_true, if_false, Nat.reduceLT, Nat.reduceSub, Nat.sub_self, Nat.lt_irrefl, ← e1]
  clear hr hok
  generalize e0 : rAt ds 0 = r at *
  refine ⟨fun h => absurd rfl h, fun _ => ?_⟩
  refine TT.sat_loop (fun v => ∃ i : Nat, v.i 0 = i ∧ i ≤ r.length) (fun v => r.length - (v.i 0).toNat) ⟨0, by simp [val_i, aget, E.ev], by omega⟩ (fun v hv => ?_)
  obtain ⟨i, i0, i1⟩ := hv
  simp only [TT.sat_ret, TT.sat_ite, TT.sat_ob, TT.sat_next, TT.sat_stuck, put_i, put_b, put_d, put_fi, put_fb, put_fd, Ob.ok, B.ev, E.ev, X.ev, AL.ev, cmp_t, cmp_f, arEv, V.plain, V2.plain, S.plain, S0.plain, V.val, V2.val, S.val, S0.val, bV, iV, List.all_cons, List.all_nil, Bool.and_true, Bool.and_self, envOf_i, envOf_b, envOf_d, List.map_cons, List.map_nil, true_and, Bool.not_eq_true', Bool.not_eq_false', Bool.not_not, Bool.and_eq_true, and_f, cell_lg, cell_lb, cell_lr, cmpP, val_i, val_b, val_d, aget, Nat.reduceBEq, beq_self_eq_true, Bool.false_eq_true, if_true, if_false, Nat.reduceLT, Nat.reduceSub, Nat.sub_self, Nat.lt_irrefl, i0, e0, ← e1]
  refine ⟨fun hc => ?_, fun _ => trivial⟩
  rw [wrap_in ((i : Int) + 1) (by omega) (by omega)]
  exact ⟨by omega, by omega, by omega, by omega, fun h => absurd rfl h, fun _ => ⟨⟨i + 1, rfl, by omega⟩, by omega⟩⟩
theorem gR9Pairs : GivesIf Tryz.prog 27 [prl, prl] (fun ds => eqLL ds = true) (fun _ => .bool true) := by
  refine fn_gives KVe (by kernel_rfl) (fun ρ h => ctV5_ok (Sees.of h 190) (SeesD.of h 4)) (by kernel_rfl) trR9Pairs_is trR9Pairs_low (by decide) (fun W vals ds hr hok => ?_)
  have hl := one_len hr
  have e1 := rowsEqb_eq _ _ hok
  simp only [trR9Pairs, TT.sat_ret, TT.sat_ite, TT.sat_ob, TT.sat_next, TT.sat_stuck, put_i, put_b, put_d, put_fi, put_fb, put_fd, Ob.ok, B.ev, E.ev, X.ev, AL.ev, cmp_t, cmp_f, arEv, V.plain, V2.plain, S.plain, S0.plain, V.val, V2.val, S.val, S0.val, bV, iV, List.all_cons, List.all_nil, Bool.and_true, Bool.and_self, envOf_i, envOf_b, envOf_d, List.map_cons, List.map_nil, true_and, Bool.not_eq_true', Bool.not_eq_false', Bool.not_not, Bool.and_eq_true, and_f, cell_lg, cell_lb, cell_lr, cmpP, val_i, val_b, val_d, aget, Nat.reduceBEq, beq_self_eq_true, Bool.false_eq_true, if_true, if_false, Nat.reduceLT, Nat.reduceSub, Nat.sub_self, Nat.lt_irrefl, ← e1]
  clear hr hok
  generalize e0 : rAt ds 0 = r at *
  refine ⟨fun h => absurd rfl h, fun _ => ?_⟩
  refine TT.sat_loop (fun v => ∃ i : Nat, v.i 0 = i ∧ i ≤ r.length) (fun v => r.length - (v.i 0).toNat) ⟨0, by simp [val_i, aget, E.ev], by omega⟩ (fun v hv => ?_)
  obtain ⟨i, i0, i1⟩ := hv
  simp only [TT.sat_ret, TT.sat_ite, TT.sat_ob, TT.sat_next, TT.sat_stuck, put_i, put_b, put_d, put_fi, put_fb, put_fd, Ob.ok, B.ev, E.ev, X.ev, AL.ev, cmp_t, cmp_f, arEv, V.plain, V2.plain, S.plain, S0.plain, V.val, V2.val, S.val, S0.val, bV, iV, List.all_cons, List.all_nil, Bool.and_true, Bool.and_self, envOf_i, envOf_b, envOf_d, List.map_cons, List.map_nil, true_and, Bool.not_eq_true', Bool.not_eq_false', Bool.not_not, Bool.and_eq_true, and_f, cell_lg, cell_lb, cell_lr, cmpP, val_i, val_b, val_d, aget, Nat.reduceBEq, beq_self_eq_true, Bool.false_eq_true, if_true, if_false, Nat.reduceLT, Nat.reduceSub, Nat.sub_self, Nat.lt_irrefl, i0, e0, ← e1]
  refine ⟨fun hc => ?_, fun _ => trivial⟩
  rw [wrap_in ((i : Int) + 1) (by omega) (by omega)]
  exact ⟨by omega, by omega, by omega, by omega, fun h => absurd trivial h, fun _ => ⟨⟨i + 1, rfl, by omega⟩, by omega⟩⟩
def KVf : Interp where
  fi n l := KVe.fi n l
  fb n l := match n with | 190 => eqLL l | n => KVe.fb n l
  fd n l := KVe.fd n l
theorem KVf_KVed {ρ : Env} (h : SeesD ρ KVf 4) : SeesD ρ KVe 4 := fun n l hn => by
  rw [h n l (by omega)]
  rfl
theorem KVf_KVe {ρ : Env} (h : Sees ρ KVf 200) : Sees ρ KVe 190 := h.trans (by decide) fun n l hn => by
  refine ⟨?_, ?_⟩
  ·
    rfl
  ·
    simp only [KVf]
    split <;> first | omega | rfl
def cR7SameV := ctD [feat, feat] fun al => .ret (bV (bF 129 sameL al))
theorem cR7SameV_ok {ρ : Env} (h : Sees ρ K79 132) : CtOne Tryz.prog ρ 51 cR7SameV :=
  ctD_ok gR7Same (fun _ => rfl) (fun al => by simp only [iV, bV, V.s0, V.val, V2.val, S.val, S0.val, bF_ev (s := 129) (f := sameL) (fun l => by rw [(h 129 l (by decide)).2]; simp only [K79])]; try rfl)
def ctEq (sh : List Sh) := ctD sh fun al => .ob (.tru (.fn 190 al)) (.ret (bV (.lit true)))
theorem ctEq_ok {ρ : Env} (h : Sees ρ KVf 200) {f : FuncId} {sh : List Sh} (g : GivesIf Tryz.prog f sh (fun ds => eqLL ds = true) (fun _ => .bool true)) : CtOne Tryz.prog ρ f (ctEq sh) := by
  refine ctD_if g (fun al v hv => ?_)
  obtain ⟨ho, hv⟩ := hv
  obtain rfl := res_ret hv
  refine ⟨rfl, ?_, rfl⟩
  have h1 : (B.fn 190 al).ev ρ = true := ho
  simp only [B.ev] at h1
  rw [(h 190 _ (by decide)).2] at h1
  simp only [KVf] at h1
  exact h1
def ctV6 : Ct := (51, cR7SameV) :: (17, ctEq [idl, idl]) :: (27, ctEq [prl, prl]) :: ctV5
theorem KVf_K79 {ρ : Env} (h : Sees ρ KVf 200) : Sees ρ K79 132 := K80_K79 (KVa_K80 (KVb_KVa (KVc_KVb (KVd_KVc (KVe_KVd (KVf_KVe h))))))
theorem ctV6_ok {ρ : Env} (h : Sees ρ KVf 200) (hd : SeesD ρ KVf 4) : CtOk Tryz.prog ρ ctV6 := .cons (cR7SameV_ok (KVf_K79 h)) <| .cons (ctEq_ok h gR9Ints) <| .cons (ctEq_ok h gR9Pairs) <| ctV5_ok (KVf_KVe h) (KVf_KVed hd)
end Go.Proofs.YtldbejmgalhdaaaGreat
/- Chapter 09: the tree of the reference's SameList. -/
namespace Go.Proofs.YtldbejmgalhdaaaGreat
open Go.RowKit
def trR7SL : TT OpR :=
(.ite (.cmp .neq (.len (.var 0)) (.len (.var 1)))
 (.ret ((.v (.one (.z (.bool (.lit false))))), [], 0))
 (.loop 0 1000 ⟨[(0, (.lit 0))], [], []⟩
 (.ite (.cmp .lss (.var 1000) (.len (.var 0)))
 (.ob (.tru (.cmp .leq (.lit 0) (.var 1000)))
 (.ob (.tru (.cmp .lss (.var 1000) (.len (.var 0))))
 (.ob (.tru (.cmp .leq (.lit 0) (.var 1000)))
 (.ob (.tru (.cmp .lss (.var 1000) (.len (.var 1))))
 (.ite (.not (.fn 129 (.i (.rd (.var 0) (.var 1000) 0) (.i (.rd (.var 0) (.var 1000) 1) (.i (.rd (.var 0) (.var 1000) 2) (.i (.rd (.var 0) (.var 1000) 3) (.i (.rd (.var 0) (.var 1000) 4) (.x (.rd (.var 0) (.var 1000) 5) (.i (.rd (.var 0) (.var 1000) 6) (.i (.rd (.var 0) (.var 1000) 7) (.x (.rd (.var 0) (.var 1000) 8) (.i (.rd (.var 1) (.var 1000) 0) (.i (.rd (.var 1) (.var 1000) 1) (.i (.rd (.var 1) (.var 1000) 2) (.i (.rd (.var 1) (.var 1000) 3) (.i (.rd (.var 1) (.var 1000) 4) (.x (.rd (.var 1) (.var 1000) 5) (.i (.rd (.var 1) (.var 1000) 6) (.i (.rd (.var 1) (.var 1000) 7) (.x (.rd (.var 1) (.var 1000) 8) .nil))))))))))))))))))))
 (.ret ((.v (.one (.z (.bool (.lit false))))), [], 1))
 (.next 0 ⟨[(0, (.ar .add .i64 (.var 1000) (.lit 1)))], [], []⟩))))))
 (.ret ((.v (.one (.z (.bool (.lit true))))), [], 1)))))
set_option maxRecDepth 100000 in
theorem trR7SL_is : T.norm 0 (call Tryz.prog ctV6 (Lt.of []) 150 20 (symArgs 0 [feats, feats]) [] 0) TT.ret = trR7SL := by kernel_rfl
theorem trR7SL_low : trR7SL.low 1000 = true := by kernel_rfl
end Go.Proofs.YtldbejmgalhdaaaGreat
/- Chapter 09: the reference's SameList, of equal lists. -/
namespace Go.Proofs.YtldbejmgalhdaaaGreat
open Go.RowKit
theorem KVfb129 (W : World) (ds l : List D) : (envOf KVf W ds).fb 129 l = sameL l := by simp only [envOf, KVf, KVe, KVd, KVc, KVb, KVa, K80, K79]
theorem gR7SL : GivesIf Tryz.prog 20 [feats, feats] (fun ds => eqLL ds = true) (fun _ => .bool true) := by
  refine fn_gives KVf (by kernel_rfl) (fun ρ h => ctV6_ok (Sees.of h 200) (SeesD.of h 4)) (by kernel_rfl) trR7SL_is trR7SL_low (by decide) (fun W vals ds hr hok => ?_)
  have hl := one_len hr
  have e1 := rowsEqb_eq _ _ hok
  simp only [trR7SL, TT.sat_ret, TT.sat_ite, TT.sat_ob, TT.sat_next, TT.sat_stuck, put_i, put_b, put_d, put_fi, put_fb, put_fd, Ob.ok, B.ev, E.ev, X.ev, AL.ev, cmp_t, cmp_f, arEv, V.plain, V2.plain, S.plain, S0.plain, V.val, V2.val, S.val, S0.val, bV, iV, List.all_cons, List.all_nil, Bool.and_true, Bool.and_self, envOf_i, envOf_b, envOf_d, List.map_cons, List.map_nil, true_and, Bool.not_eq_true', Bool.not_eq_false', Bool.not_not, Bool.and_eq_true, and_f, cell_lg, cell_lb, cell_lr, cmpP, val_i, val_b, val_d, aget, Nat.reduceBEq, beq_self_eq_true, Bool.false_eq_true, if_true, if_false, Nat.reduceLT, Nat.reduceSub, Nat.sub_self, Nat.lt_irrefl, ← e1]
  clear hr hok
  generalize e0 : rAt ds 0 = r at *
  refine ⟨fun h => absurd rfl h, fun _ => ?_⟩
  refine TT.sat_loop (fun v => ∃ i : Nat, v.i 0 = i ∧ i ≤ r.length) (fun v => r.length - (v.i 0).toNat) ⟨0, by simp [val_i, aget, E.ev], by omega⟩ (fun v hv => ?_)
  obtain ⟨i, i0, i1⟩ := hv
  simp only [TT.sat_ret, TT.sat_ite, TT.sat_ob, TT.sat_next, TT.sat_stuck, put_i, put_b, put_d, put_fi, put_fb, put_fd, Ob.ok, B.ev, E.ev, X.ev, AL.ev, cmp_t, cmp_f, arEv, V.plain, V2.plain, S.plain, S0.plain, V.val, V2.val, S.val, S0.val, bV, iV, List.all_cons, List.all_nil, Bool.and_true, Bool.and_self, envOf_i, envOf_b, envOf_d, List.map_cons, List.map_nil, true_and, Bool.not_eq_true', Bool.not_eq_false', Bool.not_not, Bool.and_eq_true, and_f, cell_lg, cell_lb, cell_lr, cmpP, val_i, val_b, val_d, aget, Nat.reduceBEq, beq_self_eq_true, Bool.false_eq_true, if_true, if_false, Nat.reduceLT, Nat.reduceSub, Nat.sub_self, Nat.lt_irrefl, i0, e0, ← e1, KVfb129, same_18]
  refine ⟨fun hc => ?_, fun _ => trivial⟩
  have hi : i < r.length := by omega
  simp only [lg_cI hi, lr_cR hi]
  have := same_self9 r[i]
  unfold sameR9 at this
  rw [wrap_in ((i : Int) + 1) (by omega) (by omega), this]
  exact ⟨by omega, by omega, by omega, by omega, ⟨fun h => (by cases h), fun _ => ⟨⟨i + 1, rfl, by omega⟩, by omega⟩⟩⟩
def ctV8 : Ct := (20, ctEq [feats, feats]) :: (17, ctEq [idl, idl]) :: (27, ctEq [prl, prl]) :: (21, cSLeast) :: (23, cSAllows) :: (25, cSClash) :: ctV3
theorem ctV8_ok {ρ : Env} (h : Sees ρ KVf 200) (hd : SeesD ρ KVf 4) : CtOk Tryz.prog ρ ctV8 :=
  have h1 := KVe_KVd (KVf_KVe h)
  have hd1 := KVe_KVdd (KVf_KVed hd)
  .cons (ctEq_ok h gR7SL) <| .cons (ctEq_ok h gR9Ints) <| .cons (ctEq_ok h gR9Pairs) <| .cons (cSLeast_ok (KVf_KVe h)) <| .cons (cSAllows_ok h1) <| .cons (cSClash_ok h1 hd1) <| ctV3_ok (KVd_KVc h1) (KVd_KVcd hd1)
end Go.Proofs.YtldbejmgalhdaaaGreat
