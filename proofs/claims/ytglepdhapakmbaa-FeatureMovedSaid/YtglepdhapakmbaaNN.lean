/- NN, merged: TEz, Ez, Fs, Ft. -/
import Derived.Test.YtglepdhapakmbaaNM
set_option linter.unusedSimpArgs false
set_option linter.unusedVariables false
/- Chapter 07: the tree of the law's function that moves a feature. -/
namespace Go.Proofs.Ytglepdhapakmbaa
open Go.RowKit
-- term trShifted: call Try.prog ctE12 (Lt.of []) 100 19 (symArgs 0 [feat, pt]) [] 0
def trShifted : TT OpR :=
(.ite (.cmp .eql (.var 1) (.lit 3))
  (.ob (.tru (.cmp .leq (.len (.var 5)) (.lit 1000000)))
  (.loop 0 6000 ⟨[(0, (.lit 0))], [], [(1, (.var 5))]⟩
    (.ite (.cmp .lss (.var 6000) (.len (.var 6001)))
      (.ob (.tru (.cmp .leq (.lit 0) (.var 6000)))
      (.ob (.tru (.cmp .lss (.var 6000) (.len (.var 6001))))
      (.ob (.tru (.cmp .leq (.lit 0) (.var 6000)))
      (.ob (.tru (.cmp .lss (.var 6000) (.len (.var 6001))))
      (.ob (.tru (.cmp .leq (.lit 0) (.var 6000)))
      (.ob (.tru (.cmp .lss (.var 6000) (.len (.var 6001))))
      (.ob (.tru (.cmp .leq (.lit 0) (.var 6000)))
      (.ob (.tru (.cmp .lss (.var 6000) (.len (.upd (.var 6001) (.var 6000) 0 (.i (.ar .add .i64 (.rd (.var 6001) (.var 6000) 0) (.var 9)) (.i (.ar .add .i64 (.rd (.var 6001) (.var 6000) 1) (.var 10)) .nil))))))
      (.ite (.not (.fn 3 (.i (.rd (.upd (.var 6001) (.var 6000) 0 (.i (.ar .add .i64 (.rd (.var 6001) (.var 6000) 0) (.var 9)) (.i (.ar .add .i64 (.rd (.var 6001) (.var 6000) 1) (.var 10)) .nil))) (.var 6000) 0) (.i (.rd (.upd (.var 6001) (.var 6000) 0 (.i (.ar .add .i64 (.rd (.var 6001) (.var 6000) 0) (.var 9)) (.i (.ar .add .i64 (.rd (.var 6001) (.var 6000) 1) (.var 10)) .nil))) (.var 6000) 1) .nil))))
        (.ret ((.tup [(.agg [(.z (.int .i64 (.var 0))), (.z (.int .i64 (.var 1))), (.z (.int .i64 (.var 2))), (.z (.int .i64 (.var 3))), (.z (.int .i64 (.var 4))), (.z (.ext [(.int .i64), (.int .i64)] (.var 5) false)), (.z (.int .i64 (.var 6))), (.z (.int .i64 (.var 7))), (.z (.ext [(.int .i64), (.int .i64), (.int .i64), (.int .i64), (.int .i64), (.int .i64)] (.var 8) false))]), (.one (.z (.bool (.lit false))))]), [], 6))
        (.next 0 ⟨[(0, (.ar .add .i64 (.var 6000) (.lit 1)))], [], [(1, (.upd (.var 6001) (.var 6000) 0 (.i (.ar .add .i64 (.rd (.var 6001) (.var 6000) 0) (.var 9)) (.i (.ar .add .i64 (.rd (.var 6001) (.var 6000) 1) (.var 10)) .nil))))]⟩))))))))))
      (.ret ((.tup [(.agg [(.z (.int .i64 (.var 0))), (.z (.int .i64 (.var 1))), (.z (.int .i64 (.var 2))), (.z (.int .i64 (.var 3))), (.z (.int .i64 (.var 4))), (.z (.own 4 (.lit 0))), (.z (.int .i64 (.var 6))), (.z (.int .i64 (.var 7))), (.z (.ext [(.int .i64), (.int .i64), (.int .i64), (.int .i64), (.int .i64), (.int .i64)] (.var 8) false))]), (.one (.z (.bool (.lit true))))]), [(2, (.cells 27 [(.z (.int .i64 (.var 0))), (.z (.int .i64 (.var 1))), (.z (.int .i64 (.var 2))), (.z (.int .i64 (.var 3))), (.z (.int .i64 (.var 4))), (.z (.own 4 (.lit 0))), (.z (.int .i64 (.var 6))), (.z (.int .i64 (.var 7))), (.z (.ext [(.int .i64), (.int .i64), (.int .i64), (.int .i64), (.int .i64), (.int .i64)] (.var 8) false))])), (0, (.cells 27 [(.z (.int .i64 (.var 0))), (.z (.int .i64 (.var 1))), (.z (.int .i64 (.var 2))), (.z (.int .i64 (.var 3))), (.z (.int .i64 (.var 4))), (.z (.own 4 (.lit 0))), (.z (.int .i64 (.var 6))), (.z (.int .i64 (.var 7))), (.z (.ext [(.int .i64), (.int .i64), (.int .i64), (.int .i64), (.int .i64), (.int .i64)] (.var 8) false))])), (4, (.own 23 [(.int .i64), (.int .i64)] (.var 6001) (.lit 0))), (3, (.cells 23 [])), (2, (.cells 27 [(.z (.int .i64 (.lit 0))), (.z (.int .i64 (.lit 0))), (.z (.int .i64 (.lit 0))), (.z (.int .i64 (.lit 0))), (.z (.int .i64 (.lit 0))), (.z (.const (.slice none 0 0))), (.z (.int .i64 (.lit 0))), (.z (.int .i64 (.lit 0))), (.z (.const (.slice none 0 0)))])), (1, (.cells 23 [(.z (.int .i64 (.var 9))), (.z (.int .i64 (.var 10)))])), (0, (.cells 27 [(.z (.int .i64 (.var 0))), (.z (.int .i64 (.var 1))), (.z (.int .i64 (.var 2))), (.z (.int .i64 (.var 3))), (.z (.int .i64 (.var 4))), (.z (.ext [(.int .i64), (.int .i64)] (.var 5) false)), (.z (.int .i64 (.var 6))), (.z (.int .i64 (.var 7))), (.z (.ext [(.int .i64), (.int .i64), (.int .i64), (.int .i64), (.int .i64), (.int .i64)] (.var 8) false))])), (4, (.own 23 [(.int .i64), (.int .i64)] (.var 5) (.lit 0))), (3, (.cells 23 [])), (2, (.cells 27 [(.z (.int .i64 (.lit 0))), (.z (.int .i64 (.lit 0))), (.z (.int .i64 (.lit 0))), (.z (.int .i64 (.lit 0))), (.z (.int .i64 (.lit 0))), (.z (.const (.slice none 0 0))), (.z (.int .i64 (.lit 0))), (.z (.int .i64 (.lit 0))), (.z (.const (.slice none 0 0)))])), (1, (.cells 23 [(.z (.int .i64 (.var 9))), (.z (.int .i64 (.var 10)))])), (0, (.cells 27 [(.z (.int .i64 (.var 0))), (.z (.int .i64 (.var 1))), (.z (.int .i64 (.var 2))), (.z (.int .i64 (.var 3))), (.z (.int .i64 (.var 4))), (.z (.ext [(.int .i64), (.int .i64)] (.var 5) false)), (.z (.int .i64 (.var 6))), (.z (.int .i64 (.var 7))), (.z (.ext [(.int .i64), (.int .i64), (.int .i64), (.int .i64), (.int .i64), (.int .i64)] (.var 8) false))]))], 6)))))
  (.ite (.cmp .eql (.var 1) (.lit 6))
    (.ob (.tru (.cmp .leq (.len (.var 5)) (.lit 1000000)))
    (.loop 0 6000 ⟨[(0, (.lit 0))], [], [(1, (.var 5))]⟩
      (.ite (.cmp .lss (.var 6000) (.len (.var 6001)))
        (.ob (.tru (.cmp .leq (.lit 0) (.var 6000)))
        (.ob (.tru (.cmp .lss (.var 6000) (.len (.var 6001))))
        (.ob (.tru (.cmp .leq (.lit 0) (.var 6000)))
        (.ob (.tru (.cmp .lss (.var 6000) (.len (.var 6001))))
        (.ob (.tru (.cmp .leq (.lit 0) (.var 6000)))
        (.ob (.tru (.cmp .lss (.var 6000) (.len (.var 6001))))
        (.ob (.tru (.cmp .leq (.lit 0) (.var 6000)))
        (.ob (.tru (.cmp .lss (.var 6000) (.len (.upd (.var 6001) (.var 6000) 0 (.i (.ar .add .i64 (.rd (.var 6001) (.var 6000) 0) (.var 9)) (.i (.ar .add .i64 (.rd (.var 6001) (.var 6000) 1) (.var 10)) .nil))))))
        (.ite (.not (.fn 3 (.i (.rd (.upd (.var 6001) (.var 6000) 0 (.i (.ar .add .i64 (.rd (.var 6001) (.var 6000) 0) (.var 9)) (.i (.ar .add .i64 (.rd (.var 6001) (.var 6000) 1) (.var 10)) .nil))) (.var 6000) 0) (.i (.rd (.upd (.var 6001) (.var 6000) 0 (.i (.ar .add .i64 (.rd (.var 6001) (.var 6000) 0) (.var 9)) (.i (.ar .add .i64 (.rd (.var 6001) (.var 6000) 1) (.var 10)) .nil))) (.var 6000) 1) .nil))))
          (.ret ((.tup [(.agg [(.z (.int .i64 (.var 0))), (.z (.int .i64 (.var 1))), (.z (.int .i64 (.var 2))), (.z (.int .i64 (.var 3))), (.z (.int .i64 (.var 4))), (.z (.ext [(.int .i64), (.int .i64)] (.var 5) false)), (.z (.int .i64 (.var 6))), (.z (.int .i64 (.var 7))), (.z (.ext [(.int .i64), (.int .i64), (.int .i64), (.int .i64), (.int .i64), (.int .i64)] (.var 8) false))]), (.one (.z (.bool (.lit false))))]), [], 6))
          (.next 0 ⟨[(0, (.ar .add .i64 (.var 6000) (.lit 1)))], [], [(1, (.upd (.var 6001) (.var 6000) 0 (.i (.ar .add .i64 (.rd (.var 6001) (.var 6000) 0) (.var 9)) (.i (.ar .add .i64 (.rd (.var 6001) (.var 6000) 1) (.var 10)) .nil))))]⟩))))))))))
        (.ret ((.tup [(.agg [(.z (.int .i64 (.var 0))), (.z (.int .i64 (.var 1))), (.z (.int .i64 (.var 2))), (.z (.int .i64 (.var 3))), (.z (.int .i64 (.var 4))), (.z (.own 4 (.lit 0))), (.z (.int .i64 (.var 6))), (.z (.int .i64 (.var 7))), (.z (.ext [(.int .i64), (.int .i64), (.int .i64), (.int .i64), (.int .i64), (.int .i64)] (.var 8) false))]), (.one (.z (.bool (.lit true))))]), [(2, (.cells 27 [(.z (.int .i64 (.var 0))), (.z (.int .i64 (.var 1))), (.z (.int .i64 (.var 2))), (.z (.int .i64 (.var 3))), (.z (.int .i64 (.var 4))), (.z (.own 4 (.lit 0))), (.z (.int .i64 (.var 6))), (.z (.int .i64 (.var 7))), (.z (.ext [(.int .i64), (.int .i64), (.int .i64), (.int .i64), (.int .i64), (.int .i64)] (.var 8) false))])), (0, (.cells 27 [(.z (.int .i64 (.var 0))), (.z (.int .i64 (.var 1))), (.z (.int .i64 (.var 2))), (.z (.int .i64 (.var 3))), (.z (.int .i64 (.var 4))), (.z (.own 4 (.lit 0))), (.z (.int .i64 (.var 6))), (.z (.int .i64 (.var 7))), (.z (.ext [(.int .i64), (.int .i64), (.int .i64), (.int .i64), (.int .i64), (.int .i64)] (.var 8) false))])), (4, (.own 23 [(.int .i64), (.int .i64)] (.var 6001) (.lit 0))), (3, (.cells 23 [])), (2, (.cells 27 [(.z (.int .i64 (.lit 0))), (.z (.int .i64 (.lit 0))), (.z (.int .i64 (.lit 0))), (.z (.int .i64 (.lit 0))), (.z (.int .i64 (.lit 0))), (.z (.const (.slice none 0 0))), (.z (.int .i64 (.lit 0))), (.z (.int .i64 (.lit 0))), (.z (.const (.slice none 0 0)))])), (1, (.cells 23 [(.z (.int .i64 (.var 9))), (.z (.int .i64 (.var 10)))])), (0, (.cells 27 [(.z (.int .i64 (.var 0))), (.z (.int .i64 (.var 1))), (.z (.int .i64 (.var 2))), (.z (.int .i64 (.var 3))), (.z (.int .i64 (.var 4))), (.z (.ext [(.int .i64), (.int .i64)] (.var 5) false)), (.z (.int .i64 (.var 6))), (.z (.int .i64 (.var 7))), (.z (.ext [(.int .i64), (.int .i64), (.int .i64), (.int .i64), (.int .i64), (.int .i64)] (.var 8) false))])), (4, (.own 23 [(.int .i64), (.int .i64)] (.var 5) (.lit 0))), (3, (.cells 23 [])), (2, (.cells 27 [(.z (.int .i64 (.lit 0))), (.z (.int .i64 (.lit 0))), (.z (.int .i64 (.lit 0))), (.z (.int .i64 (.lit 0))), (.z (.int .i64 (.lit 0))), (.z (.const (.slice none 0 0))), (.z (.int .i64 (.lit 0))), (.z (.int .i64 (.lit 0))), (.z (.const (.slice none 0 0)))])), (1, (.cells 23 [(.z (.int .i64 (.var 9))), (.z (.int .i64 (.var 10)))])), (0, (.cells 27 [(.z (.int .i64 (.var 0))), (.z (.int .i64 (.var 1))), (.z (.int .i64 (.var 2))), (.z (.int .i64 (.var 3))), (.z (.int .i64 (.var 4))), (.z (.ext [(.int .i64), (.int .i64)] (.var 5) false)), (.z (.int .i64 (.var 6))), (.z (.int .i64 (.var 7))), (.z (.ext [(.int .i64), (.int .i64), (.int .i64), (.int .i64), (.int .i64), (.int .i64)] (.var 8) false))]))], 6)))))
    (.ret ((.tup [(.agg [(.z (.int .i64 (.var 0))), (.z (.int .i64 (.var 1))), (.z (.int .i64 (.ar .add .i64 (.var 2) (.var 9)))), (.z (.int .i64 (.ar .add .i64 (.var 3) (.var 10)))), (.z (.int .i64 (.var 4))), (.z (.ext [(.int .i64), (.int .i64)] (.var 5) false)), (.z (.int .i64 (.var 6))), (.z (.int .i64 (.var 7))), (.z (.ext [(.int .i64), (.int .i64), (.int .i64), (.int .i64), (.int .i64), (.int .i64)] (.var 8) false))]), (.one (.z (.bool (.fn 76 (.i (.var 0) (.i (.var 1) (.i (.ar .add .i64 (.var 2) (.var 9)) (.i (.ar .add .i64 (.var 3) (.var 10)) (.i (.var 4) (.x (.var 5) (.i (.var 6) (.i (.var 7) (.x (.var 8) .nil)))))))))))))]), [], 3))))
-- end trShifted
def trShifted_h : List (Nat × St) := [
(5, ⟨(List.append [(.v (.agg [(.z (.int .i64 (.var 0))), (.z (.int .i64 (.var 1))), (.z (.int .i64 (.var 2))), (.z (.int .i64 (.var 3))), (.z (.int .i64 (.var 4))), (.z (.ext [(.int .i64), (.int .i64)] (.var 5) false)), (.z (.int .i64 (.var 6))), (.z (.int .i64 (.var 7))), (.z (.ext [(.int .i64), (.int .i64), (.int .i64), (.int .i64), (.int .i64), (.int .i64)] (.var 8) false))])), (.v (.agg [(.z (.int .i64 (.var 9))), (.z (.int .i64 (.var 10)))])), (.v (.one (.z (.ptr 0 0)))), (.v (.one (.z (.ptr 1 0)))), (.v (.one (.z (.ptr 2 0)))), (.v (.one (.z (.bool (.lit false))))), (.v (.one (.z (.own 4 (.lit 0))))), (.v (.one (.z (.int .i64 (.var 6000))))), (.v (.one (.z (.ptr 0 1)))), (.v (.one (.z (.int .i64 (.var 1))))), (.v (.one (.z (.bool (.cmp .eql (.var 1) (.lit 3)))))), (.v (.one (.z (.bool (.lit true))))), (.v (.one (.z .any))), (.v (.one (.z .any))), (.v (.one (.z .any))), (.v (.one (.z (.bool (.lit true))))), (.v (.one (.z (.sl 3 0 0 (some 0))))), (.v (.one (.z (.ptr 0 5)))), (.v (.one (.z (.ext [(.int .i64), (.int .i64)] (.var 5) false)))), (.v (.one (.z (.own 4 (.lit 0)))))] (List.replicate 53 V.any)), [(4, (.own 23 [(.int .i64), (.int .i64)] (.var 6001) (.lit 0))), (3, (.cells 23 [])), (2, (.cells 27 [(.z (.int .i64 (.lit 0))), (.z (.int .i64 (.lit 0))), (.z (.int .i64 (.lit 0))), (.z (.int .i64 (.lit 0))), (.z (.int .i64 (.lit 0))), (.z (.const (.slice none 0 0))), (.z (.int .i64 (.lit 0))), (.z (.int .i64 (.lit 0))), (.z (.const (.slice none 0 0)))])), (1, (.cells 23 [(.z (.int .i64 (.var 9))), (.z (.int .i64 (.var 10)))])), (0, (.cells 27 [(.z (.int .i64 (.var 0))), (.z (.int .i64 (.var 1))), (.z (.int .i64 (.var 2))), (.z (.int .i64 (.var 3))), (.z (.int .i64 (.var 4))), (.z (.ext [(.int .i64), (.int .i64)] (.var 5) false)), (.z (.int .i64 (.var 6))), (.z (.int .i64 (.var 7))), (.z (.ext [(.int .i64), (.int .i64), (.int .i64), (.int .i64), (.int .i64), (.int .i64)] (.var 8) false))]))], 6, []⟩),
(5, ⟨(List.append [(.v (.agg [(.z (.int .i64 (.var 0))), (.z (.int .i64 (.var 1))), (.z (.int .i64 (.var 2))), (.z (.int .i64 (.var 3))), (.z (.int .i64 (.var 4))), (.z (.ext [(.int .i64), (.int .i64)] (.var 5) false)), (.z (.int .i64 (.var 6))), (.z (.int .i64 (.var 7))), (.z (.ext [(.int .i64), (.int .i64), (.int .i64), (.int .i64), (.int .i64), (.int .i64)] (.var 8) false))])), (.v (.agg [(.z (.int .i64 (.var 9))), (.z (.int .i64 (.var 10)))])), (.v (.one (.z (.ptr 0 0)))), (.v (.one (.z (.ptr 1 0)))), (.v (.one (.z (.ptr 2 0)))), (.v (.one (.z (.bool (.lit false))))), (.v (.one (.z (.own 4 (.lit 0))))), (.v (.one (.z (.int .i64 (.var 6000))))), (.v (.one (.z (.ptr 0 1)))), (.v (.one (.z (.int .i64 (.var 1))))), (.v (.one (.z (.bool (.cmp .eql (.var 1) (.lit 3)))))), (.v (.one (.z (.bool (.lit false))))), (.v (.one (.z (.ptr 0 1)))), (.v (.one (.z (.int .i64 (.var 1))))), (.v (.one (.z (.bool (.cmp .eql (.var 1) (.lit 6)))))), (.v (.one (.z (.bool (.cmp .eql (.var 1) (.lit 6)))))), (.v (.one (.z (.sl 3 0 0 (some 0))))), (.v (.one (.z (.ptr 0 5)))), (.v (.one (.z (.ext [(.int .i64), (.int .i64)] (.var 5) false)))), (.v (.one (.z (.own 4 (.lit 0)))))] (List.replicate 53 V.any)), [(4, (.own 23 [(.int .i64), (.int .i64)] (.var 6001) (.lit 0))), (3, (.cells 23 [])), (2, (.cells 27 [(.z (.int .i64 (.lit 0))), (.z (.int .i64 (.lit 0))), (.z (.int .i64 (.lit 0))), (.z (.int .i64 (.lit 0))), (.z (.int .i64 (.lit 0))), (.z (.const (.slice none 0 0))), (.z (.int .i64 (.lit 0))), (.z (.int .i64 (.lit 0))), (.z (.const (.slice none 0 0)))])), (1, (.cells 23 [(.z (.int .i64 (.var 9))), (.z (.int .i64 (.var 10)))])), (0, (.cells 27 [(.z (.int .i64 (.var 0))), (.z (.int .i64 (.var 1))), (.z (.int .i64 (.var 2))), (.z (.int .i64 (.var 3))), (.z (.int .i64 (.var 4))), (.z (.ext [(.int .i64), (.int .i64)] (.var 5) false)), (.z (.int .i64 (.var 6))), (.z (.int .i64 (.var 7))), (.z (.ext [(.int .i64), (.int .i64), (.int .i64), (.int .i64), (.int .i64), (.int .i64)] (.var 8) false))]))], 6, []⟩)]
def trShifted_j : List (FuncId × Nat × Nat × St) := [
]
set_option maxRecDepth 100000 in
theorem trShifted_is : T.norm 0 (call Try.prog ctE12 ⟨Lt.un (Lt.of []), trShifted_h, trShifted_j⟩ 100 19 (symArgs 0 [feat, pt]) [] 0) TT.ret = trShifted := by kernel_rfl
theorem trShifted_low : trShifted.low 1000 = true := by kernel_rfl
end Go.Proofs.Ytglepdhapakmbaa
/- Chapter 07: what the law's function answers that moves a feature. -/
namespace Go.Proofs.Ytglepdhapakmbaa
open Go.RowKit
theorem rep_rl {w : World} {ks : List CK} {v : Value} {d : D} (h : CK.rep w (.sl ks) v d) : ∀ i : Nat, i < d.rows.length → rl d.rows i = ks.length := by
  rw [rep_sl] at h
  obtain ⟨r, rfl, a, n, c, _, hs, _⟩ := h
  intro i hi
  have hi : i < r.length := hi
  have := hs.there (by have := hs.len; omega)
  cases a with
  | none => cases this
  | some b =>
    obtain ⟨vs, h1, _⟩ := hs.cell b rfl i _ (List.getElem?_eq_getElem hi)
    show rl r i = _
    unfold rl
    rw [List.getElem?_eq_getElem hi]
    exact (reps_len h1).2
theorem lg_upd_ne {m : Rows} {i : Nat} {j : Nat} {l : List D} {i' : Nat} (h : i' ≠ i) (c : Nat) : lg (updR m i j l) i' c = lg m i' c := by
  unfold lg cellAt updR
  rw [Int.toNat_natCast, Int.toNat_natCast, List.getElem?_modify]
  simp only [if_neg (fun e : i = i' => h e.symm)]
  cases m[i']? <;> rfl
/-- A polygon whose first corners are moved. -/
def mvN (r : Rows) (s t : Int) : Nat → Rows
  | 0 => r
  | i + 1 => updR (mvN r s t i) i 0 [.i (lg r i 0 + s), .i (lg r i 1 + t)]
def mvOkN (r : Rows) (s t : Int) : Nat → Bool
  | 0 => true
  | i + 1 => mvOkN r s t i && placeB (lg r i 0 + s) (lg r i 1 + t)
theorem mvN_len {r : Rows} {s t : Int} : ∀ i, (mvN r s t i).length = r.length
  | 0 => rfl
  | i + 1 => by rw [mvN, updR_len, mvN_len i]
theorem mvN_rest {r : Rows} {s t : Int} : ∀ (i j : Nat), i ≤ j → ∀ c : Nat, lg (mvN r s t i) j c = lg r j c
  | 0, _, _, _ => rfl
  | i + 1, j, h, c => by rw [mvN, lg_upd_ne (by omega), mvN_rest i j (by omega)]
theorem mvN_rl {r : Rows} {s t : Int} (hr : ∀ i : Nat, i < r.length → rl r i = 2) : ∀ i, i ≤ r.length → ∀ j : Nat, rl (mvN r s t i) j = rl r j
  | 0, _, _ => rfl
  | i + 1, h, j => by
    rw [mvN, rl_upd (by rw [mvN_len]; omega) (by rw [mvN_rl hr i (by omega), hr i (by omega)]; simp), mvN_rl hr i (by omega)]
theorem mvN_new {r : Rows} {s t : Int} (hr : ∀ i : Nat, i < r.length → rl r i = 2) {i : Nat} (hi : i < r.length) : lg (mvN r s t (i + 1)) i (0 : Nat) = lg r i 0 + s ∧ lg (mvN r s t (i + 1)) i (1 : Nat) = lg r i 1 + t := by
  have k : ∀ c : Nat, lg (mvN r s t (i + 1)) i c = if i = i ∧ 0 ≤ c ∧ c < 0 + 2 then (([D.i (lg r i 0 + s), .i (lg r i 1 + t)][c - 0]?).getD (.i 0)).int else lg (mvN r s t i) i c := fun c => by
    rw [mvN]
    exact lg_upd (by rw [mvN_len]; exact hi) (by rw [mvN_rl hr i (by omega), hr i hi]; simp) i c
  rw [k 0, k 1, if_pos (by omega), if_pos (by omega)]
  exact ⟨rfl, rfl⟩
theorem mvN_done {r : Rows} {s t : Int} (hr : ∀ i : Nat, i < r.length → rl r i = 2) : ∀ (i j : Nat), j < i → i ≤ r.length → lg (mvN r s t i) j (0 : Nat) = lg r j 0 + s ∧ lg (mvN r s t i) j (1 : Nat) = lg r j 1 + t
  | i + 1, j, h, hi => by
    by_cases e : j = i
    · subst e; exact mvN_new hr (by omega)
    · rw [mvN, lg_upd_ne e, lg_upd_ne e]
      exact mvN_done hr i j (by omega) (by omega)
theorem mvN_mv {r : Rows} {s t : Int} (hr : ∀ i : Nat, i < r.length → rl r i = 2) : MvC r (mvN r s t r.length) s t := ⟨mvN_len _, fun j hj => mvN_done hr _ j hj (Nat.le_refl _)⟩
theorem mvOkN_iff {r : Rows} {s t : Int} : ∀ i, mvOkN r s t i = true ↔ ∀ j : Nat, j < i → placeB (lg r j 0 + s) (lg r j 1 + t) = true
  | 0 => ⟨fun _ _ h => absurd h (Nat.not_lt_zero _), fun _ => rfl⟩
  | i + 1 => by
    rw [mvOkN, Bool.and_eq_true, mvOkN_iff i]
    refine ⟨fun h j hj => ?_, fun h => ⟨fun j hj => h j (by omega), h i (by omega)⟩⟩
    by_cases e : j = i
    · subst e; exact h.2
    · exact h.1 j (by omega)
theorem mvOkN_no {r : Rows} {s t : Int} {i n : Nat} (h : placeB (lg r i 0 + s) (lg r i 1 + t) = false) (hi : i < n) : mvOkN r s t n = false := by
  rw [← Bool.not_eq_true, mvOkN_iff]
  intro q
  rw [q i hi] at h
  cases h
def shA (ds : List D) : Bool := decide (iAt ds 1 = 3 ∨ iAt ds 1 = 6)
def mvL (ds : List D) : Rows := mvN (rAt ds 5) (iAt ds 9) (iAt ds 10) (rAt ds 5).length
def mvOkL (ds : List D) : Bool := mvOkN (rAt ds 5) (iAt ds 9) (iAt ds 10) (rAt ds 5).length
def shOk (ds : List D) : Bool := featL ds && placeB (iAt ds 9) (iAt ds 10)
def mvRad (ds : List D) : List D := [.i (iAt ds 0), .i (iAt ds 1), .i (iAt ds 2 + iAt ds 9), .i (iAt ds 3 + iAt ds 10), .i (iAt ds 4), .l (rAt ds 5), .i (iAt ds 6), .i (iAt ds 7), .l (rAt ds 8)]
def nlMv : NL := ⟨23, ptK, 200, mvL⟩
/-- What the function answers: a new polygon; nothing; a place that is moved. -/
def shR1 (w0 : World) (ds : List D) (vs : List Value) (u : Value) : Prop := ∃ v sc, vs = [v] ∧ u = .tuple #[.agg #[.int .i64 (iAt ds 0), .int .i64 (iAt ds 1), .int .i64 (iAt ds 2), .int .i64 (iAt ds 3), .int .i64 (iAt ds 4), v, .int .i64 (iAt ds 6), .int .i64 (iAt ds 7), sc], .bool true] ∧ Sl w0 secK sc (rAt ds 8) false
def shR2 (w0 : World) (ds : List D) (_ : List Value) (u : Value) : Prop := ∃ a sc, u = .tuple #[.agg #[.int .i64 (iAt ds 0), .int .i64 (iAt ds 1), .int .i64 (iAt ds 2), .int .i64 (iAt ds 3), .int .i64 (iAt ds 4), a, .int .i64 (iAt ds 6), .int .i64 (iAt ds 7), sc], .bool false] ∧ Sl w0 ptK a (rAt ds 5) false ∧ Sl w0 secK sc (rAt ds 8) false
def shR3 (w0 : World) (ds : List D) (_ : List Value) (u : Value) : Prop := ∃ a sc, u = .tuple #[.agg #[.int .i64 (iAt ds 0), .int .i64 (iAt ds 1), .int .i64 (iAt ds 2 + iAt ds 9), .int .i64 (iAt ds 3 + iAt ds 10), .int .i64 (iAt ds 4), a, .int .i64 (iAt ds 6), .int .i64 (iAt ds 7), sc], .bool (featL (mvRad ds))] ∧ Sl w0 ptK a (rAt ds 5) false ∧ Sl w0 secK sc (rAt ds 8) false
theorem DL9_inv {R : S → Value → Prop} {a b c d e f g h i : S} {vs : List Value} (q : DL R [a, b, c, d, e, f, g, h, i] vs) : ∃ v1 v2 v3 v4 v5 v6 v7 v8 v9, vs = [v1, v2, v3, v4, v5, v6, v7, v8, v9] ∧ R a v1 ∧ R b v2 ∧ R c v3 ∧ R d v4 ∧ R e v5 ∧ R f v6 ∧ R g v7 ∧ R h v8 ∧ R i v9 := by
  obtain ⟨v1, _, rfl, h1, q⟩ := DL.cons_inv q
  obtain ⟨v2, _, rfl, h2, q⟩ := DL.cons_inv q
  obtain ⟨v3, _, rfl, h3, q⟩ := DL.cons_inv q
  obtain ⟨v4, _, rfl, h4, q⟩ := DL.cons_inv q
  obtain ⟨v5, _, rfl, h5, q⟩ := DL.cons_inv q
  obtain ⟨v6, _, rfl, h6, q⟩ := DL.cons_inv q
  obtain ⟨v7, _, rfl, h7, q⟩ := DL.cons_inv q
  obtain ⟨v8, _, rfl, h8, q⟩ := DL.cons_inv q
  obtain ⟨v9, _, rfl, h9, q⟩ := DL.cons_inv q
  obtain rfl := DL.nil_inv q
  exact ⟨v1, v2, v3, v4, v5, v6, v7, v8, v9, rfl, h1, h2, h3, h4, h5, h6, h7, h8, h9⟩
theorem den_f9 {ρ : Env} {σ : As} {a b c d e f g h i : S} {x : V2} {u : Value} (q : (V.tup [.agg [a, b, c, d, e, f, g, h, i], x]).den ρ σ u) : ∃ v1 v2 v3 v4 v5 v6 v7 v8 v9 y, u = .tuple #[.agg #[v1, v2, v3, v4, v5, v6, v7, v8, v9], y] ∧ S.den ρ σ a v1 ∧ S.den ρ σ b v2 ∧ S.den ρ σ c v3 ∧ S.den ρ σ d v4 ∧ S.den ρ σ e v5 ∧ S.den ρ σ f v6 ∧ S.den ρ σ g v7 ∧ S.den ρ σ h v8 ∧ S.den ρ σ i v9 ∧ x.den ρ σ y := by
  obtain ⟨vs, q, rfl⟩ := q
  obtain ⟨v, _, rfl, ⟨us, h1, rfl⟩, q1⟩ := DL.cons_inv q
  obtain ⟨y, _, rfl, h2, q2⟩ := DL.cons_inv q1
  obtain rfl := DL.nil_inv q2
  obtain ⟨v1, v2, v3, v4, v5, v6, v7, v8, v9, rfl, p1, p2, p3, p4, p5, p6, p7, p8, p9⟩ := DL9_inv h1
  exact ⟨v1, v2, v3, v4, v5, v6, v7, v8, v9, y, rfl, p1, p2, p3, p4, p5, p6, p7, p8, p9, h2⟩
theorem DL9 {R : S → Value → Prop} {a b c d e f g h i : S} {v1 v2 v3 v4 v5 v6 v7 v8 v9 : Value} (h1 : R a v1) (h2 : R b v2) (h3 : R c v3) (h4 : R d v4) (h5 : R e v5) (h6 : R f v6) (h7 : R g v7) (h8 : R h v8) (h9 : R i v9) : DL R [a, b, c, d, e, f, g, h, i] [v1, v2, v3, v4, v5, v6, v7, v8, v9] :=
  ⟨h1, h2, h3, h4, h5, h6, h7, h8, h9, trivial⟩
theorem K79b3 (W : World) (ds l : List D) : (envOf K79 W ds).fb 3 l = placeL l := by simp only [envOf, K79, K78, K77, K76, K75, K74, K73, K72, K71, KI, KH, KG, KF, KE, KD, KC, KB, KA, K9, K8, K7, K6, K5, K]
theorem K79b76 (W : World) (ds l : List D) : (envOf K79 W ds).fb 76 l = featL l := by simp only [envOf, K79, K78, K77, K76, K75, K74, K73, K72, K71, KI, KH, KG, KF, KE, KD, KC, KB, KA, K9, K8, K7, K6, K5, K]
theorem area_rl {W : World} {vals : List Value} {ds : List D} {sh : List Sh} (hr : repSh W (feat :: sh) vals ds) : ∀ i : Nat, i < (rAt ds 5).length → rl (rAt ds 5) i = 2 := by
  obtain ⟨v, vs', d, ds', rfl, rfl, ⟨us, rfl, h⟩, _⟩ := hr
  obtain ⟨v5, d5, h1, h2, h3⟩ := reps_get (j := 5) h rfl
  have e : rAt (d ++ ds') 5 = d5.rows := by
    have hl := (reps_len h).2
    have hl : d.length = 9 := hl
    unfold rAt
    rw [List.getD_eq_getElem?_getD, List.getElem?_append_left (by omega), h2]
    rfl
  rw [e]
  exact rep_rl h3
section
variable {W : World} {vals : List Value} {ds : List D} (hr : repSh W [feat, pt] vals ds) (hok : shOk ds = true)
include hok
theorem sh_bounds (ha : iAt ds 1 = 3 ∨ iAt ds 1 = 6) : (rAt ds 5).length ≤ 24 ∧ (∀ j : Nat, j < (rAt ds 5).length → placeB (lg (rAt ds 5) j 0) (lg (rAt ds 5) j 1) = true) ∧ placeB (iAt ds 9) (iAt ds 10) = true := by
  unfold shOk at hok
  rw [Bool.and_eq_true] at hok
  have hp := feat_area hok.1 ha
  exact ⟨(polyB_len hp).2, fun j hj => polyB_pl hp hj, hok.2⟩
end
set_option maxHeartbeats 4000000 in
theorem gSh1 : GivesN Try.prog 19 [feat, pt] [nlMv] (fun ds => shOk ds = true ∧ shA ds = true ∧ mvOkL ds = true) shR1 := by
  refine fn_givesN K79 (by kernel_rfl) (fun ρ h => ctE12_ok (Sees.of h 132)) (by kernel_rfl) trShifted_is trShifted_low (by decide) (fun w0 vals ds hr ⟨hok, hA, hm⟩ => ?_)
  have hA : iAt ds 1 = 3 ∨ iAt ds 1 = 6 := of_decide_eq_true hA
  obtain ⟨hl, hpl, hv⟩ := sh_bounds hok hA
  have hrl := area_rl hr
  have hmv := (mvOkN_iff _).1 hm
  rw [placeB_iff] at hv
  have W : ∀ j : Nat, j < (rAt ds 5).length → IntKind.i64.wrap (lg (rAt ds 5) j 0 + iAt ds 9) = lg (rAt ds 5) j 0 + iAt ds 9 ∧ IntKind.i64.wrap (lg (rAt ds 5) j 1 + iAt ds 10) = lg (rAt ds 5) j 1 + iAt ds 10 := fun j hj => by
    have := hpl j hj
    rw [placeB_iff] at this
    exact ⟨wrap_in _ (by omega) (by omega), wrap_in _ (by omega) (by omega)⟩
  simp only [trShifted, TT.sat_ret, TT.sat_ite, TT.sat_ob, TT.sat_next, TT.sat_stuck, put_i, put_b, put_d, put_fi, put_fb, put_fd, Ob.ok, B.ev, E.ev, X.ev, AL.ev, cmp_t, cmp_f, arEv, V.plain, V2.plain, S.plain, S0.plain, V.val, V2.val, S.val, S0.val, bV, iV, List.all_cons, List.all_nil, Bool.and_true, Bool.and_self, envOf_i, envOf_b, envOf_d, List.map_cons, List.map_nil, true_and, Bool.not_eq_true', Bool.not_eq_false', Bool.not_not, Bool.and_eq_true, and_f, cell_lg, cell_lb, cell_lr, cmpP, val_i, val_b, val_d, aget, Nat.reduceBEq, beq_self_eq_true, Bool.false_eq_true, if_true, if_false, Nat.reduceLT, Nat.reduceSub, Nat.sub_self, Nat.lt_irrefl, K79b3]
  refine ⟨fun _ => ⟨by omega, ?_⟩, fun h3 => ⟨fun _ => ⟨by omega, ?_⟩, fun h6 => by omega⟩⟩
  all_goals
    refine TT.sat_loop (fun v => ∃ i : Nat, v.i 0 = i ∧ i ≤ (rAt ds 5).length ∧ v.d 1 = mvN (rAt ds 5) (iAt ds 9) (iAt ds 10) i) (fun v => (rAt ds 5).length - (v.i 0).toNat) ⟨0, by simp [val_i, aget, E.ev], by omega, by simp only [val_d, aget, TT.sat_ret, TT.sat_ite, TT.sat_ob, TT.sat_next, TT.sat_stuck, put_i, put_b, put_d, put_fi, put_fb, put_fd, Ob.ok, B.ev, E.ev, X.ev, AL.ev, cmp_t, cmp_f, arEv, V.plain, V2.plain, S.plain, S0.plain, V.val, V2.val, S.val, S0.val, bV, iV, List.all_cons, List.all_nil, Bool.and_true, Bool.and_self, envOf_i, envOf_b, envOf_d, List.map_cons, List.map_nil, true_and, Bool.not_eq_true', Bool.not_eq_false', Bool.not_not, Bool.and_eq_true, and_f, cell_lg, cell_lb, cell_lr, cmpP, val_i, val_b, val_d, aget, Nat.reduceBEq, beq_self_eq_true, Bool.false_eq_true, if_true, if_false, Nat.reduceLT, Nat.reduceSub, Nat.sub_self, Nat.lt_irrefl]; rfl⟩ (fun v hv => ?_)
    obtain ⟨i, i0, i1, i2⟩ := hv
    simp only [TT.sat_ret, TT.sat_ite, TT.sat_ob, TT.sat_next, TT.sat_stuck, put_i, put_b, put_d, put_fi, put_fb, put_fd, Ob.ok, B.ev, E.ev, X.ev, AL.ev, cmp_t, cmp_f, arEv, V.plain, V2.plain, S.plain, S0.plain, V.val, V2.val, S.val, S0.val, bV, iV, List.all_cons, List.all_nil, Bool.and_true, Bool.and_self, envOf_i, envOf_b, envOf_d, List.map_cons, List.map_nil, true_and, Bool.not_eq_true', Bool.not_eq_false', Bool.not_not, Bool.and_eq_true, and_f, cell_lg, cell_lb, cell_lr, cmpP, val_i, val_b, val_d, aget, Nat.reduceBEq, beq_self_eq_true, Bool.false_eq_true, if_true, if_false, Nat.reduceLT, Nat.reduceSub, Nat.sub_self, Nat.lt_irrefl, i0, i2, K79b3, mvN_len, updR_len]
    refine ⟨fun hc => ?_, fun hc => ?_⟩
    · have hi : i < (rAt ds 5).length := by omega
      have e := mvN_new (r := rAt ds 5) (s := iAt ds 9) (t := iAt ds 10) hrl hi
      have e0 := mvN_rest (r := rAt ds 5) (s := iAt ds 9) (t := iAt ds 10) i i (Nat.le_refl _)
      have ex : updR (mvN (rAt ds 5) (iAt ds 9) (iAt ds 10) i) i 0 [.i (lg (rAt ds 5) i 0 + iAt ds 9), .i (lg (rAt ds 5) i 1 + iAt ds 10)] = mvN (rAt ds 5) (iAt ds 9) (iAt ds 10) (i + 1) := rfl
      rw [e0 0, e0 1, (W i hi).1, (W i hi).2, ex]
      refine ⟨by omega, by omega, by omega, by omega, by omega, by omega, by omega, by omega, fun q => ?_, fun q => ⟨⟨i + 1, ?_, by omega, rfl⟩, ?_⟩⟩
      · have h1 := hmv i hi
        rw [e.1, e.2] at q
        rw [show placeL [.i (lg (rAt ds 5) i 0 + iAt ds 9), .i (lg (rAt ds 5) i 1 + iAt ds 10)] = placeB (lg (rAt ds 5) i 0 + iAt ds 9) (lg (rAt ds 5) i 1 + iAt ds 10) from rfl, h1] at q
        cases q
      · rw [wrap_in _ (by omega) (by omega)]; rfl
      · rw [wrap_in _ (by omega) (by omega)]; omega
    · obtain rfl : i = (rAt ds 5).length := by omega
      refine ⟨[.own 4 (.lit 0)], lsAre_one (x := .var 6001) (by kernel_rfl) ?_, fun σ u hw hu => ?_⟩
      · simp only [TT.sat_ret, TT.sat_ite, TT.sat_ob, TT.sat_next, TT.sat_stuck, put_i, put_b, put_d, put_fi, put_fb, put_fd, Ob.ok, B.ev, E.ev, X.ev, AL.ev, cmp_t, cmp_f, arEv, V.plain, V2.plain, S.plain, S0.plain, V.val, V2.val, S.val, S0.val, bV, iV, List.all_cons, List.all_nil, Bool.and_true, Bool.and_self, envOf_i, envOf_b, envOf_d, List.map_cons, List.map_nil, true_and, Bool.not_eq_true', Bool.not_eq_false', Bool.not_not, Bool.and_eq_true, and_f, cell_lg, cell_lb, cell_lr, cmpP, val_i, val_b, val_d, aget, Nat.reduceBEq, beq_self_eq_true, Bool.false_eq_true, if_true, if_false, Nat.reduceLT, Nat.reduceSub, Nat.sub_self, Nat.lt_irrefl]
        exact i2
      · obtain ⟨v1, v2, v3, v4, v5, v6, v7, v8, v9, y, rfl, p1, p2, p3, p4, p5, p6, p7, p8, p9, p10⟩ := den_f9 hu
        simp only [S.den, S0.den, V2.den, TT.sat_ret, TT.sat_ite, TT.sat_ob, TT.sat_next, TT.sat_stuck, put_i, put_b, put_d, put_fi, put_fb, put_fd, Ob.ok, B.ev, E.ev, X.ev, AL.ev, cmp_t, cmp_f, arEv, V.plain, V2.plain, S.plain, S0.plain, V.val, V2.val, S.val, S0.val, bV, iV, List.all_cons, List.all_nil, Bool.and_true, Bool.and_self, envOf_i, envOf_b, envOf_d, List.map_cons, List.map_nil, true_and, Bool.not_eq_true', Bool.not_eq_false', Bool.not_not, Bool.and_eq_true, and_f, cell_lg, cell_lb, cell_lr, cmpP, val_i, val_b, val_d, aget, Nat.reduceBEq, beq_self_eq_true, Bool.false_eq_true, if_true, if_false, Nat.reduceLT, Nat.reduceSub, Nat.sub_self, Nat.lt_irrefl] at p1 p2 p3 p4 p5 p7 p8 p9 p10
        subst p1 p2 p3 p4 p5 p7 p8 p10
        rw [hw] at p9
        exact ⟨[v6], ⟨p6, trivial⟩, v6, v9, rfl, rfl, p9⟩
set_option maxHeartbeats 4000000 in
theorem gSh2 : GivesN Try.prog 19 [feat, pt] [] (fun ds => shOk ds = true ∧ shA ds = true ∧ mvOkL ds = false) shR2 := by
  refine fn_givesN K79 (by kernel_rfl) (fun ρ h => ctE12_ok (Sees.of h 132)) (by kernel_rfl) trShifted_is trShifted_low (by decide) (fun w0 vals ds hr ⟨hok, hA, hm⟩ => ?_)
  have hA : iAt ds 1 = 3 ∨ iAt ds 1 = 6 := of_decide_eq_true hA
  obtain ⟨hl, hpl, hv⟩ := sh_bounds hok hA
  have hrl := area_rl hr
  rw [placeB_iff] at hv
  have W : ∀ j : Nat, j < (rAt ds 5).length → IntKind.i64.wrap (lg (rAt ds 5) j 0 + iAt ds 9) = lg (rAt ds 5) j 0 + iAt ds 9 ∧ IntKind.i64.wrap (lg (rAt ds 5) j 1 + iAt ds 10) = lg (rAt ds 5) j 1 + iAt ds 10 := fun j hj => by
    have := hpl j hj
    rw [placeB_iff] at this
    exact ⟨wrap_in _ (by omega) (by omega), wrap_in _ (by omega) (by omega)⟩
  simp only [trShifted, TT.sat_ret, TT.sat_ite, TT.sat_ob, TT.sat_next, TT.sat_stuck, put_i, put_b, put_d, put_fi, put_fb, put_fd, Ob.ok, B.ev, E.ev, X.ev, AL.ev, cmp_t, cmp_f, arEv, V.plain, V2.plain, S.plain, S0.plain, V.val, V2.val, S.val, S0.val, bV, iV, List.all_cons, List.all_nil, Bool.and_true, Bool.and_self, envOf_i, envOf_b, envOf_d, List.map_cons, List.map_nil, true_and, Bool.not_eq_true', Bool.not_eq_false', Bool.not_not, Bool.and_eq_true, and_f, cell_lg, cell_lb, cell_lr, cmpP, val_i, val_b, val_d, aget, Nat.reduceBEq, beq_self_eq_true, Bool.false_eq_true, if_true, if_false, Nat.reduceLT, Nat.reduceSub, Nat.sub_self, Nat.lt_irrefl, K79b3]
  refine ⟨fun _ => ⟨by omega, ?_⟩, fun h3 => ⟨fun _ => ⟨by omega, ?_⟩, fun h6 => by omega⟩⟩
  all_goals
    refine TT.sat_loop (fun v => ∃ i : Nat, v.i 0 = i ∧ i ≤ (rAt ds 5).length ∧ v.d 1 = mvN (rAt ds 5) (iAt ds 9) (iAt ds 10) i ∧ mvOkN (rAt ds 5) (iAt ds 9) (iAt ds 10) i = true) (fun v => (rAt ds 5).length - (v.i 0).toNat) ⟨0, by simp [val_i, aget, E.ev], by omega, by simp only [val_d, aget, TT.sat_ret, TT.sat_ite, TT.sat_ob, TT.sat_next, TT.sat_stuck, put_i, put_b, put_d, put_fi, put_fb, put_fd, Ob.ok, B.ev, E.ev, X.ev, AL.ev, cmp_t, cmp_f, arEv, V.plain, V2.plain, S.plain, S0.plain, V.val, V2.val, S.val, S0.val, bV, iV, List.all_cons, List.all_nil, Bool.and_true, Bool.and_self, envOf_i, envOf_b, envOf_d, List.map_cons, List.map_nil, true_and, Bool.not_eq_true', Bool.not_eq_false', Bool.not_not, Bool.and_eq_true, and_f, cell_lg, cell_lb, cell_lr, cmpP, val_i, val_b, val_d, aget, Nat.reduceBEq, beq_self_eq_true, Bool.false_eq_true, if_true, if_false, Nat.reduceLT, Nat.reduceSub, Nat.sub_self, Nat.lt_irrefl]; rfl, rfl⟩ (fun v hv => ?_)
    obtain ⟨i, i0, i1, i2, i3⟩ := hv
    simp only [TT.sat_ret, TT.sat_ite, TT.sat_ob, TT.sat_next, TT.sat_stuck, put_i, put_b, put_d, put_fi, put_fb, put_fd, Ob.ok, B.ev, E.ev, X.ev, AL.ev, cmp_t, cmp_f, arEv, V.plain, V2.plain, S.plain, S0.plain, V.val, V2.val, S.val, S0.val, bV, iV, List.all_cons, List.all_nil, Bool.and_true, Bool.and_self, envOf_i, envOf_b, envOf_d, List.map_cons, List.map_nil, true_and, Bool.not_eq_true', Bool.not_eq_false', Bool.not_not, Bool.and_eq_true, and_f, cell_lg, cell_lb, cell_lr, cmpP, val_i, val_b, val_d, aget, Nat.reduceBEq, beq_self_eq_true, Bool.false_eq_true, if_true, if_false, Nat.reduceLT, Nat.reduceSub, Nat.sub_self, Nat.lt_irrefl, i0, i2, K79b3, mvN_len, updR_len]
    refine ⟨fun hc => ?_, fun hc => ?_⟩
    · have hi : i < (rAt ds 5).length := by omega
      have e := mvN_new (r := rAt ds 5) (s := iAt ds 9) (t := iAt ds 10) hrl hi
      have e0 := mvN_rest (r := rAt ds 5) (s := iAt ds 9) (t := iAt ds 10) i i (Nat.le_refl _)
      have ex : updR (mvN (rAt ds 5) (iAt ds 9) (iAt ds 10) i) i 0 [.i (lg (rAt ds 5) i 0 + iAt ds 9), .i (lg (rAt ds 5) i 1 + iAt ds 10)] = mvN (rAt ds 5) (iAt ds 9) (iAt ds 10) (i + 1) := rfl
      rw [e0 0, e0 1, (W i hi).1, (W i hi).2, ex]
      refine ⟨by omega, by omega, by omega, by omega, by omega, by omega, by omega, by omega, fun q => ?_, fun q => ⟨⟨i + 1, ?_, by omega, rfl, ?_⟩, ?_⟩⟩
      · refine ⟨[], lsAre_nil, fun σ u hw hu => ?_⟩
        obtain ⟨v1, v2, v3, v4, v5, v6, v7, v8, v9, y, rfl, p1, p2, p3, p4, p5, p6, p7, p8, p9, p10⟩ := den_f9 hu
        simp only [S.den, S0.den, V2.den, TT.sat_ret, TT.sat_ite, TT.sat_ob, TT.sat_next, TT.sat_stuck, put_i, put_b, put_d, put_fi, put_fb, put_fd, Ob.ok, B.ev, E.ev, X.ev, AL.ev, cmp_t, cmp_f, arEv, V.plain, V2.plain, S.plain, S0.plain, V.val, V2.val, S.val, S0.val, bV, iV, List.all_cons, List.all_nil, Bool.and_true, Bool.and_self, envOf_i, envOf_b, envOf_d, List.map_cons, List.map_nil, true_and, Bool.not_eq_true', Bool.not_eq_false', Bool.not_not, Bool.and_eq_true, and_f, cell_lg, cell_lb, cell_lr, cmpP, val_i, val_b, val_d, aget, Nat.reduceBEq, beq_self_eq_true, Bool.false_eq_true, if_true, if_false, Nat.reduceLT, Nat.reduceSub, Nat.sub_self, Nat.lt_irrefl] at p1 p2 p3 p4 p5 p6 p7 p8 p9 p10
        subst p1 p2 p3 p4 p5 p7 p8 p10
        rw [hw] at p6 p9
        exact ⟨[], trivial, v6, v9, rfl, p6, p9⟩
      · rw [wrap_in _ (by omega) (by omega)]; rfl
      · rw [e.1, e.2] at q
        rw [mvOkN, i3, Bool.true_and]
        exact q
      · rw [wrap_in _ (by omega) (by omega)]; omega
    · obtain rfl : i = (rAt ds 5).length := by omega
      have hm : mvOkN (rAt ds 5) (iAt ds 9) (iAt ds 10) (rAt ds 5).length = false := hm
      rw [i3] at hm
      cases hm
set_option maxHeartbeats 4000000 in
theorem gSh3 : GivesN Try.prog 19 [feat, pt] [] (fun ds => shOk ds = true ∧ shA ds = false) shR3 := by
  refine fn_givesN K79 (by kernel_rfl) (fun ρ h => ctE12_ok (Sees.of h 132)) (by kernel_rfl) trShifted_is trShifted_low (by decide) (fun w0 vals ds hr ⟨hok, hA⟩ => ?_)
  have hA : ¬ (iAt ds 1 = 3 ∨ iAt ds 1 = 6) := of_decide_eq_false hA
  unfold shOk at hok
  rw [Bool.and_eq_true] at hok
  obtain ⟨hp, _⟩ := feat_disc hok.1 (by omega) (by omega)
  have hv := hok.2
  rw [placeB_iff] at hp hv
  simp only [trShifted, TT.sat_ret, TT.sat_ite, TT.sat_ob, TT.sat_next, TT.sat_stuck, put_i, put_b, put_d, put_fi, put_fb, put_fd, Ob.ok, B.ev, E.ev, X.ev, AL.ev, cmp_t, cmp_f, arEv, V.plain, V2.plain, S.plain, S0.plain, V.val, V2.val, S.val, S0.val, bV, iV, List.all_cons, List.all_nil, Bool.and_true, Bool.and_self, envOf_i, envOf_b, envOf_d, List.map_cons, List.map_nil, true_and, Bool.not_eq_true', Bool.not_eq_false', Bool.not_not, Bool.and_eq_true, and_f, cell_lg, cell_lb, cell_lr, cmpP, val_i, val_b, val_d, aget, Nat.reduceBEq, beq_self_eq_true, Bool.false_eq_true, if_true, if_false, Nat.reduceLT, Nat.reduceSub, Nat.sub_self, Nat.lt_irrefl, K79b76]
  refine ⟨fun h => by omega, fun h3 => ⟨fun h => by omega, fun h6 => ?_⟩⟩
  refine ⟨[], lsAre_nil, fun σ u hw hu => ?_⟩
  obtain ⟨v1, v2, v3, v4, v5, v6, v7, v8, v9, y, rfl, p1, p2, p3, p4, p5, p6, p7, p8, p9, p10⟩ := den_f9 hu
  simp only [S.den, S0.den, V2.den, TT.sat_ret, TT.sat_ite, TT.sat_ob, TT.sat_next, TT.sat_stuck, put_i, put_b, put_d, put_fi, put_fb, put_fd, Ob.ok, B.ev, E.ev, X.ev, AL.ev, cmp_t, cmp_f, arEv, V.plain, V2.plain, S.plain, S0.plain, V.val, V2.val, S.val, S0.val, bV, iV, List.all_cons, List.all_nil, Bool.and_true, Bool.and_self, envOf_i, envOf_b, envOf_d, List.map_cons, List.map_nil, true_and, Bool.not_eq_true', Bool.not_eq_false', Bool.not_not, Bool.and_eq_true, and_f, cell_lg, cell_lb, cell_lr, cmpP, val_i, val_b, val_d, aget, Nat.reduceBEq, beq_self_eq_true, Bool.false_eq_true, if_true, if_false, Nat.reduceLT, Nat.reduceSub, Nat.sub_self, Nat.lt_irrefl, K79b76] at p1 p2 p3 p4 p5 p6 p7 p8 p9 p10
  rw [wrap_in _ (by omega) (by omega)] at p3 p4
  rw [wrap_in _ (by omega) (by omega), wrap_in _ (by omega) (by omega)] at p10
  subst p1 p2 p3 p4 p5 p7 p8 p10
  rw [hw] at p6 p9
  exact ⟨[], trivial, v6, v9, rfl, p6, p9⟩
end Go.Proofs.Ytglepdhapakmbaa
/- Chapter 07: the contract of the law's function that moves a feature. -/
namespace Go.Proofs.Ytglepdhapakmbaa
open Go.RowKit
/-- All symbols so far. -/
def K81 : Interp where
  fi n l := K79.fi n l
  fb n l := match n with | 133 => shA l | 134 => mvOkL l | 135 => shOk l | n => K79.fb n l
  fd _ _ := []
theorem K81_K79 {ρ : Env} (h : Sees ρ K81 140) : Sees ρ K79 132 := h.trans (by decide) fun n l hn => by
  refine ⟨?_, ?_⟩
  ·
    rfl
  ·
    simp only [K81]
    split <;> first | omega | rfl
theorem K81b76 (W : World) (ds l : List D) : (envOf K81 W ds).fb 76 l = featL l := by simp only [envOf, K81, K79, K78, K77, K76, K75, K74, K73, K72, K71, KI, KH, KG, KF, KE, KD, KC, KB, KA, K9, K8, K7, K6, K5, K]
/-- .. with the polygon that is moved. -/
def KMv : Interp := { K81 with fd := fun n l => match n with | 200 => mvL l | _ => [] }
theorem KMv_sees {ρ : Env} (h : ρ.has KMv) : Sees ρ K81 140 := fun n l _ => by rw [h.1, h.2.1]; exact ⟨rfl, rfl⟩
def fCells (e0 e1 e2 e3 e4 : E) (a : S0) (e6 e7 : E) (x8 : X) (b : B) : V := .tup [.agg [.z (.int .i64 e0), .z (.int .i64 e1), .z (.int .i64 e2), .z (.int .i64 e3), .z (.int .i64 e4), .z a, .z (.int .i64 e6), .z (.int .i64 e7), .z (.ext secK x8 false)], .one (.z (.bool b))]
/-- .. where it is known of which features' kinds (m) an area is moved. -/
def cShift (m : E → Bool) (args : List V) (_mem : Mem) (nx : Nat) : T OpR := match argsE [feat, pt] args with
  | some al => match al with
    | .i e0 (.i e1 (.i e2 (.i e3 (.i e4 (.x x5 (.i e6 (.i e7 (.x x8 (.i e9 (.i e10 .nil)))))))))) =>
      if m e0 then .ob (.tru (.fn 133 al)) (.iteS (.fn 134 al) (ctN [nlMv] [.tru (.fn 135 al)] (fCells e0 e1 e2 e3 e4 (.own nx (.lit 0)) e6 e7 x8 (.lit true)) al nx) (ctN [] [.tru (.fn 135 al)] (fCells e0 e1 e2 e3 e4 (.ext ptK x5 false) e6 e7 x8 (.lit false)) al nx))
      else .ob (.tru (.not (.fn 133 al))) (ctN [] [.tru (.fn 135 al)] (fCells e0 e1 (.plus e2 e9) (.plus e3 e10) e4 (.ext ptK x5 false) e6 e7 x8 (.fn 76 (.i e0 (.i e1 (.i (.plus e2 e9) (.i (.plus e3 e10) (.i e4 (.x x5 (.i e6 (.i e7 (.x x8 .nil))))))))))) al nx)
    | _ => .stuck "shifted"
  | none => .stuck "shifted"
theorem den_cells {ρ : Env} {σ : As} {e0 e1 e2 e3 e4 e6 e7 : E} {a : S0} {x8 : X} {b : B} {v sc : Value} (ha : a.den ρ σ v) (hs : Sl ρ.w secK sc (x8.ev ρ) false) :
    (fCells e0 e1 e2 e3 e4 a e6 e7 x8 b).den ρ σ (.tuple #[.agg #[.int .i64 (e0.ev ρ), .int .i64 (e1.ev ρ), .int .i64 (e2.ev ρ), .int .i64 (e3.ev ρ), .int .i64 (e4.ev ρ), v, .int .i64 (e6.ev ρ), .int .i64 (e7.ev ρ), sc], .bool (b.ev ρ)]) :=
  ⟨[_, _], ⟨⟨_, DL9 (a := .z _) (b := .z _) (c := .z _) (d := .z _) (e := .z _) (f := .z _) (g := .z _) (h := .z _) (i := .z _) rfl rfl rfl rfl rfl ha rfl rfl hs, rfl⟩, rfl, trivial⟩, rfl⟩
theorem cShift_ok {ρ : Env} (h : ρ.has KMv) (m : E → Bool) : CtOne Try.prog ρ 19 (cShift m) := by
  intro args mem nx q hq hle σ W vals hr hfr hd
  have b133 : ∀ l, ρ.fb 133 l = shA l := fun l => by rw [(KMv_sees h 133 l (by decide)).2]; simp only [K81]
  have b134 : ∀ l, ρ.fb 134 l = mvOkL l := fun l => by rw [(KMv_sees h 134 l (by decide)).2]; simp only [K81]
  have b135 : ∀ l, ρ.fb 135 l = shOk l := fun l => by rw [(KMv_sees h 135 l (by decide)).2]; simp only [K81]
  have b76 : ∀ l, ρ.fb 76 l = featL l := fun l => by rw [(KMv_sees h 76 l (by decide)).2]; exact K81b76 W [] l
  unfold cShift at hq
  split at hq
  · rename_i al ha
    split at hq
    · rename_i e0 e1 e2 e3 e4 x5 e6 e7 x8 e9 e10
      have hob : ∀ obs : List Ob, obs = [.tru (.fn 135 (.i e0 (.i e1 (.i e2 (.i e3 (.i e4 (.x x5 (.i e6 (.i e7 (.x x8 (.i e9 (.i e10 .nil))))))))))))] → (∀ o ∈ obs, o.ok ρ) → shOk (AL.ev ρ (.i e0 (.i e1 (.i e2 (.i e3 (.i e4 (.x x5 (.i e6 (.i e7 (.x x8 (.i e9 (.i e10 .nil)))))))))))) = true := fun obs he ho => by
        subst he
        have := ho _ (List.mem_cons_self ..)
        simp only [Ob.ok, B.ev, b135] at this
        exact this
      split at hq
      · obtain ⟨hA, hq⟩ := hq
        simp only [Ob.ok, B.ev, b133] at hA
        rcases T.res_iteS hq with ⟨hm, hq⟩ | ⟨hm, hq⟩
        · simp only [B.ev, b134] at hm
          refine ctN_ok gSh1 ha (fun ho => ⟨hob _ rfl ho, hA, hm⟩) (fun l hl a => ?_) hq (fun σ' vs u hv hl hres => ?_) hr hfr hd
          · rw [List.mem_singleton] at hl
            subst hl
            rw [h.2.2]; rfl
          · obtain ⟨v, sc, rfl, rfl, hs⟩ := hres
            obtain ⟨h1, a, n, c, h2⟩ := hv 0 v rfl
            exact den_cells (a := .own nx (.lit 0)) ⟨⟨a, n, c, h2⟩, h1⟩ hs
        · simp only [B.ev, b134] at hm
          refine ctN_ok gSh2 ha (fun ho => ⟨hob _ rfl ho, hA, hm⟩) (fun l hl a => by cases hl) hq (fun σ' vs u hv hl hres => ?_) hr hfr hd
          obtain ⟨a, sc, rfl, hx, hs⟩ := hres
          exact den_cells (a := .ext ptK x5 false) hx hs
      · obtain ⟨hA, hq⟩ := hq
        simp only [Ob.ok, B.ev, b133, Bool.not_eq_true'] at hA
        refine ctN_ok gSh3 ha (fun ho => ⟨hob _ rfl ho, hA⟩) (fun l hl a => by cases hl) hq (fun σ' vs u hv hl hres => ?_) hr hfr hd
        obtain ⟨a, sc, rfl, hx, hs⟩ := hres
        have e : featL (mvRad (AL.ev ρ (.i e0 (.i e1 (.i e2 (.i e3 (.i e4 (.x x5 (.i e6 (.i e7 (.x x8 (.i e9 (.i e10 .nil))))))))))))) = (B.fn 76 (.i e0 (.i e1 (.i (.plus e2 e9) (.i (.plus e3 e10) (.i e4 (.x x5 (.i e6 (.i e7 (.x x8 .nil)))))))))).ev ρ := by
          simp only [B.ev, b76, AL.ev, E.ev]
          rfl
        rw [e]
        exact den_cells (a := .ext ptK x5 false) hx hs
    · exact hq.elim
  · exact hq.elim
def mWay (f g : Bool) : E → Bool | .var 0 => f | _ => g
def ctAA : Ct := (19, cShift (mWay true true)) :: ctE12
def ctAD : Ct := (19, cShift (mWay true false)) :: ctE12
def ctDA : Ct := (19, cShift (mWay false true)) :: ctE12
def ctDD : Ct := (19, cShift (mWay false false)) :: ctE12
theorem ctMv_ok {ρ : Env} (h : ρ.has KMv) (m : E → Bool) : CtOk Try.prog ρ ((19, cShift m) :: ctE12) := .cons (cShift_ok h m) (ctE12_ok (K81_K79 (KMv_sees h)))
end Go.Proofs.Ytglepdhapakmbaa
/- Chapter 07: the law FeatureMoved. -/
namespace Go.Proofs.Ytglepdhapakmbaa
open Go.RowKit
section
variable {s t i1 k1 x1 y1 r1 d1 s1 x1' y1' i2 k2 x2 y2 r2 d2 s2 x2' y2' px py : Int} {a1 a1' t1 a2 a2' t2 : Rows}
theorem minO_b {r : Rows} (hp : ∀ k : Nat, k < r.length → placeB (lg r k 0) (lg r k 1) = true) : ∀ (f i : Nat) (x y : Int), i + f = r.length → (-1000000 ≤ x ∧ x ≤ 1000000) → (-1000000 ≤ minO r f i x y ∧ minO r f i x y ≤ 1000000) ∧ (-1000000 ≤ maxO r f i x y ∧ maxO r f i x y ≤ 1000000)
  | 0, _, _, _, _, h => ⟨h, h⟩
  | f + 1, i, x, y, hi, h => by
    have hq := hp i (by omega)
    rw [placeB_iff] at hq
    have e1 := minO_b hp f (i + 1) x y (by omega) h
    have e2 := minO_b hp f (i + 1) (lg r i 0) (lg r i 1) (by omega) hq.1
    rw [minO, maxO]
    refine ⟨?_, ?_⟩
    · split
      · exact e2.1
      · exact e1.1
    · split
      · exact e2.2
      · exact e1.2
theorem minY_b {r : Rows} (hp : ∀ k : Nat, k < r.length → placeB (lg r k 0) (lg r k 1) = true) : ∀ (f i : Nat) (y : Int), i + f = r.length → (-1000000 ≤ y ∧ y ≤ 1000000) → (-1000000 ≤ minY r f i y ∧ minY r f i y ≤ 1000000) ∧ (-1000000 ≤ maxY r f i y ∧ maxY r f i y ≤ 1000000)
  | 0, _, _, _, h => ⟨h, h⟩
  | f + 1, i, y, hi, h => by
    have hq := hp i (by omega)
    rw [placeB_iff] at hq
    have e1 := minY_b hp f (i + 1) y (by omega) h
    have e2 := minY_b hp f (i + 1) (lg r i 1) (by omega) hq.2
    rw [minY, maxY]
    refine ⟨?_, ?_⟩
    · split
      · exact e2.1
      · exact e1.1
    · split
      · exact e2.2
      · exact e1.2
theorem box_mv (h : featB i1 k1 x1 y1 r1 a1 d1 s1 t1 = true) (h' : featB i1 k1 x1' y1' r1 a1' d1 s1 t1 = true) (m : MvF s t k1 x1 y1 r1 a1 x1' y1' a1') (hv : placeB s t = true) :
    fbE [.i i1, .i k1, .i x1, .i y1, .i r1, .l a1, .i d1, .i s1, .l t1] = 0 ∧ fbE [.i i1, .i k1, .i x1', .i y1', .i r1, .l a1', .i d1, .i s1, .l t1] = 0 ∧
    fbA [.i i1, .i k1, .i x1', .i y1', .i r1, .l a1', .i d1, .i s1, .l t1] = IntKind.i64.wrap (fbA [.i i1, .i k1, .i x1, .i y1, .i r1, .l a1, .i d1, .i s1, .l t1] + s) ∧
    fbB [.i i1, .i k1, .i x1', .i y1', .i r1, .l a1', .i d1, .i s1, .l t1] = IntKind.i64.wrap (fbB [.i i1, .i k1, .i x1, .i y1, .i r1, .l a1, .i d1, .i s1, .l t1] + s) ∧
    fbC [.i i1, .i k1, .i x1', .i y1', .i r1, .l a1', .i d1, .i s1, .l t1] = IntKind.i64.wrap (fbC [.i i1, .i k1, .i x1, .i y1, .i r1, .l a1, .i d1, .i s1, .l t1] + t) ∧
    fbD [.i i1, .i k1, .i x1', .i y1', .i r1, .l a1', .i d1, .i s1, .l t1] = IntKind.i64.wrap (fbD [.i i1, .i k1, .i x1, .i y1, .i r1, .l a1, .i d1, .i s1, .l t1] + t) := by
  have e : ∀ x y a, featL [.i i1, .i k1, .i x, .i y, .i r1, .l a, .i d1, .i s1, .l t1] = featB i1 k1 x y r1 a d1 s1 t1 := fun _ _ _ => rfl
  have eA : ∀ x y a, fbA [.i i1, .i k1, .i x, .i y, .i r1, .l a, .i d1, .i s1, .l t1] = if featB i1 k1 x y r1 a d1 s1 t1 then fbox k1 x r1 (pbA [.l a]) (-1) else 0 := fun _ _ _ => rfl
  have eB : ∀ x y a, fbB [.i i1, .i k1, .i x, .i y, .i r1, .l a, .i d1, .i s1, .l t1] = if featB i1 k1 x y r1 a d1 s1 t1 then fbox k1 x r1 (pbB [.l a]) 1 else 0 := fun _ _ _ => rfl
  have eC : ∀ x y a, fbC [.i i1, .i k1, .i x, .i y, .i r1, .l a, .i d1, .i s1, .l t1] = if featB i1 k1 x y r1 a d1 s1 t1 then fbox k1 y r1 (pbC [.l a]) (-1) else 0 := fun _ _ _ => rfl
  have eD : ∀ x y a, fbD [.i i1, .i k1, .i x, .i y, .i r1, .l a, .i d1, .i s1, .l t1] = if featB i1 k1 x y r1 a d1 s1 t1 then fbox k1 y r1 (pbD [.l a]) 1 else 0 := fun _ _ _ => rfl
  have eE : ∀ x y a, fbE [.i i1, .i k1, .i x, .i y, .i r1, .l a, .i d1, .i s1, .l t1] = if featB i1 k1 x y r1 a d1 s1 t1 then 0 else 1 := fun _ _ _ => rfl
  rw [placeB_iff] at hv
  have hr := m.rad
  rw [eA, eB, eC, eD, eE, eA, eB, eC, eD, eE, h, h']
  simp only [if_true]
  refine ⟨trivial, trivial, ?_⟩
  unfold fbox
  by_cases ek : k1 = 3 ∨ k1 = 6
  · obtain ⟨mp, p1, p2⟩ := m.area ek
    have l1 := polyB_len p1
    have hpl : ∀ k : Nat, k < a1.length → placeB (lg a1 k 0) (lg a1 k 1) = true := fun k hk => polyB_pl p1 hk
    have z := hpl 0 (by omega)
    have e0 := mp.at (k := 0) (by omega)
    simp only [Int.natCast_zero] at z e0
    rw [placeB_iff] at z
    have b1 := minO_b hpl (a1.length - 1) 1 (lg a1 0 0) (lg a1 0 1) (by omega) z.1
    have b2 := minY_b hpl (a1.length - 1) 1 (lg a1 0 1) (by omega) z.2
    have q1 := minO_mv mp (a1.length - 1) 1 (lg a1 0 0) (lg a1 0 1) (by omega)
    have q2 := minY_mv mp (a1.length - 1) 1 (lg a1 0 1) (by omega)
    have fA : ∀ a, polyB a = true → pbA [.l a] = minO a (a.length - 1) 1 (lg a 0 0) (lg a 0 1) := fun a ha => if_pos ha
    have fB : ∀ a, polyB a = true → pbB [.l a] = maxO a (a.length - 1) 1 (lg a 0 0) (lg a 0 1) := fun a ha => if_pos ha
    have fC : ∀ a, polyB a = true → pbC [.l a] = minY a (a.length - 1) 1 (lg a 0 1) := fun a ha => if_pos ha
    have fD : ∀ a, polyB a = true → pbD [.l a] = maxY a (a.length - 1) 1 (lg a 0 1) := fun a ha => if_pos ha
    simp only [if_neg (show ¬ k1 = 4 by omega), if_pos ek]
    rw [fA _ p1, fA _ p2, fB _ p1, fB _ p2, fC _ p1, fC _ p2, fD _ p1, fD _ p2, mp.c.1, e0.1, e0.2, q1.1, q1.2, q2.1, q2.2]
    refine ⟨?_, ?_, ?_, ?_⟩ <;> (rw [wrap_in _ (by omega) (by omega)])
  · obtain ⟨rfl, rfl, m1, _⟩ := m.disc ek
    rw [placeB_iff] at m1
    by_cases e4 : k1 = 4
    · simp only [if_pos e4]
      refine ⟨?_, ?_, ?_, ?_⟩ <;> (rw [wrap_in _ (by omega) (by omega)])
    · simp only [if_neg e4, if_neg ek]
      refine ⟨?_, ?_, ?_, ?_⟩ <;> (rw [wrap_in _ (by omega) (by omega)]; omega)
theorem two_mv (h : featB i1 k1 x1 y1 r1 a1 d1 s1 t1 = true) (h' : featB i1 k1 x1' y1' r1 a1' d1 s1 t1 = true) (m : MvF s t k1 x1 y1 r1 a1 x1' y1' a1')
    (g : featB i2 k2 x2 y2 r2 a2 d2 s2 t2 = true) (g' : featB i2 k2 x2' y2' r2 a2' d2 s2 t2 = true) (n : MvF s t k2 x2 y2 r2 a2 x2' y2' a2') (hp : PP s t px py) :
    (covE [.i i1, .i k1, .i x1, .i y1, .i r1, .l a1, .i d1, .i s1, .l t1, .i px, .i py] = 0 ∧ covE [.i i1, .i k1, .i x1', .i y1', .i r1, .l a1', .i d1, .i s1, .l t1, .i (px + s), .i (py + t)] = 0) ∧
    covR [.i i1, .i k1, .i x1', .i y1', .i r1, .l a1', .i d1, .i s1, .l t1, .i (px + s), .i (py + t)] = covR [.i i1, .i k1, .i x1, .i y1, .i r1, .l a1, .i d1, .i s1, .l t1, .i px, .i py] ∧
    (feE [.i i1, .i k1, .i x1, .i y1, .i r1, .l a1, .i d1, .i s1, .l t1, .i i2, .i k2, .i x2, .i y2, .i r2, .l a2, .i d2, .i s2, .l t2] = 0 ∧ feE [.i i1, .i k1, .i x1', .i y1', .i r1, .l a1', .i d1, .i s1, .l t1, .i i2, .i k2, .i x2', .i y2', .i r2, .l a2', .i d2, .i s2, .l t2] = 0) ∧
    feHoR [.i i1, .i k1, .i x1', .i y1', .i r1, .l a1', .i d1, .i s1, .l t1, .i i2, .i k2, .i x2', .i y2', .i r2, .l a2', .i d2, .i s2, .l t2] = feHoR [.i i1, .i k1, .i x1, .i y1, .i r1, .l a1, .i d1, .i s1, .l t1, .i i2, .i k2, .i x2, .i y2, .i r2, .l a2, .i d2, .i s2, .l t2] ∧
    feToR [.i i1, .i k1, .i x1', .i y1', .i r1, .l a1', .i d1, .i s1, .l t1, .i i2, .i k2, .i x2', .i y2', .i r2, .l a2', .i d2, .i s2, .l t2] = feToR [.i i1, .i k1, .i x1, .i y1, .i r1, .l a1, .i d1, .i s1, .l t1, .i i2, .i k2, .i x2, .i y2, .i r2, .l a2, .i d2, .i s2, .l t2] ∧
    feStR [.i i1, .i k1, .i x1', .i y1', .i r1, .l a1', .i d1, .i s1, .l t1, .i i2, .i k2, .i x2', .i y2', .i r2, .l a2', .i d2, .i s2, .l t2] = feStR [.i i1, .i k1, .i x1, .i y1, .i r1, .l a1, .i d1, .i s1, .l t1, .i i2, .i k2, .i x2, .i y2, .i r2, .l a2, .i d2, .i s2, .l t2] := by
  have e1 : ∀ x y a p q, covE [.i i1, .i k1, .i x, .i y, .i r1, .l a, .i d1, .i s1, .l t1, .i p, .i q] = if featB i1 k1 x y r1 a d1 s1 t1 && placeB p q then 0 else 1 := fun _ _ _ _ _ => rfl
  have e2 : ∀ x y a p q, covR [.i i1, .i k1, .i x, .i y, .i r1, .l a, .i d1, .i s1, .l t1, .i p, .i q] = (featB i1 k1 x y r1 a d1 s1 t1 && placeB p q && covX k1 x y r1 a p q) := fun _ _ _ _ _ => rfl
  have e3 : ∀ x y a x2 y2 a2, feE [.i i1, .i k1, .i x, .i y, .i r1, .l a, .i d1, .i s1, .l t1, .i i2, .i k2, .i x2, .i y2, .i r2, .l a2, .i d2, .i s2, .l t2] = if featB i1 k1 x y r1 a d1 s1 t1 && featB i2 k2 x2 y2 r2 a2 d2 s2 t2 then 0 else 1 := fun _ _ _ _ _ _ => rfl
  have e4 : ∀ x y a x2 y2 a2, feHoR [.i i1, .i k1, .i x, .i y, .i r1, .l a, .i d1, .i s1, .l t1, .i i2, .i k2, .i x2, .i y2, .i r2, .l a2, .i d2, .i s2, .l t2] = (featB i1 k1 x y r1 a d1 s1 t1 && featB i2 k2 x2 y2 r2 a2 d2 s2 t2 && holdX k1 x y r1 a k2 x2 y2 r2 a2) := fun _ _ _ _ _ _ => rfl
  have e5 : ∀ x y a x2 y2 a2, feToR [.i i1, .i k1, .i x, .i y, .i r1, .l a, .i d1, .i s1, .l t1, .i i2, .i k2, .i x2, .i y2, .i r2, .l a2, .i d2, .i s2, .l t2] = (featB i1 k1 x y r1 a d1 s1 t1 && featB i2 k2 x2 y2 r2 a2 d2 s2 t2 && touchX k1 x y r1 a k2 x2 y2 r2 a2) := fun _ _ _ _ _ _ => rfl
  have e6 : ∀ x y a x2 y2 a2, feStR [.i i1, .i k1, .i x, .i y, .i r1, .l a, .i d1, .i s1, .l t1, .i i2, .i k2, .i x2, .i y2, .i r2, .l a2, .i d2, .i s2, .l t2] = (featB i1 k1 x y r1 a d1 s1 t1 && featB i2 k2 x2 y2 r2 a2 d2 s2 t2 && standX k1 x y r1 a d1 t1 k2 x2 y2 r2 a2 d2 t2) := fun _ _ _ _ _ _ => rfl
  simp only [e1, e2, e3, e4, e5, e6, h, h', g, g', hp.1, hp.2, covX_mv m hp, holdX_mv m n, touchX_mv m n, standX_mv m n]
  exact ⟨⟨rfl, rfl⟩, trivial, ⟨rfl, rfl⟩, trivial, trivial, trivial⟩
theorem mvF_area {r : Rows} (hk : k1 = 3 ∨ k1 = 6) (h : featB i1 k1 x1 y1 r1 r d1 s1 t1 = true) (hrl : ∀ i : Nat, i < r.length → rl r i = 2) (hm : mvOkN r s t r.length = true) :
    MvF s t k1 x1 y1 r1 r x1 y1 (mvN r s t r.length) ∧ featB i1 k1 x1 y1 r1 (mvN r s t r.length) d1 s1 t1 = true := by
  have hp := feat_area h hk
  have mp : MvP r (mvN r s t r.length) s t := ⟨mvN_mv hrl, fun k hk => ⟨polyB_pl hp hk, (mvOkN_iff _).1 hm k hk⟩⟩
  have hp' := poly_mv mp hp
  have h0 := featB_iff.mp h
  refine ⟨⟨fun _ => ⟨mp, hp, hp'⟩, fun q => absurd hk q, h0.2.2.2.1⟩, featB_iff.mpr ?_⟩
  obtain ⟨q1, q2, q3, q4, q | q | q⟩ := h0
  · omega
  · exact ⟨q1, q2, q3, q4, .inr (.inl ⟨q.1, hp', q.2.2⟩)⟩
  · omega
theorem mvF_disc {r : Rows} (hk : ¬ (k1 = 3 ∨ k1 = 6)) (h : featB i1 k1 x1 y1 r1 r d1 s1 t1 = true) (h' : featB i1 k1 (x1 + s) (y1 + t) r1 r d1 s1 t1 = true) :
    MvF s t k1 x1 y1 r1 r (x1 + s) (y1 + t) r :=
  ⟨fun q => absurd q hk, fun _ => ⟨rfl, rfl, (feat_disc h (by omega) (by omega)).1, (feat_disc h' (by omega) (by omega)).1⟩, (feat_disc h (by omega) (by omega)).2⟩
end
end Go.Proofs.Ytglepdhapakmbaa
