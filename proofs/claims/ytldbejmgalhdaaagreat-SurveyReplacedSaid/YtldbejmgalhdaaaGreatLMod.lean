/- LMod, merged: TVs, Vs. -/
import Derived.Test.YtldbejmgalhdaaaGreatHJ
import Derived.Test.YtldbejmgalhdaaaGreatLCla
set_option linter.unusedSimpArgs false
set_option linter.unusedVariables false
/- Chapter 09: the tree of the law SurveyModel. -/
namespace Go.Proofs.YtldbejmgalhdaaaGreat
open Go.RowKit
def trLawMod : TT OpR :=
(.ite (.cmp .leq (.len (.var 0)) (.lit 16))
 (.ite (.not (.cmp .leq (.len (.var 1)) (.lit 12)))
 (.ret ((.v (.one (.z (.bool (.lit true))))), [], 2))
 (.ite (.cmp .neq (.fn 160 (.x (.var 0) (.x (.var 1) .nil))) (.lit 0))
 (.ite (.cmp .eql (.fn 160 (.x (.var 0) (.x (.var 1) .nil))) (.lit 1))
 (.ret ((.v (.one (.z (.bool (.lit true))))), [], 4))
 (.ret ((.v (.one (.z (.bool (.lit false))))), [], 4)))
 (.loop 0 5000 ⟨[], [(0, (.lit false))], []⟩
 (.ite (.var 5000)
 (.loop 1 6000 ⟨[(0, (.lit 0)), (1, (.lit 0))], [], []⟩
 (.ite (.cmp .lss (.var 6001) (.len (.fn 2 (.x (.var 0) (.x (.var 1) .nil)))))
 (.ob (.tru (.cmp .leq (.lit 0) (.var 6001)))
 (.ob (.tru (.cmp .lss (.var 6001) (.len (.fn 2 (.x (.var 0) (.x (.var 1) .nil))))))
 (.loop 2 8000 ⟨[(0, (.var 6000)), (1, (.lit 0))], [], []⟩
 (.ite (.cmp .lss (.var 8001) (.len (.var 0)))
 (.ob (.tru (.cmp .leq (.lit 0) (.var 8001)))
 (.ob (.tru (.cmp .lss (.var 8001) (.len (.var 0))))
 (.ite (.cmp .eql (.rd (.var 0) (.var 8001) 0) (.rd (.fn 2 (.x (.var 0) (.x (.var 1) .nil))) (.var 6001) 0))
 (.ite (.fn 160 (.x (.fn 1 (.x (.var 0) (.x (.var 1) .nil))) (.i (.rd (.var 0) (.var 8001) 0) .nil)))
 (.ite (.fn 129 (.i (.rd (.fn 2 (.x (.var 0) (.x (.var 1) .nil))) (.var 6001) 0) (.i (.rd (.fn 2 (.x (.var 0) (.x (.var 1) .nil))) (.var 6001) 1) (.i (.rd (.fn 2 (.x (.var 0) (.x (.var 1) .nil))) (.var 6001) 2) (.i (.rd (.fn 2 (.x (.var 0) (.x (.var 1) .nil))) (.var 6001) 3) (.i (.rd (.fn 2 (.x (.var 0) (.x (.var 1) .nil))) (.var 6001) 4) (.x (.rd (.fn 2 (.x (.var 0) (.x (.var 1) .nil))) (.var 6001) 5) (.i (.rd (.fn 2 (.x (.var 0) (.x (.var 1) .nil))) (.var 6001) 6) (.i (.rd (.fn 2 (.x (.var 0) (.x (.var 1) .nil))) (.var 6001) 7) (.x (.rd (.fn 2 (.x (.var 0) (.x (.var 1) .nil))) (.var 6001) 8) (.i (.rd (.var 0) (.var 8001) 0) (.i (.lit 1) (.i (.rd (.var 0) (.var 8001) 1) (.i (.rd (.var 0) (.var 8001) 2) (.i (.rd (.var 0) (.var 8001) 3) (.x .nil (.i (.rd (.var 0) (.var 8001) 4) (.i (.lit 0) (.x .nil .nil)))))))))))))))))))
 (.next 2 ⟨[(0, (.ar .add .i64 (.var 8000) (.lit 1))), (1, (.ar .add .i64 (.var 8001) (.lit 1)))], [], []⟩)
 (.next 2 ⟨[(0, (.var 8000)), (1, (.ar .add .i64 (.var 8001) (.lit 1)))], [], []⟩))
 (.next 2 ⟨[(0, (.var 8000)), (1, (.ar .add .i64 (.var 8001) (.lit 1)))], [], []⟩))
 (.next 2 ⟨[(0, (.var 8000)), (1, (.ar .add .i64 (.var 8001) (.lit 1)))], [], []⟩))))
 (.loop 3 12000 ⟨[(0, (.var 8000)), (1, (.lit 0))], [], []⟩
 (.ite (.cmp .lss (.var 12001) (.len (.var 1)))
 (.ob (.tru (.cmp .leq (.lit 0) (.var 12001)))
 (.ob (.tru (.cmp .lss (.var 12001) (.len (.var 1))))
 (.ite (.fn 129 (.i (.rd (.var 1) (.var 12001) 0) (.i (.rd (.var 1) (.var 12001) 1) (.i (.rd (.var 1) (.var 12001) 2) (.i (.rd (.var 1) (.var 12001) 3) (.i (.rd (.var 1) (.var 12001) 4) (.x (.rd (.var 1) (.var 12001) 5) (.i (.rd (.var 1) (.var 12001) 6) (.i (.rd (.var 1) (.var 12001) 7) (.x (.rd (.var 1) (.var 12001) 8) (.i (.rd (.fn 2 (.x (.var 0) (.x (.var 1) .nil))) (.var 6001) 0) (.i (.rd (.fn 2 (.x (.var 0) (.x (.var 1) .nil))) (.var 6001) 1) (.i (.rd (.fn 2 (.x (.var 0) (.x (.var 1) .nil))) (.var 6001) 2) (.i (.rd (.fn 2 (.x (.var 0) (.x (.var 1) .nil))) (.var 6001) 3) (.i (.rd (.fn 2 (.x (.var 0) (.x (.var 1) .nil))) (.var 6001) 4) (.x (.rd (.fn 2 (.x (.var 0) (.x (.var 1) .nil))) (.var 6001) 5) (.i (.rd (.fn 2 (.x (.var 0) (.x (.var 1) .nil))) (.var 6001) 6) (.i (.rd (.fn 2 (.x (.var 0) (.x (.var 1) .nil))) (.var 6001) 7) (.x (.rd (.fn 2 (.x (.var 0) (.x (.var 1) .nil))) (.var 6001) 8) .nil)))))))))))))))))))
 (.next 3 ⟨[(0, (.ar .add .i64 (.var 12000) (.lit 1))), (1, (.ar .add .i64 (.var 12001) (.lit 1)))], [], []⟩)
 (.next 3 ⟨[(0, (.var 12000)), (1, (.ar .add .i64 (.var 12001) (.lit 1)))], [], []⟩))))
 (.next 1 ⟨[(0, (.var 12000)), (1, (.ar .add .i64 (.var 6001) (.lit 1)))], [], []⟩)))))))
 (.ite (.var 5001)
 (.ret ((.v (.one (.z (.bool (.cmp .eql (.var 6000) (.len (.fn 2 (.x (.var 0) (.x (.var 1) .nil))))))))), [], 13))
 (.ret ((.v (.one (.z (.bool (.lit false))))), [], 13)))))
 (.ite (.cmp .eql (.fn 160 (.x (.var 0) (.x (.var 1) .nil))) (.lit 0))
 (.ite (.fn 137 (.x (.fn 2 (.x (.var 0) (.x (.var 1) .nil))) .nil))
 (.next 0 ⟨[], [(1, (.cmp .eql (.len (.fn 2 (.x (.var 0) (.x (.var 1) .nil)))) (.ar .add .i64 (.len (.fn 1 (.x (.var 0) (.x (.var 1) .nil)))) (.len (.var 1))))), (0, (.lit true))], []⟩)
 (.next 0 ⟨[], [(1, (.lit false)), (0, (.lit true))], []⟩))
 (.next 0 ⟨[], [(1, (.lit false)), (0, (.lit true))], []⟩))))))
 (.ret ((.v (.one (.z (.bool (.lit true))))), [], 2)))
def trLawMod_h : List (Nat × St) := [
(5, ⟨(List.append [(.v (.one (.z .any))), (.v (.one (.z (.ptr 0 0)))), (.v (.one (.z (.bool (.lit false))))), (.v (.one (.z (.bool (.var 5001))))), (.v (.one (.z (.own 2 (.lit 0))))), (.v (.one (.z .any))), (.v (.one (.z (.own 3 (.lit 0))))), (.v (.one (.z .any))), (.v (.one (.z (.int .i64 (.var 6000)))))] (List.append (List.replicate 53 V.any) (List.append [(.v (.one (.z (.own 2 (.lit 0))))), (.v (.one (.z (.int .i64 (.len (.fn 2 (.x (.var 0) (.x (.var 1) .nil)))))))), (.v (.one (.z (.int .i64 (.var 6001)))))] (List.replicate 51 V.any)))), [(3, (.own 3 [(.int .i64)] (.fn 1 (.x (.var 0) (.x (.var 1) .nil))) (.lit 0))), (2, (.own 59 featK (.fn 2 (.x (.var 0) (.x (.var 1) .nil))) (.lit 0))), (0, (.cells 25 [(.z (.ext sndK (.var 0) false)), (.z (.ext featK (.var 1) false))]))], 6, []⟩),
(7, ⟨(List.append [(.v (.one (.z .any))), (.v (.one (.z (.ptr 0 0)))), (.v (.one (.z (.bool (.lit false))))), (.v (.one (.z (.bool (.var 5001))))), (.v (.one (.z (.own 2 (.lit 0))))), (.v (.one (.z .any))), (.v (.one (.z (.own 3 (.lit 0))))), (.v (.one (.z .any))), (.v (.one (.z (.int .i64 (.var 8000))))), (.v (.one (.z .any))), (.v (.one (.z (.ptr 6 0))))] (List.append (List.replicate 51 V.any) (List.append [(.v (.one (.z (.own 2 (.lit 0))))), (.v (.one (.z (.int .i64 (.len (.fn 2 (.x (.var 0) (.x (.var 1) .nil)))))))), (.v (.one (.z (.int .i64 (.var 6001))))), (.v (.one (.z (.bool (.cmp .lss (.var 6001) (.len (.fn 2 (.x (.var 0) (.x (.var 1) .nil))))))))), (.v (.one (.z (.optr 2 (.lit 0) 9 (.var 6001) 0)))), (.v (.agg [(.z (.int .i64 (.rd (.fn 2 (.x (.var 0) (.x (.var 1) .nil))) (.var 6001) 0))), (.z (.int .i64 (.rd (.fn 2 (.x (.var 0) (.x (.var 1) .nil))) (.var 6001) 1))), (.z (.int .i64 (.rd (.fn 2 (.x (.var 0) (.x (.var 1) .nil))) (.var 6001) 2))), (.z (.int .i64 (.rd (.fn 2 (.x (.var 0) (.x (.var 1) .nil))) (.var 6001) 3))), (.z (.int .i64 (.rd (.fn 2 (.x (.var 0) (.x (.var 1) .nil))) (.var 6001) 4))), (.z (.ext [(.int .i64), (.int .i64)] (.rd (.fn 2 (.x (.var 0) (.x (.var 1) .nil))) (.var 6001) 5) false)), (.z (.int .i64 (.rd (.fn 2 (.x (.var 0) (.x (.var 1) .nil))) (.var 6001) 6))), (.z (.int .i64 (.rd (.fn 2 (.x (.var 0) (.x (.var 1) .nil))) (.var 6001) 7))), (.z (.ext [(.int .i64), (.int .i64), (.int .i64), (.int .i64), (.int .i64), (.int .i64)] (.rd (.fn 2 (.x (.var 0) (.x (.var 1) .nil))) (.var 6001) 8) false))])), (.v (.one (.z (.ptr 0 0)))), (.v (.one (.z (.ext sndK (.var 0) false)))), (.v (.one (.z (.int .i64 (.len (.var 0)))))), (.v (.one (.z (.int .i64 (.var 8001)))))] (List.replicate 44 V.any)))), [(6, (.cells 59 [(.z (.int .i64 (.rd (.fn 2 (.x (.var 0) (.x (.var 1) .nil))) (.var 6001) 0))), (.z (.int .i64 (.rd (.fn 2 (.x (.var 0) (.x (.var 1) .nil))) (.var 6001) 1))), (.z (.int .i64 (.rd (.fn 2 (.x (.var 0) (.x (.var 1) .nil))) (.var 6001) 2))), (.z (.int .i64 (.rd (.fn 2 (.x (.var 0) (.x (.var 1) .nil))) (.var 6001) 3))), (.z (.int .i64 (.rd (.fn 2 (.x (.var 0) (.x (.var 1) .nil))) (.var 6001) 4))), (.z (.ext [(.int .i64), (.int .i64)] (.rd (.fn 2 (.x (.var 0) (.x (.var 1) .nil))) (.var 6001) 5) false)), (.z (.int .i64 (.rd (.fn 2 (.x (.var 0) (.x (.var 1) .nil))) (.var 6001) 6))), (.z (.int .i64 (.rd (.fn 2 (.x (.var 0) (.x (.var 1) .nil))) (.var 6001) 7))), (.z (.ext [(.int .i64), (.int .i64), (.int .i64), (.int .i64), (.int .i64), (.int .i64)] (.rd (.fn 2 (.x (.var 0) (.x (.var 1) .nil))) (.var 6001) 8) false))])), (3, (.own 3 [(.int .i64)] (.fn 1 (.x (.var 0) (.x (.var 1) .nil))) (.lit 0))), (2, (.own 59 featK (.fn 2 (.x (.var 0) (.x (.var 1) .nil))) (.lit 0))), (0, (.cells 25 [(.z (.ext sndK (.var 0) false)), (.z (.ext featK (.var 1) false))]))], 8, []⟩),
(11, ⟨(List.append [(.v (.one (.z .any))), (.v (.one (.z (.ptr 0 0)))), (.v (.one (.z (.bool (.lit false))))), (.v (.one (.z (.bool (.var 5001))))), (.v (.one (.z (.own 2 (.lit 0))))), (.v (.one (.z .any))), (.v (.one (.z (.own 3 (.lit 0))))), (.v (.one (.z .any))), (.v (.one (.z (.int .i64 (.var 12000))))), (.v (.one (.z .any))), (.v (.one (.z (.ptr 6 0))))] (List.append (List.replicate 51 V.any) (List.append [(.v (.one (.z (.own 2 (.lit 0))))), (.v (.one (.z (.int .i64 (.len (.fn 2 (.x (.var 0) (.x (.var 1) .nil)))))))), (.v (.one (.z (.int .i64 (.var 6001))))), (.v (.one (.z (.bool (.cmp .lss (.var 6001) (.len (.fn 2 (.x (.var 0) (.x (.var 1) .nil))))))))), (.v (.one (.z (.optr 2 (.lit 0) 9 (.var 6001) 0)))), (.v (.agg [(.z (.int .i64 (.rd (.fn 2 (.x (.var 0) (.x (.var 1) .nil))) (.var 6001) 0))), (.z (.int .i64 (.rd (.fn 2 (.x (.var 0) (.x (.var 1) .nil))) (.var 6001) 1))), (.z (.int .i64 (.rd (.fn 2 (.x (.var 0) (.x (.var 1) .nil))) (.var 6001) 2))), (.z (.int .i64 (.rd (.fn 2 (.x (.var 0) (.x (.var 1) .nil))) (.var 6001) 3))), (.z (.int .i64 (.rd (.fn 2 (.x (.var 0) (.x (.var 1) .nil))) (.var 6001) 4))), (.z (.ext [(.int .i64), (.int .i64)] (.rd (.fn 2 (.x (.var 0) (.x (.var 1) .nil))) (.var 6001) 5) false)), (.z (.int .i64 (.rd (.fn 2 (.x (.var 0) (.x (.var 1) .nil))) (.var 6001) 6))), (.z (.int .i64 (.rd (.fn 2 (.x (.var 0) (.x (.var 1) .nil))) (.var 6001) 7))), (.z (.ext [(.int .i64), (.int .i64), (.int .i64), (.int .i64), (.int .i64), (.int .i64)] (.rd (.fn 2 (.x (.var 0) (.x (.var 1) .nil))) (.var 6001) 8) false))])), (.v (.one (.z (.ptr 0 0)))), (.v (.one (.z (.ext sndK (.var 0) false)))), (.v (.one (.z (.int .i64 (.len (.var 0)))))), (.v (.one (.z (.int .i64 (.var 8001))))), (.v (.one (.z (.bool (.cmp .lss (.var 8001) (.len (.var 0)))))))] (List.append (List.replicate 22 V.any) (List.append [(.v (.one (.z (.ptr 0 1)))), (.v (.one (.z (.ext featK (.var 1) false)))), (.v (.one (.z (.int .i64 (.len (.var 1)))))), (.v (.one (.z (.int .i64 (.var 12001)))))] (List.replicate 17 V.any)))))), [(6, (.cells 59 [(.z (.int .i64 (.rd (.fn 2 (.x (.var 0) (.x (.var 1) .nil))) (.var 6001) 0))), (.z (.int .i64 (.rd (.fn 2 (.x (.var 0) (.x (.var 1) .nil))) (.var 6001) 1))), (.z (.int .i64 (.rd (.fn 2 (.x (.var 0) (.x (.var 1) .nil))) (.var 6001) 2))), (.z (.int .i64 (.rd (.fn 2 (.x (.var 0) (.x (.var 1) .nil))) (.var 6001) 3))), (.z (.int .i64 (.rd (.fn 2 (.x (.var 0) (.x (.var 1) .nil))) (.var 6001) 4))), (.z (.ext [(.int .i64), (.int .i64)] (.rd (.fn 2 (.x (.var 0) (.x (.var 1) .nil))) (.var 6001) 5) false)), (.z (.int .i64 (.rd (.fn 2 (.x (.var 0) (.x (.var 1) .nil))) (.var 6001) 6))), (.z (.int .i64 (.rd (.fn 2 (.x (.var 0) (.x (.var 1) .nil))) (.var 6001) 7))), (.z (.ext [(.int .i64), (.int .i64), (.int .i64), (.int .i64), (.int .i64), (.int .i64)] (.rd (.fn 2 (.x (.var 0) (.x (.var 1) .nil))) (.var 6001) 8) false))])), (3, (.own 3 [(.int .i64)] (.fn 1 (.x (.var 0) (.x (.var 1) .nil))) (.lit 0))), (2, (.own 59 featK (.fn 2 (.x (.var 0) (.x (.var 1) .nil))) (.lit 0))), (0, (.cells 25 [(.z (.ext sndK (.var 0) false)), (.z (.ext featK (.var 1) false))]))], 12, []⟩)]
def trLawMod_j : List (FuncId × Nat × Nat × St) := [
(5, 2000042, 4, ⟨(List.append [(.v (.one (.z .any))), (.v (.one (.z (.ptr 0 0)))), (.v (.one (.z (.bool (.lit false))))), (.v (.one (.z (.bool (.var 5001))))), (.v (.one (.z (.own 2 (.lit 0))))), (.v (.one (.z .any))), (.v (.one (.z (.own 3 (.lit 0)))))] (List.replicate 109 V.any)), [(3, (.own 3 [(.int .i64)] (.fn 1 (.x (.var 0) (.x (.var 1) .nil))) (.lit 0))), (2, (.own 59 featK (.fn 2 (.x (.var 0) (.x (.var 1) .nil))) (.lit 0))), (0, (.cells 25 [(.z (.ext sndK (.var 0) false)), (.z (.ext featK (.var 1) false))]))], 5, []⟩)]
set_option maxRecDepth 100000 in
theorem trLawMod_is : T.norm 0 (call Tryz.prog ctV4 ⟨Lt.un (Lt.of [(5, 2000042), (5, 3000000)]), trLawMod_h, trLawMod_j⟩ 150 5 (symArgs 0 [suv]) [] 0) TT.ret = trLawMod := by kernel_rfl
theorem trLawMod_low : trLawMod.low 1000 = true := by kernel_rfl
end Go.Proofs.YtldbejmgalhdaaaGreat
/- Chapter 09: the law SurveyModel. -/
namespace Go.Proofs.YtldbejmgalhdaaaGreat
open Go.RowKit
theorem mdr_two (s F : Rows) : mdR [.l s, .l F] = if surB s F = true then mdS s F else [] := rfl
def sameR9 (a b : List D) : Bool := sameB (cI a 0) (cI a 1) (cI a 2) (cI a 3) (cI a 4) (cR a 5) (cI a 6) (cI a 7) (cR a 8) (cI b 0) (cI b 1) (cI b 2) (cI b 3) (cI b 4) (cR b 5) (cI b 6) (cI b 7) (cR b 8)
theorem same_18 (a1 a2 a3 a4 a5 : Int) (a6 : Rows) (a7 a8 : Int) (a9 : Rows) (b1 b2 b3 b4 b5 : Int) (b6 : Rows) (b7 b8 : Int) (b9 : Rows) : sameL [.i a1, .i a2, .i a3, .i a4, .i a5, .l a6, .i a7, .i a8, .l a9, .i b1, .i b2, .i b3, .i b4, .i b5, .l b6, .i b7, .i b8, .l b9] = sameB a1 a2 a3 a4 a5 a6 a7 a8 a9 b1 b2 b3 b4 b5 b6 b7 b8 b9 := rfl
theorem same_self9 (a : List D) : sameR9 a a = true := by
  unfold sameR9 sameB
  rw [eqX_iff.2 ⟨rfl, fun _ _ _ _ => rfl⟩, eqX_iff.2 ⟨rfl, fun _ _ _ _ => rfl⟩, decide_eq_true (by simp)]
  rfl
theorem same_id {a b : List D} (h : sameR9 a b = true) : cI a 0 = cI b 0 := by
  unfold sameR9 sameB at h
  simp only [Bool.and_eq_true, decide_eq_true_eq] at h
  exact h.1.1.1
/-! Counting -/
theorem countP_none {l : Rows} {p : List D → Bool} (h : ∀ x ∈ l, p x = false) : l.countP p = 0 := by
  rw [List.countP_eq_zero]
  intro x hx
  rw [h x hx]; decide
theorem countP_one : ∀ {l : Rows}, RisP l → ∀ {p : List D → Bool} {k : Int}, (∀ x ∈ l, p x = true → cI x 0 = k) → ∀ {y}, y ∈ l → p y = true → l.countP p = 1
  | [], _, _, _, _, _, hy, _ => by cases hy
  | a :: l, hr, p, k, hk, y, hy, py => by
    obtain ⟨h1, h2⟩ := List.pairwise_cons.1 hr
    rcases List.mem_cons.1 hy with e | hy
    · subst e
      rw [List.countP_cons_of_pos py, countP_none (fun x hx => ?_)]
      cases q : p x with
      | false => rfl
      | true =>
        have := hk x (List.mem_cons_of_mem _ hx) q
        have := hk y (List.mem_cons_self ..) py
        have := h1 x hx
        omega
    · have hp : p a = false := by
        cases q : p a with
        | false => rfl
        | true =>
          have := hk a (List.mem_cons_self ..) q
          have := hk y (List.mem_cons_of_mem _ hy) py
          have := h1 y hy
          omega
      rw [List.countP_cons_of_neg (by simp [hp])]
      exact countP_one h2 (fun x hx => hk x (List.mem_cons_of_mem _ hx)) hy py
theorem count_take {l : Rows} {p : List D → Bool} {j : Nat} (hj : j < l.length) : (l.take (j + 1)).countP p = (l.take j).countP p + if p l[j] = true then 1 else 0 := by
  rw [List.take_succ_eq_append_getElem hj, List.countP_append]
  congr 1
  by_cases h : p l[j] = true
  · rw [if_pos h, List.countP_cons_of_pos h]; rfl
  · rw [if_neg h, List.countP_cons_of_neg h]; rfl
/-! The model -/
theorem mdS_mem {s F : Rows} {g : List D} : g ∈ mdS s F ↔ g ∈ F ∨ ∃ x ∈ curR s, ftr x = g := by
  unfold mdS
  rw [mem_insL, List.mem_map]
theorem mdS_len (s F : Rows) : (mdS s F).length = F.length + (curR s).length := by
  unfold mdS
  rw [len_insL, List.length_map]
theorem mdS_ris {s F : Rows} (hv : surB s F = true) : RisP (mdS s F) := by
  obtain ⟨⟨f1, f2⟩, f3, f4, f5⟩ := sur_iff.1 hv
  refine ris_insL _ F (list_iff.1 f1).2.1 (cur_map_ris f4) (fun a ha b hb => ?_)
  obtain ⟨x, hx, rfl⟩ := List.mem_map.1 hb
  exact f5 x (cur_mem.1 hx).1 a ha
theorem mdS_list {s F : Rows} (hv : surB s F = true) : listB (mdS s F) = true := by
  obtain ⟨⟨f1, f2⟩, f3, f4, f5⟩ := sur_iff.1 hv
  have hl := cur_len s
  rw [list_iff]
  refine ⟨fun g hg => ?_, mdS_ris hv, by rw [mdS_len]; omega⟩
  rcases mdS_mem.1 hg with h | ⟨x, hx, rfl⟩
  · exact (list_iff.1 f1).1 g h
  · have := f3 x (cur_mem.1 hx).1
    exact ⟨by rw [snd_ftr]; exact (snd_feat this.1).1, this.2⟩
def hitS (s : Rows) (g x : List D) : Bool := decide (cI x 0 = cI g 0) && (hasB9 (idsS s) (cI x 0) && sameR9 g (ftr x))
theorem md_one {s F : Rows} (hv : surB s F = true) {g : List D} (hg : g ∈ mdS s F) : s.countP (hitS s g) + F.countP (fun x => sameR9 x g) = 1 := by
  obtain ⟨⟨f1, f2⟩, f3, f4, f5⟩ := sur_iff.1 hv
  have hF := (list_iff.1 f1).2.1
  rcases mdS_mem.1 hg with h | ⟨x, hx, rfl⟩
  · have a1 : s.countP (hitS s g) = 0 := countP_none (fun x hx => by
      unfold hitS
      rw [decide_eq_false (fun e => f5 x hx g h e.symm)]; rfl)
    have a2 : F.countP (fun x => sameR9 x g) = 1 := countP_one hF (fun x _ hx => same_id hx) h (same_self9 g)
    omega
  · have hxs := (cur_mem.1 hx).1
    have a1 : s.countP (hitS s (ftr x)) = 1 := countP_one f4 (k := cI x 0) (fun z hz hh => by
      unfold hitS at hh
      rw [Bool.and_eq_true, decide_eq_true_eq] at hh
      exact hh.1) hxs (by
      unfold hitS
      rw [(has_ids f4 hxs).2 hx, same_self9, decide_eq_true (by rfl)]; rfl)
    have a2 : F.countP (fun z => sameR9 z (ftr x)) = 0 := countP_none (fun z hz => by
      cases q : sameR9 z (ftr x) with
      | false => rfl
      | true => exact absurd (same_id q) (f5 x hxs z hz))
    omega
theorem KVdb129 (W : World) (ds l : List D) : (envOf KVd W ds).fb 129 l = sameL l := by simp only [envOf, KVd, KVc, KVb, KVa, K80, K79]
theorem KVdd2 (W : World) (ds l : List D) : (envOf KVd W ds).fd 2 l = mdR l := by simp only [envOf, KVd]
theorem KVdb137 (W : World) (ds l : List D) : (envOf KVd W ds).fb 137 l = listL l := by simp only [envOf, KVd, KVc, KVb, KVa]
set_option maxHeartbeats 2000000 in
theorem gLawMod : Gives Tryz.prog 5 [suv] (fun _ => .bool true) := by
  refine GivesIf.all (fn_gives KVd (by kernel_rfl) (fun ρ h => ctV4_ok (Sees.of h 180) (SeesD.of h 4)) (by kernel_rfl) trLawMod_is trLawMod_low (by decide) (fun W vals ds hr _ => ?_))
  have h7 := suv_rows hr
  have h9 := suv_feats hr
  simp only [trLawMod, TT.sat_ret, TT.sat_ite, TT.sat_ob, TT.sat_next, TT.sat_stuck, put_i, put_b, put_d, put_fi, put_fb, put_fd, Ob.ok, B.ev, E.ev, X.ev, AL.ev, cmp_t, cmp_f, arEv, V.plain, V2.plain, S.plain, S0.plain, V.val, V2.val, S.val, S0.val, bV, iV, List.all_cons, List.all_nil, Bool.and_true, Bool.and_self, envOf_i, envOf_b, envOf_d, List.map_cons, List.map_nil, true_and, Bool.not_eq_true', Bool.not_eq_false', Bool.not_not, Bool.and_eq_true, and_f, cell_lg, cell_lb, cell_lr, cmpP, val_i, val_b, val_d, aget, Nat.reduceBEq, beq_self_eq_true, Bool.false_eq_true, if_true, if_false, Nat.reduceLT, Nat.reduceSub, Nat.sub_self, Nat.lt_irrefl, KVdi160, KVdd1, KVdd2, sce_two, ids_two, mdr_two]
  clear hr
  generalize e0 : rAt ds 0 = s at *
  generalize e1 : rAt ds 1 = F at *
  refine ⟨fun h16 => ⟨fun _ => trivial, fun h12 => ⟨fun hE => ?_, fun hE => ?_⟩⟩, fun _ => trivial⟩
  · by_cases q : surB s F = true
    · rw [if_pos q] at hE; omega
    · rw [if_neg q]; exact ⟨fun _ => trivial, fun h => absurd rfl h⟩
  have hv : surB s F = true := by
    by_cases q : surB s F = true
    · exact q
    · rw [if_neg q] at hE; omega
  clear hE
  have hl := cur_len s
  have hM := mdS_len s F
  have hIl : (idsS s).length = (curR s).length := by unfold idsS; rw [List.length_map]
  refine TT.sat_join (fun v => v.b 1 = true) (fun t ht => ?_) (fun t ht hR => ?_)
  · simp only [TT.sat_ret, TT.sat_ite, TT.sat_ob, TT.sat_next, TT.sat_stuck, put_i, put_b, put_d, put_fi, put_fb, put_fd, Ob.ok, B.ev, E.ev, X.ev, AL.ev, cmp_t, cmp_f, arEv, V.plain, V2.plain, S.plain, S0.plain, V.val, V2.val, S.val, S0.val, bV, iV, List.all_cons, List.all_nil, Bool.and_true, Bool.and_self, envOf_i, envOf_b, envOf_d, List.map_cons, List.map_nil, true_and, Bool.not_eq_true', Bool.not_eq_false', Bool.not_not, Bool.and_eq_true, and_f, cell_lg, cell_lb, cell_lr, cmpP, val_i, val_b, val_d, aget, Nat.reduceBEq, beq_self_eq_true, Bool.false_eq_true, if_true, if_false, Nat.reduceLT, Nat.reduceSub, Nat.sub_self, Nat.lt_irrefl, e0, e1, KVdi160, sce_two, KVdb137, KVdd1, KVdd2, mdr_two, ids_two, hv, list_one9, mdS_list hv, hM, hIl]
    refine ⟨fun _ => ⟨fun _ => ?_, fun h => by cases h⟩, fun h => h trivial⟩
    rw [wrap_in ((((curR s).length : Nat) : Int) + (F.length : Nat)) (by omega) (by omega)]
    omega
  refine TT.sat_loop (fun v => ∃ i : Nat, v.i 1 = i ∧ i ≤ (mdS s F).length ∧ v.i 0 = i) (fun v => (mdS s F).length - (v.i 1).toNat)
    ⟨0, by simp [val_i, aget, E.ev], by omega, by simp [val_i, aget, E.ev]⟩ (fun v hv0 => ?_)
  obtain ⟨i, i0, i1, i2⟩ := hv0
  simp only [TT.sat_ret, TT.sat_ite, TT.sat_ob, TT.sat_next, TT.sat_stuck, put_i, put_b, put_d, put_fi, put_fb, put_fd, Ob.ok, B.ev, E.ev, X.ev, AL.ev, cmp_t, cmp_f, arEv, V.plain, V2.plain, S.plain, S0.plain, V.val, V2.val, S.val, S0.val, bV, iV, List.all_cons, List.all_nil, Bool.and_true, Bool.and_self, envOf_i, envOf_b, envOf_d, List.map_cons, List.map_nil, true_and, Bool.not_eq_true', Bool.not_eq_false', Bool.not_not, Bool.and_eq_true, and_f, cell_lg, cell_lb, cell_lr, cmpP, val_i, val_b, val_d, aget, Nat.reduceBEq, beq_self_eq_true, Bool.false_eq_true, if_true, if_false, Nat.reduceLT, Nat.reduceSub, Nat.sub_self, Nat.lt_irrefl, i0, i2, e0, e1, KVdd2, mdr_two, hv, hR]
  refine ⟨fun hc => ⟨by omega, by omega, ?_⟩, fun hc => ⟨fun _ => ?_, fun h => by cases h⟩⟩
  · have hi : i < (mdS s F).length := by omega
    have hone := md_one hv (List.getElem_mem hi)
    refine TT.sat_loop (fun v => ∃ k : Nat, v.i 1 = k ∧ k ≤ s.length ∧ v.i 0 = (i : Int) + (((s.take k).countP (hitS s (mdS s F)[i]) : Nat) : Int)) (fun v => s.length - (v.i 1).toNat)
      ⟨0, by simp [val_i, aget, E.ev], by omega, by simp [val_i, aget, E.ev, put_i, i2]⟩ (fun u hu => ?_)
    obtain ⟨k, k0, k1, k2⟩ := hu
    simp only [TT.sat_ret, TT.sat_ite, TT.sat_ob, TT.sat_next, TT.sat_stuck, put_i, put_b, put_d, put_fi, put_fb, put_fd, Ob.ok, B.ev, E.ev, X.ev, AL.ev, cmp_t, cmp_f, arEv, V.plain, V2.plain, S.plain, S0.plain, V.val, V2.val, S.val, S0.val, bV, iV, List.all_cons, List.all_nil, Bool.and_true, Bool.and_self, envOf_i, envOf_b, envOf_d, List.map_cons, List.map_nil, true_and, Bool.not_eq_true', Bool.not_eq_false', Bool.not_not, Bool.and_eq_true, and_f, cell_lg, cell_lb, cell_lr, cmpP, val_i, val_b, val_d, aget, Nat.reduceBEq, beq_self_eq_true, Bool.false_eq_true, if_true, if_false, Nat.reduceLT, Nat.reduceSub, Nat.sub_self, Nat.lt_irrefl, i0, k0, k2, e0, e1, KVdd1, KVdd2, KVdb129, KVdb160, ids_two, has_two, mdr_two, hv, same_18]
    refine ⟨fun hck => ?_, fun hck => ?_⟩
    · have hk : k < s.length := by omega
      have hcl : (s.take k).countP (hitS s (mdS s F)[i]) ≤ s.length := by
        have := List.countP_le_length (p := hitS s (mdS s F)[i]) (l := s.take k)
        rw [List.length_take] at this; omega
      have hw1 : IntKind.i64.wrap ((k : Int) + 1) = ((k + 1 : Nat) : Int) := by rw [wrap_in _ (by omega) (by omega)]; rfl
      have hm : s.length - (((k + 1 : Nat) : Int)).toNat < s.length - (k : Int).toNat := by omega
      have hct := count_take (p := hitS s (mdS s F)[i]) hk
      simp only [hw1, lg_cI hk, lg_cI hi, lr_cR hi]
      have hh : hitS s (mdS s F)[i] s[k] = (decide (cI s[k] 0 = cI (mdS s F)[i] 0) && (hasB9 (idsS s) (cI s[k] 0) && sameB (cI (mdS s F)[i] 0) (cI (mdS s F)[i] 1) (cI (mdS s F)[i] 2) (cI (mdS s F)[i] 3) (cI (mdS s F)[i] 4) (cR (mdS s F)[i] 5) (cI (mdS s F)[i] 6) (cI (mdS s F)[i] 7) (cR (mdS s F)[i] 8) (cI s[k] 0) 1 (cI s[k] 1) (cI s[k] 2) (cI s[k] 3) [] (cI s[k] 4) 0 [])) := rfl
      generalize sameB _ _ _ _ _ _ _ _ _ _ _ _ _ _ _ _ _ _ = S at *
      generalize hasB9 _ _ = Q at *
      rw [hh] at hct
      refine ⟨by omega, by omega, fun a => ⟨fun b => ⟨fun c => ?_, fun c => ?_⟩, fun b => ?_⟩, fun a => ?_⟩
      · rw [decide_eq_true a, b, c, if_pos (by decide)] at hct
        refine ⟨⟨k + 1, rfl, by omega, ?_⟩, hm⟩
        rw [wrap_in ((i : Int) + ((s.take k).countP (hitS s (mdS s F)[i]) : Nat) + 1) (by omega) (by omega)]; omega
      · rw [c, Bool.and_false, Bool.and_false, if_neg (by decide)] at hct
        exact ⟨⟨k + 1, rfl, by omega, by rw [hct]; rfl⟩, hm⟩
      · rw [b, Bool.false_and, Bool.and_false, if_neg (by decide)] at hct
        exact ⟨⟨k + 1, rfl, by omega, by rw [hct]; rfl⟩, hm⟩
      · rw [decide_eq_false a, Bool.false_and, if_neg (by decide)] at hct
        exact ⟨⟨k + 1, rfl, by omega, by rw [hct]; rfl⟩, hm⟩
    · have hk : k = s.length := by omega
      rw [hk, List.take_length] at k2
      refine TT.sat_loop (fun v => ∃ j : Nat, v.i 1 = j ∧ j ≤ F.length ∧ v.i 0 = (i : Int) + ((s.countP (hitS s (mdS s F)[i]) : Nat) : Int) + (((F.take j).countP (fun x => sameR9 x (mdS s F)[i]) : Nat) : Int)) (fun v => F.length - (v.i 1).toNat)
        ⟨0, by simp [val_i, aget, E.ev], by omega, by simp [val_i, aget, E.ev, put_i, k2]⟩ (fun z hz => ?_)
      obtain ⟨j, j0, j1, j2⟩ := hz
      simp only [TT.sat_ret, TT.sat_ite, TT.sat_ob, TT.sat_next, TT.sat_stuck, put_i, put_b, put_d, put_fi, put_fb, put_fd, Ob.ok, B.ev, E.ev, X.ev, AL.ev, cmp_t, cmp_f, arEv, V.plain, V2.plain, S.plain, S0.plain, V.val, V2.val, S.val, S0.val, bV, iV, List.all_cons, List.all_nil, Bool.and_true, Bool.and_self, envOf_i, envOf_b, envOf_d, List.map_cons, List.map_nil, true_and, Bool.not_eq_true', Bool.not_eq_false', Bool.not_not, Bool.and_eq_true, and_f, cell_lg, cell_lb, cell_lr, cmpP, val_i, val_b, val_d, aget, Nat.reduceBEq, beq_self_eq_true, Bool.false_eq_true, if_true, if_false, Nat.reduceLT, Nat.reduceSub, Nat.sub_self, Nat.lt_irrefl, i0, j0, j2, e0, e1, KVdd2, KVdb129, mdr_two, hv, same_18]
      refine ⟨fun hcj => ?_, fun hcj => ?_⟩
      · have hj : j < F.length := by omega
        have hcl : (F.take j).countP (fun x => sameR9 x (mdS s F)[i]) ≤ F.length := by
          have := List.countP_le_length (p := fun x => sameR9 x (mdS s F)[i]) (l := F.take j)
          rw [List.length_take] at this; omega
        have hw1 : IntKind.i64.wrap ((j : Int) + 1) = ((j + 1 : Nat) : Int) := by rw [wrap_in _ (by omega) (by omega)]; rfl
        have hm : F.length - (((j + 1 : Nat) : Int)).toNat < F.length - (j : Int).toNat := by omega
        have hct := count_take (p := fun x => sameR9 x (mdS s F)[i]) hj
        simp only [hw1, lg_cI hj, lr_cR hj, lg_cI hi, lr_cR hi]
        have hh : sameR9 F[j] (mdS s F)[i] = sameB (cI F[j] 0) (cI F[j] 1) (cI F[j] 2) (cI F[j] 3) (cI F[j] 4) (cR F[j] 5) (cI F[j] 6) (cI F[j] 7) (cR F[j] 8) (cI (mdS s F)[i] 0) (cI (mdS s F)[i] 1) (cI (mdS s F)[i] 2) (cI (mdS s F)[i] 3) (cI (mdS s F)[i] 4) (cR (mdS s F)[i] 5) (cI (mdS s F)[i] 6) (cI (mdS s F)[i] 7) (cR (mdS s F)[i] 8) := rfl
        generalize sameB _ _ _ _ _ _ _ _ _ _ _ _ _ _ _ _ _ _ = S at *
        rw [hh] at hct
        refine ⟨by omega, by omega, fun c => ?_, fun c => ?_⟩
        · rw [c, if_pos rfl] at hct
          refine ⟨⟨j + 1, rfl, by omega, ?_⟩, hm⟩
          rw [hct, wrap_in ((i : Int) + ((s.countP (hitS s (mdS s F)[i]) : Nat) : Int) + (((F.take j).countP (fun x => sameR9 x (mdS s F)[i]) : Nat) : Int) + 1) (by omega) (by omega)]
          omega
        · rw [c, if_neg (by decide)] at hct
          exact ⟨⟨j + 1, rfl, by omega, by rw [hct]; rfl⟩, hm⟩
      · have hj : j = F.length := by omega
        rw [if_neg (by decide), if_neg (by decide), hj, List.take_length, wrap_in ((i : Int) + 1) (by omega) (by omega)]
        refine ⟨⟨i + 1, rfl, by omega, ?_⟩, by omega⟩
        generalize s.countP (hitS s (mdS s F)[i]) = A at hone ⊢
        generalize F.countP (fun x => sameR9 x (mdS s F)[i]) = B at hone ⊢
        have key : ∀ (i A B : Nat), A + B = 1 → (i : Int) + (A : Int) + (B : Int) = ((i + 1 : Nat) : Int) := fun i A B h => by omega
        exact key i A B hone
  · have : i = (mdS s F).length := by omega
    rw [this]
    simp [cmpEv]
end Go.Proofs.YtldbejmgalhdaaaGreat
