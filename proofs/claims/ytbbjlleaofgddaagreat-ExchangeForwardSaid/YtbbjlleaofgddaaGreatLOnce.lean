/- LOnce, merged: Au, TAu, Av, Ax. -/
import Derived.Test.YtbbjlleaofgddaaGreatLRun
import Derived.Test.YtbbjlleaofgddaaGreatMK
set_option linter.unusedSimpArgs false
set_option linter.unusedVariables false
/- Chapter 42: the contract of Run. -/
namespace Go.Proofs.YtbbjlleaofgddaaGreat
open Go.RowKit
def scrB (ds : List D) : Bool := decide (∀ i, i < (rAt ds 1).length → lg (rAt ds 1) i 0 ≤ 9223372036854775807)
def Q6 : Interp where
  fi n l := match n with | 230 => runSq l | 231 => runEr l | n => Q5.fi n l
  fb n l := match n with | 230 => scrB l | n => Q5.fb n l
  fd n l := match n with | 0 => runQ l | 1 => runT l | n => Q5.fd n l
theorem Q6_Q5 {ρ : Env} (h : Sees ρ Q6 240) : Sees ρ Q5 230 := h.trans (by decide) fun n l hn => by
  refine ⟨?_, ?_⟩
  ·
    simp only [Q6]
    split <;> first | omega | rfl
  ·
    simp only [Q6]
    split <;> first | omega | rfl
def cRun (args : List V) (_mem : Mem) (nx : Nat) : T OpR := match argsE [nots, ints] args with
  | some al => ctN [nlRQ, nlRT] [.tru (.fn 230 al)] (.tup [.agg [.z (.int .i64 (.fn 230 al)), .z (.own nx (.lit 0))], .one (.z (.own (nx + 1) (.lit 0))), .one (.z (.int .i64 (.fn 231 al)))]) al nx
  | none => .stuck "Run"
theorem cRun_ok {ρ : Env} (h : Sees ρ Q6 240) (hd : SeesD ρ Q6 2) : CtOne Tryz.prog ρ 27 cRun := by
  intro args mem nx q hq hle σ W vals hr hfr hdl
  unfold cRun at hq
  split at hq
  · rename_i al ha
    refine ctN_ok gRun ha (fun ho => ?_) (fun l hl a => ?_) hq (fun σ' vs u hv hl hres => ?_) hr hfr hdl
    · have h1 : (B.fn 230 al).ev ρ = true := ho _ (List.mem_singleton.2 rfl)
      simp only [B.ev] at h1
      rw [(h 230 _ (by decide)).2] at h1
      simp only [Q6, scrB, decide_eq_true_eq] at h1
      exact h1
    · rcases List.mem_cons.1 hl with rfl | hl
      · show ρ.fd 0 a = runQ a
        rw [hd 0 _ (by decide)]; simp only [Q6]
      · obtain rfl := List.mem_singleton.1 hl
        show ρ.fd 1 a = runT a
        rw [hd 1 _ (by decide)]; simp only [Q6]
    · obtain ⟨a, b, rfl, rfl⟩ := hres
      obtain ⟨a1, a2, a3, a4, a5⟩ := hv 0 a rfl
      obtain ⟨b1, b2, b3, b4, b5⟩ := hv 1 b rfl
      have e0 : Value.int .i64 (runSq (al.ev ρ)) = .int .i64 ((E.fn 230 al).ev ρ) := by simp only [E.ev]; rw [(h 230 _ (by decide)).1]; simp only [Q6]
      have e1 : Value.int .i64 (runEr (al.ev ρ)) = .int .i64 ((E.fn 231 al).ev ρ) := by simp only [E.ev]; rw [(h 231 _ (by decide)).1]; simp only [Q6]
      exact ⟨[_, _, _], ⟨⟨[_, a], ⟨e0, ⟨⟨a2, a3, a4, a5⟩, a1⟩, trivial⟩, rfl⟩, ⟨⟨b2, b3, b4, b5⟩, b1⟩, e1, trivial⟩, rfl⟩
  · exact hq.elim
def ctX5 : Ct := (27, cRun) :: ctX0
theorem ctX5_ok {ρ : Env} (h : Sees ρ Q6 240) (hd : SeesD ρ Q6 2) : CtOk Tryz.prog ρ ctX5 := .cons (cRun_ok h hd) (ctX0_ok (Q6_Q5 h))
end Go.Proofs.YtbbjlleaofgddaaGreat
/- Chapter 42: trees of the laws Once and Forward. -/
namespace Go.Proofs.YtbbjlleaofgddaaGreat
open Go.RowKit
def trLawOnce : TT OpR :=
(.ite (.not (.fn 222 (.x (.var 0) .nil)))
 (.ret ((.v (.one (.z (.bool (.lit true))))), [], 0))
 (.ite (.cmp .gtr (.len (.var 1)) (.lit 60))
 (.ret ((.v (.one (.z (.bool (.lit true))))), [], 0))
 (.ob (.tru (.fn 230 (.x (.var 0) (.x (.var 1) .nil))))
 (.ite (.cmp .neq (.fn 231 (.x (.var 0) (.x (.var 1) .nil))) (.lit 0))
 (.ite (.cmp .eql (.fn 231 (.x (.var 0) (.x (.var 1) .nil))) (.lit 1))
 (.ret ((.v (.one (.z (.bool (.cmp .eql (.len (.fn 1 (.x (.var 0) (.x (.var 1) .nil)))) (.lit 0)))))), [], 3))
 (.ret ((.v (.one (.z (.bool (.lit false))))), [], 3)))
 (.loop 0 4000 ⟨[(0, (.lit 0)), (1, (.lit 0))], [], []⟩
 (.ite (.cmp .lss (.var 4001) (.len (.var 1)))
 (.ob (.tru (.cmp .leq (.lit 0) (.var 4001)))
 (.ob (.tru (.cmp .lss (.var 4001) (.len (.var 1))))
 (.ite (.cmp .eql (.ar .rem .i64 (.rd (.var 1) (.var 4001) 0) (.lit 8)) (.lit 7))
 (.next 0 ⟨[(0, (.ar .add .i64 (.var 4000) (.lit 1))), (1, (.ar .add .i64 (.var 4001) (.lit 1)))], [], []⟩)
 (.next 0 ⟨[(0, (.var 4000)), (1, (.ar .add .i64 (.var 4001) (.lit 1)))], [], []⟩))))
 (.ite (.cmp .gtr (.len (.fn 1 (.x (.var 0) (.x (.var 1) .nil)))) (.mn (.var 4000) (.len (.var 0))))
 (.ret ((.v (.one (.z (.bool (.lit false))))), [], 4))
 (.ite (.cmp .lss (.fn 230 (.x (.var 0) (.x (.var 1) .nil))) (.lit 0))
 (.ret ((.v (.one (.z (.bool (.lit false))))), [], 4))
 (.ite (.cmp .gtr (.fn 230 (.x (.var 0) (.x (.var 1) .nil))) (.len (.fn 1 (.x (.var 0) (.x (.var 1) .nil)))))
 (.ret ((.v (.one (.z (.bool (.lit false))))), [], 4))
 (.ite (.cmp .neq (.ar .add .i64 (.fn 230 (.x (.var 0) (.x (.var 1) .nil))) (.len (.fn 0 (.x (.var 0) (.x (.var 1) .nil))))) (.mn (.var 4000) (.len (.var 0))))
 (.ret ((.v (.one (.z (.bool (.lit false))))), [], 4))
 (.loop 1 5000 ⟨[(1, (.lit 0))], [(0, (.lit true))], []⟩
 (.ite (.cmp .lss (.var 5001) (.len (.fn 0 (.x (.var 0) (.x (.var 1) .nil)))))
 (.ob (.tru (.cmp .leq (.lit 0) (.var 5001)))
 (.ob (.tru (.cmp .lss (.var 5001) (.len (.fn 0 (.x (.var 0) (.x (.var 1) .nil))))))
 (.ite (.var 5000)
 (.ite (.cmp .eql (.rd (.fn 0 (.x (.var 0) (.x (.var 1) .nil))) (.var 5001) 2) (.ar .add .i64 (.fn 230 (.x (.var 0) (.x (.var 1) .nil))) (.var 5001)))
 (.ite (.not (.rd (.fn 0 (.x (.var 0) (.x (.var 1) .nil))) (.var 5001) 3))
 (.ob (.tru (.cmp .leq (.lit 0) (.rd (.fn 0 (.x (.var 0) (.x (.var 1) .nil))) (.var 5001) 2)))
 (.ob (.tru (.cmp .lss (.rd (.fn 0 (.x (.var 0) (.x (.var 1) .nil))) (.var 5001) 2) (.len (.var 0))))
 (.next 1 ⟨[(1, (.ar .add .i64 (.var 5001) (.lit 1)))], [(0, (.fn 190 (.i (.rd (.fn 0 (.x (.var 0) (.x (.var 1) .nil))) (.var 5001) 4) (.i (.rd (.fn 0 (.x (.var 0) (.x (.var 1) .nil))) (.var 5001) 5) (.i (.rd (.fn 0 (.x (.var 0) (.x (.var 1) .nil))) (.var 5001) 6) (.i (.rd (.fn 0 (.x (.var 0) (.x (.var 1) .nil))) (.var 5001) 7) (.i (.rd (.fn 0 (.x (.var 0) (.x (.var 1) .nil))) (.var 5001) 8) (.i (.rd (.fn 0 (.x (.var 0) (.x (.var 1) .nil))) (.var 5001) 9) (.x (.rd (.fn 0 (.x (.var 0) (.x (.var 1) .nil))) (.var 5001) 10) (.i (.rd (.var 0) (.rd (.fn 0 (.x (.var 0) (.x (.var 1) .nil))) (.var 5001) 2) 0) (.i (.rd (.var 0) (.rd (.fn 0 (.x (.var 0) (.x (.var 1) .nil))) (.var 5001) 2) 1) (.i (.rd (.var 0) (.rd (.fn 0 (.x (.var 0) (.x (.var 1) .nil))) (.var 5001) 2) 2) (.i (.rd (.var 0) (.rd (.fn 0 (.x (.var 0) (.x (.var 1) .nil))) (.var 5001) 2) 3) (.i (.rd (.var 0) (.rd (.fn 0 (.x (.var 0) (.x (.var 1) .nil))) (.var 5001) 2) 4) (.i (.rd (.var 0) (.rd (.fn 0 (.x (.var 0) (.x (.var 1) .nil))) (.var 5001) 2) 5) (.x (.rd (.var 0) (.rd (.fn 0 (.x (.var 0) (.x (.var 1) .nil))) (.var 5001) 2) 6) .nil))))))))))))))))], []⟩)))
 (.next 1 ⟨[(1, (.ar .add .i64 (.var 5001) (.lit 1)))], [(0, (.lit false))], []⟩))
 (.next 1 ⟨[(1, (.ar .add .i64 (.var 5001) (.lit 1)))], [(0, (.lit false))], []⟩))
 (.next 1 ⟨[(1, (.ar .add .i64 (.var 5001) (.lit 1)))], [(0, (.lit false))], []⟩))))
 (.ite (.var 5000)
 (.ob (.tru (.lit true))
 (.ob (.tru (.cmp .leq (.lit 0) (.len (.fn 1 (.x (.var 0) (.x (.var 1) .nil))))))
 (.ob (.tru (.cmp .leq (.len (.fn 1 (.x (.var 0) (.x (.var 1) .nil)))) (.len (.var 0))))
 (.ret ((.v (.one (.z (.bool (.fn 220 (.x (.fn 1 (.x (.var 0) (.x (.var 1) .nil))) (.x (.sub (.var 0) (.lit 0) (.len (.fn 1 (.x (.var 0) (.x (.var 1) .nil))))) .nil))))))), [], 6)))))
 (.ret ((.v (.one (.z (.bool (.lit false))))), [], 6)))))))))))))))
def trLawOnce_h : List (Nat × St) := [
(3, ⟨(List.append [(.v (.one (.z (.ext [(.int .i64)] (.var 1) false)))), (.v (.one (.z (.int .i64 (.len (.var 0)))))), (.v (.one (.z .any))), (.v (.one (.z .any))), (.v (.one (.z (.int .i64 (.lit 0))))), (.v (.one (.z (.int .i64 (.var 4000))))), (.v (.one (.z .any))), (.v (.one (.z .any))), (.v (.one (.z (.ext [(.int .i64)] (.var 1) false)))), (.v (.one (.z (.int .i64 (.len (.var 1)))))), (.v (.one (.z (.int .i64 (.var 4001)))))] (List.replicate 12 V.any)), [(2, (.cells 24 [(.z (.int .i64 (.fn 230 (.x (.var 0) (.x (.var 1) .nil))))), (.z (.own 0 (.lit 0)))])), (0, (.own 31 letK (.fn 0 (.x (.var 0) (.x (.var 1) .nil))) (.lit 0))), (1, (.own 29 notK (.fn 1 (.x (.var 0) (.x (.var 1) .nil))) (.lit 0)))], 4, []⟩),
(4, ⟨(List.append [(.v (.one (.z (.ext notK (.var 0) false)))), (.v (.one (.z (.ext [(.int .i64)] (.var 1) false)))), (.v (.one (.z .any))), (.v (.one (.z .any))), (.v (.one (.z (.bool (.lit false))))), (.v (.one (.z (.bool (.var 5000))))), (.v (.one (.z (.ptr 2 0)))), (.v (.one (.z (.own 1 (.lit 0))))), (.v (.one (.z (.int .i64 (.fn 231 (.x (.var 0) (.x (.var 1) .nil))))))), (.v (.one (.z (.int .i64 (.mn (.var 4000) (.len (.var 0))))))), (.v (.one (.z .any))), (.v (.one (.z .any))), (.v (.one (.z (.bool (.lit true))))), (.v (.one (.z (.ext notK (.var 0) false)))), (.v (.one (.z (.bool (.fn 222 (.x (.var 0) .nil)))))), (.v (.one (.z (.bool (.not (.fn 222 (.x (.var 0) .nil))))))), (.v (.one (.z (.bool (.lit false))))), (.v (.one (.z (.ext [(.int .i64)] (.var 1) false)))), (.v (.one (.z (.int .i64 (.len (.var 1)))))), (.v (.one (.z (.bool (.cmp .gtr (.len (.var 1)) (.lit 60)))))), (.v (.one (.z (.bool (.cmp .gtr (.len (.var 1)) (.lit 60)))))), (.v (.one (.z .any))), (.v (.one (.z .any))), (.v (.one (.z (.ext notK (.var 0) false)))), (.v (.one (.z (.ext [(.int .i64)] (.var 1) false)))), (.v (.one (.z .any))), (.v (.agg [(.z (.int .i64 (.fn 230 (.x (.var 0) (.x (.var 1) .nil))))), (.z (.own 0 (.lit 0)))])), (.v (.one (.z (.own 1 (.lit 0))))), (.v (.one (.z (.int .i64 (.fn 231 (.x (.var 0) (.x (.var 1) .nil))))))), (.v (.one (.z (.int .i64 (.fn 231 (.x (.var 0) (.x (.var 1) .nil))))))), (.v (.one (.z (.bool (.cmp .neq (.fn 231 (.x (.var 0) (.x (.var 1) .nil))) (.lit 0))))))] (List.append (List.replicate 10 V.any) (List.append [(.v (.one (.z (.ext [(.int .i64)] (.var 1) false)))), (.v (.one (.z (.ext notK (.var 0) false)))), (.v (.one (.z (.int .i64 (.len (.var 0)))))), (.v (.one (.z (.int .i64 (.mn (.var 4000) (.len (.var 0))))))), (.v (.one (.z (.own 1 (.lit 0))))), (.v (.one (.z (.int .i64 (.len (.fn 1 (.x (.var 0) (.x (.var 1) .nil)))))))), (.v (.one (.z (.int .i64 (.mn (.var 4000) (.len (.var 0))))))), (.v (.one (.z (.bool (.cmp .gtr (.len (.fn 1 (.x (.var 0) (.x (.var 1) .nil)))) (.mn (.var 4000) (.len (.var 0)))))))), (.v (.one (.z (.bool (.lit false))))), (.v (.one (.z (.ptr 2 0)))), (.v (.one (.z (.int .i64 (.fn 230 (.x (.var 0) (.x (.var 1) .nil))))))), (.v (.one (.z (.bool (.cmp .lss (.fn 230 (.x (.var 0) (.x (.var 1) .nil))) (.lit 0)))))), (.v (.one (.z (.bool (.cmp .lss (.fn 230 (.x (.var 0) (.x (.var 1) .nil))) (.lit 0)))))), (.v (.one (.z (.bool (.lit false))))), (.v (.one (.z (.ptr 2 0)))), (.v (.one (.z (.int .i64 (.fn 230 (.x (.var 0) (.x (.var 1) .nil))))))), (.v (.one (.z (.own 1 (.lit 0))))), (.v (.one (.z (.int .i64 (.len (.fn 1 (.x (.var 0) (.x (.var 1) .nil)))))))), (.v (.one (.z (.bool (.cmp .gtr (.fn 230 (.x (.var 0) (.x (.var 1) .nil))) (.len (.fn 1 (.x (.var 0) (.x (.var 1) .nil))))))))), (.v (.one (.z (.bool (.cmp .gtr (.fn 230 (.x (.var 0) (.x (.var 1) .nil))) (.len (.fn 1 (.x (.var 0) (.x (.var 1) .nil))))))))), (.v (.one (.z (.bool (.lit false))))), (.v (.one (.z (.ptr 2 0)))), (.v (.one (.z (.int .i64 (.fn 230 (.x (.var 0) (.x (.var 1) .nil))))))), (.v (.one (.z (.ptr 2 1)))), (.v (.one (.z (.own 0 (.lit 0))))), (.v (.one (.z (.int .i64 (.len (.fn 0 (.x (.var 0) (.x (.var 1) .nil)))))))), (.v (.one (.z (.int .i64 (.ar .add .i64 (.fn 230 (.x (.var 0) (.x (.var 1) .nil))) (.len (.fn 0 (.x (.var 0) (.x (.var 1) .nil))))))))), (.v (.one (.z (.int .i64 (.mn (.var 4000) (.len (.var 0))))))), (.v (.one (.z (.bool (.cmp .neq (.ar .add .i64 (.fn 230 (.x (.var 0) (.x (.var 1) .nil))) (.len (.fn 0 (.x (.var 0) (.x (.var 1) .nil))))) (.mn (.var 4000) (.len (.var 0)))))))), (.v (.one (.z (.bool (.cmp .neq (.ar .add .i64 (.fn 230 (.x (.var 0) (.x (.var 1) .nil))) (.len (.fn 0 (.x (.var 0) (.x (.var 1) .nil))))) (.mn (.var 4000) (.len (.var 0)))))))), (.v (.one (.z (.ptr 2 1)))), (.v (.one (.z (.own 0 (.lit 0))))), (.v (.one (.z (.int .i64 (.len (.fn 0 (.x (.var 0) (.x (.var 1) .nil)))))))), (.v (.one (.z (.int .i64 (.var 5001)))))] (List.replicate 39 V.any)))), [(2, (.cells 24 [(.z (.int .i64 (.fn 230 (.x (.var 0) (.x (.var 1) .nil))))), (.z (.own 0 (.lit 0)))])), (0, (.own 31 letK (.fn 0 (.x (.var 0) (.x (.var 1) .nil))) (.lit 0))), (1, (.own 29 notK (.fn 1 (.x (.var 0) (.x (.var 1) .nil))) (.lit 0)))], 5, []⟩)]
def trLawOnce_j : List (FuncId × Nat × Nat × St) := [
]
set_option maxRecDepth 100000 in
theorem trLawOnce_is : T.norm 0 (call Tryz.prog ctX5 ⟨Lt.un (Lt.of []), trLawOnce_h, trLawOnce_j⟩ 200 4 (symArgs 0 [nots, ints]) [] 0) TT.ret = trLawOnce := by kernel_rfl
theorem trLawOnce_low : trLawOnce.low 1000 = true := by kernel_rfl
def trLawFwd : TT OpR :=
(.ite (.not (.fn 222 (.x (.var 0) .nil)))
 (.ret ((.v (.one (.z (.bool (.lit true))))), [], 0))
 (.ite (.cmp .gtr (.len (.var 1)) (.lit 60))
 (.ret ((.v (.one (.z (.bool (.lit true))))), [], 0))
 (.ob (.tru (.cmp .neq (.ar .add .i64 (.len (.var 1)) (.lit 1)) (.lit 0)))
 (.ob (.tru (.lit true))
 (.ob (.tru (.cmp .leq (.lit 0) (.ar .rem .i64 (.wr .i64 (.var 2)) (.ar .add .i64 (.len (.var 1)) (.lit 1)))))
 (.ob (.tru (.cmp .leq (.ar .rem .i64 (.wr .i64 (.var 2)) (.ar .add .i64 (.len (.var 1)) (.lit 1))) (.len (.var 1))))
 (.ob (.tru (.fn 230 (.x (.var 0) (.x (.sub (.var 1) (.lit 0) (.ar .rem .i64 (.wr .i64 (.var 2)) (.ar .add .i64 (.len (.var 1)) (.lit 1)))) .nil))))
 (.ob (.tru (.fn 230 (.x (.var 0) (.x (.var 1) .nil))))
 (.ite (.cmp .neq (.fn 231 (.x (.var 0) (.x (.var 1) .nil))) (.lit 0))
 (.ret ((.v (.one (.z (.bool (.cmp .eql (.fn 231 (.x (.var 0) (.x (.var 1) .nil))) (.lit 1)))))), [], 6))
 (.ite (.cmp .eql (.fn 231 (.x (.var 0) (.x (.sub (.var 1) (.lit 0) (.ar .rem .i64 (.wr .i64 (.var 2)) (.ar .add .i64 (.len (.var 1)) (.lit 1)))) .nil))) (.lit 0))
 (.ite (.cmp .leq (.fn 230 (.x (.var 0) (.x (.sub (.var 1) (.lit 0) (.ar .rem .i64 (.wr .i64 (.var 2)) (.ar .add .i64 (.len (.var 1)) (.lit 1)))) .nil))) (.fn 230 (.x (.var 0) (.x (.var 1) .nil))))
 (.ite (.cmp .leq (.len (.fn 1 (.x (.var 0) (.x (.sub (.var 1) (.lit 0) (.ar .rem .i64 (.wr .i64 (.var 2)) (.ar .add .i64 (.len (.var 1)) (.lit 1)))) .nil)))) (.len (.fn 1 (.x (.var 0) (.x (.var 1) .nil)))))
 (.ob (.tru (.lit true))
 (.ob (.tru (.cmp .leq (.lit 0) (.len (.fn 1 (.x (.var 0) (.x (.sub (.var 1) (.lit 0) (.ar .rem .i64 (.wr .i64 (.var 2)) (.ar .add .i64 (.len (.var 1)) (.lit 1)))) .nil))))))
 (.ob (.tru (.cmp .leq (.len (.fn 1 (.x (.var 0) (.x (.sub (.var 1) (.lit 0) (.ar .rem .i64 (.wr .i64 (.var 2)) (.ar .add .i64 (.len (.var 1)) (.lit 1)))) .nil)))) (.len (.fn 1 (.x (.var 0) (.x (.var 1) .nil))))))
 (.ret ((.v (.one (.z (.bool (.fn 220 (.x (.fn 1 (.x (.var 0) (.x (.sub (.var 1) (.lit 0) (.ar .rem .i64 (.wr .i64 (.var 2)) (.ar .add .i64 (.len (.var 1)) (.lit 1)))) .nil))) (.x (.sub (.fn 1 (.x (.var 0) (.x (.var 1) .nil))) (.lit 0) (.len (.fn 1 (.x (.var 0) (.x (.sub (.var 1) (.lit 0) (.ar .rem .i64 (.wr .i64 (.var 2)) (.ar .add .i64 (.len (.var 1)) (.lit 1)))) .nil))))) .nil))))))), [], 6)))))
 (.ret ((.v (.one (.z (.bool (.lit false))))), [], 6)))
 (.ret ((.v (.one (.z (.bool (.lit false))))), [], 6)))
 (.ret ((.v (.one (.z (.bool (.lit false))))), [], 6))))))))))))
set_option maxRecDepth 100000 in
theorem trLawFwd_is : T.norm 0 (call Tryz.prog ctX5 (Lt.of []) 200 9 (symArgs 0 [nots, ints, .one (.int .u8)]) [] 0) TT.ret = trLawFwd := by kernel_rfl
theorem trLawFwd_low : trLawFwd.low 1000 = true := by kernel_rfl
end Go.Proofs.YtbbjlleaofgddaaGreat
/- Chapter 42: the laws Once and Forward. -/
namespace Go.Proofs.YtbbjlleaofgddaaGreat
open Go.RowKit
theorem Q6b190 (W : World) (ds l : List D) : (envOf Q6 W ds).fb 190 l = nsL l := by simp only [envOf, Q6, Q5, Q4, Q3, Q2]
theorem Q6b220 (W : World) (ds l : List D) : (envOf Q6 W ds).fb 220 l = eqRL l := by simp only [envOf, Q6, Q5]
theorem Q6b222 (W : World) (ds l : List D) : (envOf Q6 W ds).fb 222 l = fewL l := by simp only [envOf, Q6, Q5]
theorem Q6b230 (W : World) (ds l : List D) : (envOf Q6 W ds).fb 230 l = scrB l := by simp only [envOf, Q6]
theorem Q6i230 (W : World) (ds l : List D) : (envOf Q6 W ds).fi 230 l = runSq l := by simp only [envOf, Q6]
theorem Q6i231 (W : World) (ds l : List D) : (envOf Q6 W ds).fi 231 l = runEr l := by simp only [envOf, Q6]
theorem Q6d0 (W : World) (ds l : List D) : (envOf Q6 W ds).fd 0 l = runQ l := by simp only [envOf, Q6]
theorem Q6d1 (W : World) (ds l : List D) : (envOf Q6 W ds).fd 1 l = runT l := by simp only [envOf, Q6]
def rx (N R : Rows) : RS := RS.run N.length (scr R R.length)
theorem runSq_two {N R : Rows} (h : runOB N R = true) : runSq [.l N, .l R] = (rx N R).s := by
  have e : runO [.l N, .l R] = true := h
  unfold runSq; rw [e, if_pos rfl]; rfl
theorem runEr_two {N R : Rows} : runEr [.l N, .l R] = if runOB N R then 0 else 1 := rfl
theorem runQ_two {N R : Rows} (h : runOB N R = true) : runQ [.l N, .l R] = lts N (rx N R).q := by
  have e : runO [.l N, .l R] = true := h
  unfold runQ; rw [e, if_pos rfl]; rfl
theorem runT_two {N R : Rows} (h : runOB N R = true) : runT [.l N, .l R] = N.take (rx N R).g := by
  have e : runO [.l N, .l R] = true := h
  unfold runT; rw [e, if_pos rfl]; rfl
theorem runT_bad {N R : Rows} (h : runOB N R = false) : runT [.l N, .l R] = [] := by
  have e : runO [.l N, .l R] = false := h
  unfold runT; rw [e, if_neg (by decide)]
theorem scrB_two {N R : Rows} (h : ∀ i, i < R.length → lg R i 0 ≤ 9223372036854775807) : scrB [.l N, .l R] = true := decide_eq_true h
/-! How often a notice is handed over -/
def cntN (R : Rows) : Nat → Nat
  | 0 => 0
  | i + 1 => cntN R i + if (lg R i 0).toNat % 8 = 7 then 1 else 0
theorem step_h {n : Nat} (x : RS) (k : Nat) : (x.step n k).h = if k % 8 = 7 ∧ x.h < n then x.h + 1 else x.h := by
  have h8 : k % 8 < 8 := Nat.mod_lt _ (by decide)
  have c : k % 8 = 0 ∨ k % 8 = 1 ∨ k % 8 = 2 ∨ k % 8 = 3 ∨ k % 8 = 4 ∨ k % 8 = 5 ∨ k % 8 = 6 ∨ k % 8 = 7 := by omega
  rcases c with c | c | c | c | c | c | c | c
  · rw [stepc0 c, if_neg (by omega)]
  · rw [if_neg (by omega)]
    by_cases z : x.w.length = 0
    · rw [stepw (.inl c) z]
    · rw [stepc1 c z]; rfl
  · rw [if_neg (by omega)]
    by_cases z : x.w.length = 0
    · rw [stepw (.inr (.inl c)) z]
    · rw [stepc2 c z]; rfl
  · rw [if_neg (by omega)]
    by_cases z : x.w.length = 0
    · rw [stepw (.inr (.inr c)) z]
    · rw [stepc3 c z]
  · rw [if_neg (by omega)]
    by_cases z : x.b.length = 0
    · rw [stepb (.inl c) z]
    · rw [stepc4 c z]; rfl
  · rw [if_neg (by omega)]
    by_cases z : x.b.length = 0
    · rw [stepb (.inr (.inl c)) z]
    · rw [stepc5 c z]; rfl
  · rw [if_neg (by omega)]
    by_cases z : x.b.length = 0
    · rw [stepb (.inr (.inr c)) z]
    · rw [stepc6 c z]
  · by_cases z : x.h < n
    · rw [stepc7 c z, if_pos ⟨c, z⟩]
    · rw [stepl c z, if_neg (fun q => z q.2)]
theorem run_h (n : Nat) (R : Rows) : ∀ i, (RS.run n (scr R i)).h = min (cntN R i) n
  | 0 => by show 0 = min 0 n; omega
  | i + 1 => by
    rw [run_next, step_h, run_h n R i, cntN]
    split
    · rename_i h; rw [if_pos h.1]; omega
    · rename_i h
      by_cases c : (lg R i 0).toNat % 8 = 7
      · rw [if_pos c]; omega
      · rw [if_neg c]; omega
theorem step_mono {n : Nat} (x : RS) (k : Nat) : x.s ≤ (x.step n k).s ∧ x.g ≤ (x.step n k).g := by
  have tk : ∀ (y : RS) l, y.s ≤ (y.take l).s ∧ y.g ≤ (y.take l).g := fun y l => ⟨Nat.le_refl _, Nat.le_add_right _ _⟩
  have hr : ∀ (y : RS) l, y.s ≤ (y.hear l).s ∧ y.g ≤ (y.hear l).g := fun y l => ⟨Nat.le_max_left _ _, Nat.le_refl _⟩
  have h8 : k % 8 < 8 := Nat.mod_lt _ (by decide)
  have c : k % 8 = 0 ∨ k % 8 = 1 ∨ k % 8 = 2 ∨ k % 8 = 3 ∨ k % 8 = 4 ∨ k % 8 = 5 ∨ k % 8 = 6 ∨ k % 8 = 7 := by omega
  rcases c with c | c | c | c | c | c | c | c
  · rw [stepc0 c]; exact ⟨Nat.le_refl _, Nat.le_refl _⟩
  · by_cases z : x.w.length = 0
    · rw [stepw (.inl c) z]; exact ⟨Nat.le_refl _, Nat.le_refl _⟩
    · rw [stepc1 c z]; exact tk { x with w := x.w.eraseIdx (k / 8 % x.w.length) } _
  · by_cases z : x.w.length = 0
    · rw [stepw (.inr (.inl c)) z]; exact ⟨Nat.le_refl _, Nat.le_refl _⟩
    · rw [stepc2 c z]; exact tk _ _
  · by_cases z : x.w.length = 0
    · rw [stepw (.inr (.inr c)) z]; exact ⟨Nat.le_refl _, Nat.le_refl _⟩
    · rw [stepc3 c z]; exact ⟨Nat.le_refl _, Nat.le_refl _⟩
  · by_cases z : x.b.length = 0
    · rw [stepb (.inl c) z]; exact ⟨Nat.le_refl _, Nat.le_refl _⟩
    · rw [stepc4 c z]; exact hr { x with b := x.b.eraseIdx (k / 8 % x.b.length) } _
  · by_cases z : x.b.length = 0
    · rw [stepb (.inr (.inl c)) z]; exact ⟨Nat.le_refl _, Nat.le_refl _⟩
    · rw [stepc5 c z]; exact hr _ _
  · by_cases z : x.b.length = 0
    · rw [stepb (.inr (.inr c)) z]; exact ⟨Nat.le_refl _, Nat.le_refl _⟩
    · rw [stepc6 c z]; exact ⟨Nat.le_refl _, Nat.le_refl _⟩
  · by_cases z : x.h < n
    · rw [stepc7 c z]; exact ⟨Nat.le_refl _, Nat.le_refl _⟩
    · rw [stepl c z]; exact ⟨Nat.le_refl _, Nat.le_refl _⟩
theorem run_mono (n : Nat) (R : Rows) (i : Nat) : ∀ d, (RS.run n (scr R i)).s ≤ (RS.run n (scr R (i + d))).s ∧ (RS.run n (scr R i)).g ≤ (RS.run n (scr R (i + d))).g
  | 0 => ⟨Nat.le_refl _, Nat.le_refl _⟩
  | d + 1 => by
    obtain ⟨a, b⟩ := run_mono n R i d
    obtain ⟨c, e⟩ := step_mono (n := n) (RS.run n (scr R (i + d))) (lg R (i + d : Nat) 0).toNat
    rw [← Nat.add_assoc, run_next]
    omega
theorem scr_take {R : Rows} {k : Nat} (h : k ≤ R.length) : scr (R.take k) (R.take k).length = scr R k := by
  have hl : (R.take k).length = k := by rw [List.length_take]; omega
  rw [hl]
  unfold scr
  refine List.map_congr_left fun i hi => ?_
  rw [lg_take (List.mem_range.1 hi)]
theorem runOB_take {N R : Rows} (h : runOB N R = true) (k : Nat) : runOB N (R.take k) = true := by
  unfold runOB at *
  simp only [Bool.and_eq_true, decide_eq_true_eq] at *
  refine ⟨h.1, by rw [List.length_take]; omega, fun i hi => ?_⟩
  rw [List.length_take] at hi
  rw [lg_take (by omega)]
  exact h.2.2 i (by omega)
set_option maxHeartbeats 1000000 in
theorem gOnceLaw : GivesIf Tryz.prog 4 [nots, ints] scrOk (fun _ => .bool true) := by
  refine fn_gives Q6 (by kernel_rfl) (fun ρ h => ctX5_ok (Sees.of h 240) (SeesD.of h 2)) (by kernel_rfl) trLawOnce_is trLawOnce_low (by decide) (fun W vals ds hr hok => ?_)
  have hwf := rep_args hr
  have wN := rAt_wf (j := 0) hwf rfl
  have hlN := wN.1
  unfold scrOk at hok
  simp only [trLawOnce, TT.sat_ret, TT.sat_ite, TT.sat_ob, TT.sat_next, TT.sat_stuck, put_i, put_b, put_d, put_fi, put_fb, put_fd, Ob.ok, B.ev, E.ev, X.ev, AL.ev, cmp_t, cmp_f, arEv, V.plain, V2.plain, S.plain, S0.plain, V.val, V2.val, S.val, S0.val, bV, iV, List.all_cons, List.all_nil, Bool.and_true, Bool.and_self, envOf_i, envOf_b, envOf_d, List.map_cons, List.map_nil, true_and, Bool.not_eq_true', Bool.not_eq_false', Bool.not_not, Bool.and_eq_true, and_f, cell_lg, cell_lb, cell_lr, cmpP, val_i, val_b, val_d, aget, Nat.reduceBEq, beq_self_eq_true, Bool.false_eq_true, if_true, if_false, Nat.reduceLT, Nat.reduceSub, Nat.sub_self, Nat.lt_irrefl, Q6b222, Q6b230, Q6i231, Q6i230, X.ev, Q6d0, Q6d1]
  clear hr hwf
  generalize e0 : rAt ds 0 = N at *
  generalize e1 : rAt ds 1 = R at *
  refine ⟨fun _ => trivial, fun _ => ⟨fun _ => trivial, fun h60 => ⟨scrB_two hok, fun he => ?_, fun he => ?_⟩⟩⟩
  · rw [runEr_two] at *
    cases hb : runOB N R with
    | true => rw [hb] at he; exact absurd rfl he
    | false =>
      rw [runT_bad hb]
      exact ⟨fun _ => rfl, fun h => absurd rfl h⟩
  have hb : runOB N R = true := by
    cases hb : runOB N R with
    | true => rfl
    | false => rw [runEr_two, hb] at he; exact absurd (fun h => by cases h) he
  have hpos : ∀ i, i < R.length → 0 ≤ lg R i 0 := by
    have := hb
    unfold runOB at this
    simp only [Bool.and_eq_true, decide_eq_true_eq] at this
    exact this.2.2
  have hA : areNB N = true := by
    have := hb
    unfold runOB at this
    simp only [Bool.and_eq_true, decide_eq_true_eq] at this
    exact this.1
  have hnl := not_len hA
  have hxO : (rx N R).Ok N.length := RS.run_ok _ _
  have hh : (rx N R).h = min (cntN R R.length) N.length := run_h _ _ _
  have hsg := hxO.sg
  have hgh := hxO.gh
  have hhn := hxO.hn
  have hql := hxO.q_len
  have htl : (N.take (rx N R).g).length = (rx N R).g := by rw [List.length_take]; omega
  have rS := runSq_two hb
  have rQ := runQ_two hb
  have rT := runT_two hb
  generalize rx N R = x at *
  refine TT.sat_loop (fun v => ∃ i : Nat, v.i 1 = i ∧ i ≤ R.length ∧ v.i 0 = (cntN R i : Nat) ∧ cntN R i ≤ i) (fun v => R.length - (v.i 1).toNat) ⟨0, by simp [val_i, aget, E.ev], by omega, by simp [val_i, aget, E.ev, cntN], Nat.le_refl _⟩ (fun v hv => ?_)
  obtain ⟨i, i1, i2, i0, i3⟩ := hv
  simp only [TT.sat_ret, TT.sat_ite, TT.sat_ob, TT.sat_next, TT.sat_stuck, put_i, put_b, put_d, put_fi, put_fb, put_fd, Ob.ok, B.ev, E.ev, X.ev, AL.ev, cmp_t, cmp_f, arEv, V.plain, V2.plain, S.plain, S0.plain, V.val, V2.val, S.val, S0.val, bV, iV, List.all_cons, List.all_nil, Bool.and_true, Bool.and_self, envOf_i, envOf_b, envOf_d, List.map_cons, List.map_nil, true_and, Bool.not_eq_true', Bool.not_eq_false', Bool.not_not, Bool.and_eq_true, and_f, cell_lg, cell_lb, cell_lr, cmpP, val_i, val_b, val_d, aget, Nat.reduceBEq, beq_self_eq_true, Bool.false_eq_true, if_true, if_false, Nat.reduceLT, Nat.reduceSub, Nat.sub_self, Nat.lt_irrefl, i0, i1, e0, e1, X.ev, Q6i230, Q6d0, Q6d1, rS, rQ, rT, htl, lts_len]
  refine ⟨fun hc => ⟨by omega, hc, ?_⟩, fun hc => ?_⟩
  · have hi : i < R.length := by omega
    have hk := hpos i hi
    have hK : lg R i 0 = ((lg R i 0).toNat : Int) := by omega
    have hcn : cntN R (i + 1) = cntN R i + if (lg R i 0).toNat % 8 = 7 then 1 else 0 := rfl
    generalize (lg R i 0).toNat = K at *
    rw [hK, tm8, wrap_in ((i : Int) + 1) (by omega) (by omega), wrap_in ((cntN R i : Int) + 1) (by omega) (by omega)]
    refine ⟨fun h7 => ⟨⟨i + 1, rfl, by omega, ?_, ?_⟩, by omega⟩, fun h7 => ⟨⟨i + 1, rfl, by omega, ?_, ?_⟩, by omega⟩⟩
    · rw [hcn, if_pos (by omega)]; omega
    · rw [hcn, if_pos (by omega)]; omega
    · rw [hcn, if_neg (by omega)]; rfl
    · rw [hcn, if_neg (by omega)]; omega
  obtain rfl : i = R.length := by omega
  have hwq : IntKind.i64.wrap ((x.s : Int) + ((x.q.length : Nat) : Int)) = (x.h : Int) := by rw [wrap_in _ (by omega) (by omega)]; omega
  rw [hwq]
  refine ⟨fun h => (by omega), fun _ => ⟨fun h => (by omega), fun _ => ⟨fun h => (by omega), fun _ => ⟨fun h => absurd (by omega) h, fun _ => ?_⟩⟩⟩⟩
  refine TT.sat_loop (fun u => ∃ k : Nat, u.i 1 = k ∧ k ≤ x.q.length ∧ u.b 0 = true) (fun u => x.q.length - (u.i 1).toNat) ⟨0, by simp [val_i, aget, E.ev], by omega, by simp only [TT.sat_ret, TT.sat_ite, TT.sat_ob, TT.sat_next, TT.sat_stuck, put_i, put_b, put_d, put_fi, put_fb, put_fd, Ob.ok, B.ev, E.ev, X.ev, AL.ev, cmp_t, cmp_f, arEv, V.plain, V2.plain, S.plain, S0.plain, V.val, V2.val, S.val, S0.val, bV, iV, List.all_cons, List.all_nil, Bool.and_true, Bool.and_self, envOf_i, envOf_b, envOf_d, List.map_cons, List.map_nil, true_and, Bool.not_eq_true', Bool.not_eq_false', Bool.not_not, Bool.and_eq_true, and_f, cell_lg, cell_lb, cell_lr, cmpP, val_i, val_b, val_d, aget, Nat.reduceBEq, beq_self_eq_true, Bool.false_eq_true, if_true, if_false, Nat.reduceLT, Nat.reduceSub, Nat.sub_self, Nat.lt_irrefl]⟩ (fun u hu => ?_)
  obtain ⟨k, k1, k2, k0⟩ := hu
  simp only [TT.sat_ret, TT.sat_ite, TT.sat_ob, TT.sat_next, TT.sat_stuck, put_i, put_b, put_d, put_fi, put_fb, put_fd, Ob.ok, B.ev, E.ev, X.ev, AL.ev, cmp_t, cmp_f, arEv, V.plain, V2.plain, S.plain, S0.plain, V.val, V2.val, S.val, S0.val, bV, iV, List.all_cons, List.all_nil, Bool.and_true, Bool.and_self, envOf_i, envOf_b, envOf_d, List.map_cons, List.map_nil, true_and, Bool.not_eq_true', Bool.not_eq_false', Bool.not_not, Bool.and_eq_true, and_f, cell_lg, cell_lb, cell_lr, cmpP, val_i, val_b, val_d, aget, Nat.reduceBEq, beq_self_eq_true, Bool.false_eq_true, if_true, if_false, Nat.reduceLT, Nat.reduceSub, Nat.sub_self, Nat.lt_irrefl, k0, k1, e0, e1, X.ev, Q6i230, Q6d0, Q6d1, Q6b190, Q6b220, rS, rQ, rT, htl, lts_len, eqRL_two]
  refine ⟨fun hc => ⟨by omega, hc, ?_⟩, fun hc => ?_⟩
  · have hk : k < x.q.length := by omega
    have hq := q_get x (i := k) (by omega)
    have hqd : x.q.getD k 0 = x.s + k := by rw [List.getD_eq_getElem?_getD, hq]; rfl
    have cg := fun j => lts_lg (N := N) hk j
    have cb := fun j => lts_lb (N := N) hk j
    have cr := fun j => lts_lr (N := N) hk j
    rw [hqd] at cg cb cr
    have a2 : cI (letR N (x.s + k)) 2 = ((x.s + k : Nat) : Int) := rfl
    have a3 : cB (letR N (x.s + k)) 3 = false := rfl
    simp only [cg, cb, cr, a2, a3]
    rw [wrap_in ((x.s : Int) + (k : Int)) (by omega) (by omega), wrap_in ((k : Int) + 1) (by omega) (by omega)]
    refine ⟨fun _ => ⟨fun _ => ⟨fun _ => ⟨by omega, by omega, ⟨k + 1, rfl, by omega, ?_⟩, by omega⟩, fun h => (by cases h)⟩, fun h => absurd (by omega) h⟩, fun h => (by cases h)⟩
    exact (ns14 _ _ _ _ _ _ _ _ _ _ _ _ _ _).2 rfl
  · refine ⟨fun _ => ⟨by omega, by omega, ?_⟩, fun h => (by cases h)⟩
    rw [subR_zero, eqb_iff.2 rfl]
theorem eql_i (a b : Int) : cmpEv .eql a b = decide (a = b) := rfl
set_option maxHeartbeats 1000000 in
theorem gFwdLaw : GivesIf Tryz.prog 9 [nots, ints, .one (.int .u8)] (fun ds => scrOk ds ∧ 0 ≤ iAt ds 2 ∧ iAt ds 2 ≤ 255) (fun _ => .bool true) := by
  refine fn_gives Q6 (by kernel_rfl) (fun ρ h => ctX5_ok (Sees.of h 240) (SeesD.of h 2)) (by kernel_rfl) trLawFwd_is trLawFwd_low (by decide) (fun W vals ds hr hok => ?_)
  have hwf := rep_args hr
  have wN := rAt_wf (j := 0) hwf rfl
  have hlN := wN.1
  obtain ⟨hok, c0, c1⟩ := hok
  unfold scrOk at hok
  simp only [trLawFwd, TT.sat_ret, TT.sat_ite, TT.sat_ob, TT.sat_next, TT.sat_stuck, put_i, put_b, put_d, put_fi, put_fb, put_fd, Ob.ok, B.ev, E.ev, X.ev, AL.ev, cmp_t, cmp_f, arEv, V.plain, V2.plain, S.plain, S0.plain, V.val, V2.val, S.val, S0.val, bV, iV, List.all_cons, List.all_nil, Bool.and_true, Bool.and_self, envOf_i, envOf_b, envOf_d, List.map_cons, List.map_nil, true_and, Bool.not_eq_true', Bool.not_eq_false', Bool.not_not, Bool.and_eq_true, and_f, cell_lg, cell_lb, cell_lr, cmpP, val_i, val_b, val_d, aget, Nat.reduceBEq, beq_self_eq_true, Bool.false_eq_true, if_true, if_false, Nat.reduceLT, Nat.reduceSub, Nat.sub_self, Nat.lt_irrefl, Q6b222, Q6b230, Q6i231, Q6i230, X.ev, Q6d0, Q6d1, Q6b220, eqRL_two]
  clear hr hwf
  generalize e0 : rAt ds 0 = N at *
  generalize e1 : rAt ds 1 = R at *
  generalize iAt ds 2 = c at *
  refine ⟨fun _ => trivial, fun _ => ⟨fun _ => trivial, fun h60 => ?_⟩⟩
  rw [wrap_in ((R.length : Nat) + 1) (by omega) (by omega), wrap_in c (by omega) (by omega)]
  obtain ⟨C, rfl⟩ := Int.eq_ofNat_of_zero_le c0
  have hm : ((C : Nat) : Int).tmod (((R.length : Nat) : Int) + 1) = ((C % (R.length + 1) : Nat) : Int) := rfl
  have hk : C % (R.length + 1) ≤ R.length := by have := Nat.mod_lt C (show R.length + 1 > 0 by omega); omega
  rw [hm]
  generalize C % (R.length + 1) = k at *
  simp only [subR_zero]
  have hok' : ∀ i, i < (R.take k).length → lg (R.take k) i 0 ≤ 9223372036854775807 := fun i hi => by
    rw [List.length_take] at hi
    rw [lg_take (by omega)]
    exact hok i (by omega)
  refine ⟨by omega, by omega, by omega, scrB_two hok', scrB_two hok, fun he => ?_, fun he => ?_⟩
  · rw [runEr_two] at *
    cases hb : runOB N R with
    | true => rw [hb] at he; exact absurd rfl he
    | false => rfl
  have hb : runOB N R = true := by
    cases hb : runOB N R with
    | true => rfl
    | false => rw [runEr_two, hb] at he; exact absurd (fun h => by cases h) he
  have hb' := runOB_take hb k
  have hxO : (rx N R).Ok N.length := RS.run_ok _ _
  have hrk : rx N (R.take k) = RS.run N.length (scr R k) := by unfold rx; rw [scr_take hk]
  have hxk : (rx N (R.take k)).Ok N.length := RS.run_ok _ _
  obtain ⟨m1, m2⟩ := run_mono N.length R k (R.length - k)
  rw [show k + (R.length - k) = R.length by omega, ← hrk] at m1 m2
  have m1 : (rx N (R.take k)).s ≤ (rx N R).s := m1
  have m2 : (rx N (R.take k)).g ≤ (rx N R).g := m2
  have hgh := hxO.gh
  have hhn := hxO.hn
  rw [runSq_two hb, runSq_two hb', runT_two hb, runT_two hb', runEr_two, hb', if_pos rfl]
  generalize rx N R = x at *
  generalize rx N (R.take k) = y at *
  have l1 : (N.take x.g).length = x.g := by rw [List.length_take]; omega
  have l2 : (N.take y.g).length = y.g := by rw [List.length_take]; omega
  rw [l1, l2]
  refine ⟨fun _ => ⟨fun _ => ⟨fun _ => ⟨by omega, by omega, ?_⟩, fun h => absurd (by omega) h⟩, fun h => absurd (by omega) h⟩, fun h => absurd rfl h⟩
  rw [List.take_take, Nat.min_eq_left m2, eqb_iff.2 rfl]
end Go.Proofs.YtbbjlleaofgddaaGreat
/- Chapter 42: what the arguments' integers are. -/
namespace Go.Proofs.YtbbjlleaofgddaaGreat
open Go.ChangeShapes Go.WideShapes Go.ChangeAt Go.RowKit
section
variable {H : Type} {enc : TypeId × Value → H} {P : Program} {W : World} {sp : Nat → Bool} {held : Bool}
theorem wf_le {n : Int} (h : (Lit.int .i64 n).wf = true) : n ≤ 9223372036854775807 := by
  unfold Lit.wf at h
  simp only [Bool.and_eq_true, decide_eq_true_eq] at h
  have e2 : IntKind.i64.max = 9223372036854775807 := by decide
  have h2 := h.2
  rw [e2] at h2
  exact h2
theorem ints_wide {t e : TypeId} (hu : P.underlying t = some (.slice e)) (he : P.underlying e = some (.int .i64)) {v : Value} {d : DataW H} {p : List MemPlace} (h : DataW.Trod enc P W 0 sp held t v d p) {rows : Rows} (hr : CK.rep W (.sl [.int .i64]) v (.l rows)) :
    ∀ i, i < rows.length → lg rows i 0 ≤ 9223372036854775807 := by
  intro i hi
  obtain ⟨fuel, hf⟩ := h
  obtain ⟨r, e0, a, n, c, rfl, hs, _⟩ := rep_sl.1 hr
  simp only [D.l.injEq] at e0
  subst e0
  have hf : DataW.trod enc P W 0 sp held fuel t [.slice a n c] = some (d, p) := hf
  cases fuel with
  | zero => simp [DataW.trod] at hf
  | succ fuel =>
    rcases DataW.trod_slice hu hf with ⟨q, _⟩ | ⟨a', len, cap, elems, rest, m, hm, q, _, _, _, _, hlen, hel, _, _⟩
    · simp only [List.cons.injEq, Value.slice.injEq, and_true] at q
      have := hs.len
      omega
    · simp only [List.cons.injEq, Value.slice.injEq, and_true] at q
      obtain ⟨rfl, rfl, rfl⟩ := q
      have hl := hs.len
      have h2 := hel i (by omega)
      rw [List.getElem?_eq_getElem (by omega)] at h2
      simp only [Option.bind_eq_some_iff] at h2
      obtain ⟨vs, h3, h4⟩ := h2
      obtain ⟨c1, c2⟩ := cells_of h3
      obtain ⟨x, rfl, _, hw⟩ := DataW.trod_int he h4
      obtain ⟨us, g1, g2⟩ := hs.cell a' rfl i rows[i] (List.getElem?_eq_getElem hi)
      unfold CK.reps CK.reps CK.rep at g1
      obtain ⟨u, us', d', ds', rfl, g3, ⟨y, rfl, rfl⟩, rfl, rfl⟩ := g1
      have q1 := c2 0 _ rfl
      have q2 := g2 0 _ rfl
      have hc : P.cellsOf e = 1 := by simpa using c1.symm
      rw [hc] at q1
      simp only [List.length_cons, List.length_nil, Nat.zero_add, Nat.add_zero] at q1 q2
      have q3 : (a'.add (i * 1)).add 0 = a'.add (i * 1) := by simp [Addr.add]
      rw [q3, q2] at q1
      simp only [Option.some.injEq, Value.int.injEq, true_and] at q1
      subst q1
      rw [lg_cI hi, g3]
      exact wf_le hw
end
theorem scr_arg {W : World} {vals vs0 vs1 : List Value} {v0 v1 : Value} {sh : List Sh} {xs : List D} (h : repSh W (nots :: ints :: sh) vals xs) (h0 : vals = v0 :: vs0) (h1 : vs0 = v1 :: vs1) (hw : ∀ rows, CK.rep W (.sl [.int .i64]) v1 (.l rows) → ∀ i, i < rows.length → lg rows i 0 ≤ 9223372036854775807) : scrOk xs := by
  subst h0 h1
  obtain ⟨u0, us0, d0, ds0, e0, rfl, ⟨x0, rfl, g0⟩, u1, us1, d1, ds1, e1, rfl, ⟨x1, rfl, g1⟩, _⟩ := h
  simp only [List.cons.injEq] at e0
  obtain ⟨rfl, rfl⟩ := e0
  simp only [List.cons.injEq] at e1
  obtain ⟨rfl, rfl⟩ := e1
  obtain ⟨r, rfl, hs⟩ := rep_sl.1 g1
  exact hw r g1
theorem u8_arg2 {W : World} {vals : List Value} {ds : List D} (h : repSh W [nots, ints, .one (.int .u8)] vals ds) (hr : ∀ v, vals[2]? = some v → ∃ n : Int, v = .int .u8 n ∧ 0 ≤ n ∧ n ≤ 255) : 0 ≤ iAt ds 2 ∧ iAt ds 2 ≤ 255 := by
  obtain ⟨v0, vs0, d0, ds0, rfl, rfl, ⟨x0, rfl, h0⟩, v1, vs1, d1, ds1, rfl, rfl, ⟨x1, rfl, h1⟩, v2, vs2, d2, ds2, rfl, rfl, ⟨x2, rfl, h2⟩, rfl, rfl⟩ := h
  obtain ⟨n, rfl, n1, n2⟩ := hr v2 rfl
  unfold CK.rep at h2
  obtain ⟨n', e1, rfl⟩ := h2
  cases e1
  exact ⟨n1, n2⟩
theorem okWide_u8 {P : Program} {w : World} {r : Reach} {base : Nat} {t : TypeId} {v : Value} (hu : P.underlying t = some (.int .u8)) (h : Value.okWide P w r base t v) : ∃ n : Int, v = .int .u8 n ∧ 0 ≤ n ∧ n ≤ 255 := by
  unfold Value.okWide at h
  simp only [hu] at h
  unfold Cell.okWide at h
  simp only [hu] at h
  unfold Cell.ok at h
  simp only [hu] at h
  cases v <;> simp only at h <;> try exact h.elim
  rename_i k n
  obtain ⟨rfl, h⟩ := h
  refine ⟨n, rfl, ?_⟩
  have e1 : IntKind.u8.min = 0 := by decide
  have e2 : IntKind.u8.max = 255 := by decide
  unfold IntKind.has at h
  rw [e1, e2] at h
  exact h
end Go.Proofs.YtbbjlleaofgddaaGreat
