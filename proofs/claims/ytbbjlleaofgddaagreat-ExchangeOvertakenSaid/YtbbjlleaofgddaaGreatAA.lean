/- AA, merged: TAa, Aa, TAb, Aw, Ab, TAc, Ac, TAd, Ad. -/
import Derived.Test.YtbbjlleaofgddaaGreatNB
import Derived.Test.YtbbjlleaofgddaaGreatMZ
set_option linter.unusedSimpArgs false
set_option linter.unusedVariables false
/- Chapter 42: trees of what notices are compared by; of letters. -/
namespace Go.Proofs.YtbbjlleaofgddaaGreat
open Go.RowKit
def letK : List CK := [.int .i64, .int .i64, .int .i64, .bool, .int .i64, .int .i64, .int .i64, .int .i64, .int .i64, .int .i64, .sl partK]
def letS : Sh := .agg letK
def lets : Sh := .one (.sl letK)
def boxS : Sh := .agg [.int .i64, .sl letK]
-- term trSameOp: call Tryz.prog ctN4 (Lt.of []) 100 74 (symArgs 0 [opS, opS]) [] 0
def trSameOp : TT OpR :=
(.ite (.cmp .eql (.var 0) (.var 16))
 (.ite (.cmp .eql (.var 1) (.var 17))
 (.ite (.and (.cmp .eql (.var 11) (.var 27)) (.cmp .eql (.var 12) (.var 28)))
 (.ite (.cmp .eql (.var 13) (.var 29))
 (.ite (.cmp .eql (.var 14) (.var 30))
 (.ite (.cmp .eql (.var 15) (.var 31))
 (.ret ((.v (.one (.z (.bool (.fn 147 (.i (.var 2) (.i (.var 3) (.i (.var 4) (.i (.var 5) (.i (.var 6) (.x (.var 7) (.i (.var 8) (.i (.var 9) (.x (.var 10) (.i (.var 18) (.i (.var 19) (.i (.var 20) (.i (.var 21) (.i (.var 22) (.x (.var 23) (.i (.var 24) (.i (.var 25) (.x (.var 26) .nil))))))))))))))))))))))), [], 2))
 (.ret ((.v (.one (.z (.bool (.lit false))))), [], 2)))
 (.ret ((.v (.one (.z (.bool (.lit false))))), [], 2)))
 (.ret ((.v (.one (.z (.bool (.lit false))))), [], 2)))
 (.ret ((.v (.one (.z (.bool (.lit false))))), [], 2)))
 (.ret ((.v (.one (.z (.bool (.lit false))))), [], 2)))
 (.ret ((.v (.one (.z (.bool (.lit false))))), [], 2)))
-- end trSameOp
set_option maxRecDepth 100000 in
theorem trSameOp_is : T.norm 0 (call Tryz.prog ctN4 (Lt.of []) 100 74 (symArgs 0 [opS, opS]) [] 0) TT.ret = trSameOp := by kernel_rfl
theorem trSameOp_low : trSameOp.low 1000 = true := by kernel_rfl
end Go.Proofs.YtbbjlleaofgddaaGreat
/- Chapter 42: notice.SameOp. -/
namespace Go.Proofs.YtbbjlleaofgddaaGreat
open Go.RowKit
def opqL (ds : List D) : Bool := decide (iAt ds 0 = iAt ds 16 ∧ iAt ds 1 = iAt ds 17 ∧ (iAt ds 11 = iAt ds 27 ∧ iAt ds 12 = iAt ds 28) ∧ iAt ds 13 = iAt ds 29 ∧ iAt ds 14 = iAt ds 30 ∧ iAt ds 15 = iAt ds 31) &&
  sameL [.i (iAt ds 2), .i (iAt ds 3), .i (iAt ds 4), .i (iAt ds 5), .i (iAt ds 6), .l (rAt ds 7), .i (iAt ds 8), .i (iAt ds 9), .l (rAt ds 10), .i (iAt ds 18), .i (iAt ds 19), .i (iAt ds 20), .i (iAt ds 21), .i (iAt ds 22), .l (rAt ds 23), .i (iAt ds 24), .i (iAt ds 25), .l (rAt ds 26)]
theorem N4b147 (W : World) (ds l : List D) : (envOf N4 W ds).fb 147 l = sameL l := by simp only [envOf, N4, N3, N2, N1]
theorem gSameOp : Gives Tryz.prog 74 [opS, opS] (fun ds => .bool (opqL ds)) := by
  refine GivesIf.all (fn_gives N4 (by kernel_rfl) (fun ρ h => ctN4_ok (Sees.of h 180)) (by kernel_rfl) trSameOp_is trSameOp_low (by decide) (fun W vals ds hr _ => ?_))
  simp only [trSameOp, TT.sat_ret, TT.sat_ite, TT.sat_ob, TT.sat_next, TT.sat_stuck, put_i, put_b, put_d, put_fi, put_fb, put_fd, Ob.ok, B.ev, E.ev, X.ev, AL.ev, cmp_t, cmp_f, arEv, V.plain, V2.plain, S.plain, S0.plain, V.val, V2.val, S.val, S0.val, bV, iV, List.all_cons, List.all_nil, Bool.and_true, Bool.and_self, envOf_i, envOf_b, envOf_d, List.map_cons, List.map_nil, true_and, Bool.not_eq_true', Bool.not_eq_false', Bool.not_not, Bool.and_eq_true, and_f, cell_lg, cell_lb, cell_lr, cmpP, val_i, val_b, val_d, aget, Nat.reduceBEq, beq_self_eq_true, Bool.false_eq_true, if_true, if_false, Nat.reduceLT, Nat.reduceSub, Nat.sub_self, Nat.lt_irrefl, N4b147]
  have F : ∀ b, opqL ds = b → Value.bool b = Value.bool (opqL ds) := fun b h => by rw [h]
  have N : ¬ (iAt ds 0 = iAt ds 16 ∧ iAt ds 1 = iAt ds 17 ∧ (iAt ds 11 = iAt ds 27 ∧ iAt ds 12 = iAt ds 28) ∧ iAt ds 13 = iAt ds 29 ∧ iAt ds 14 = iAt ds 30 ∧ iAt ds 15 = iAt ds 31) → Value.bool false = Value.bool (opqL ds) := fun h => F _ (by rw [opqL, decide_eq_false h, Bool.false_and])
  refine ⟨fun h1 => ⟨fun h2 => ⟨fun h3 => ⟨fun h4 => ⟨fun h5 => ⟨fun h6 => ?_, fun h => N (by omega)⟩, fun h => N (by omega)⟩, fun h => N (by omega)⟩, fun h => N (by omega)⟩, fun h => N (by omega)⟩, fun h => N (by omega)⟩
  rw [opqL, decide_eq_true (by omega), Bool.true_and]
def Q1 : Interp where
  fi n l := N4.fi n l
  fb n l := match n with | 180 => opqL l | n => N4.fb n l
  fd _ _ := []
theorem Q1_N4 {ρ : Env} (h : Sees ρ Q1 190) : Sees ρ N4 180 := h.trans (by decide) fun n l hn => by
  refine ⟨?_, ?_⟩
  ·
    rfl
  ·
    simp only [Q1]
    split <;> first | omega | rfl
def cSameOp := ctD [opS, opS] fun al => .ret (bV (bF 180 opqL al))
theorem cSameOp_ok {ρ : Env} (h : Sees ρ Q1 190) : CtOne Tryz.prog ρ 74 cSameOp :=
  ctD_ok gSameOp (fun _ => rfl) (fun al => by simp only [iV, bV, V.s0, V.val, V2.val, S.val, S0.val, bF_ev (s := 180) (f := opqL) (fun l => by rw [(h 180 l (by decide)).2]; simp only [Q1])]; try rfl)
def ctQ1 : Ct := (74, cSameOp) :: ctN4
theorem ctQ1_ok {ρ : Env} (h : Sees ρ Q1 190) : CtOk Tryz.prog ρ ctQ1 := .cons (cSameOp_ok h) <| ctN4_ok (Q1_N4 h)
end Go.Proofs.YtbbjlleaofgddaaGreat
/- Chapter 42: trees of notice.Same; of what letters are. -/
namespace Go.Proofs.YtbbjlleaofgddaaGreat
open Go.RowKit
-- term trNSame: call Tryz.prog ctQ1 (Lt.of []) 150 35 (symArgs 0 [notS, notS]) [] 0
def trNSame : TT OpR :=
(.ite (.cmp .neq (.var 0) (.var 7))
 (.ret ((.v (.one (.z (.bool (.lit false))))), [], 2))
 (.ite (.cmp .neq (.var 1) (.var 8))
 (.ret ((.v (.one (.z (.bool (.lit false))))), [], 2))
 (.ite (.cmp .neq (.var 2) (.var 9))
 (.ret ((.v (.one (.z (.bool (.lit false))))), [], 2))
 (.ite (.cmp .neq (.var 3) (.var 10))
 (.ret ((.v (.one (.z (.bool (.lit false))))), [], 2))
 (.ite (.cmp .neq (.var 4) (.var 11))
 (.ret ((.v (.one (.z (.bool (.lit false))))), [], 2))
 (.ite (.cmp .neq (.var 5) (.var 12))
 (.ret ((.v (.one (.z (.bool (.lit false))))), [], 2))
 (.ite (.cmp .neq (.len (.var 6)) (.len (.var 13)))
 (.ret ((.v (.one (.z (.bool (.lit false))))), [], 2))
 (.loop 0 3000 ⟨[(0, (.lit 0))], [], []⟩
 (.ite (.cmp .lss (.var 3000) (.len (.var 6)))
 (.ob (.tru (.cmp .leq (.lit 0) (.var 3000)))
 (.ob (.tru (.cmp .lss (.var 3000) (.len (.var 6))))
 (.ob (.tru (.cmp .leq (.lit 0) (.var 3000)))
 (.ob (.tru (.cmp .lss (.var 3000) (.len (.var 13))))
 (.ite (.cmp .eql (.rd (.var 6) (.var 3000) 0) (.rd (.var 13) (.var 3000) 0))
 (.ite (.cmp .neq (.len (.rd (.var 6) (.var 3000) 1)) (.len (.rd (.var 13) (.var 3000) 1)))
 (.ret ((.v (.one (.z (.bool (.lit false))))), [], 11))
 (.loop 1 8000 ⟨[(0, (.lit 0))], [], []⟩
 (.ite (.cmp .lss (.var 8000) (.len (.rd (.var 6) (.var 3000) 1)))
 (.ob (.tru (.cmp .leq (.lit 0) (.var 8000)))
 (.ob (.tru (.cmp .lss (.var 8000) (.len (.rd (.var 6) (.var 3000) 1))))
 (.ob (.tru (.cmp .leq (.lit 0) (.var 8000)))
 (.ob (.tru (.cmp .lss (.var 8000) (.len (.rd (.var 13) (.var 3000) 1))))
 (.ite (.cmp .neq (.rd (.rd (.var 6) (.var 3000) 1) (.var 8000) 0) (.rd (.rd (.var 13) (.var 3000) 1) (.var 8000) 0))
 (.ret ((.v (.one (.z (.bool (.lit false))))), [], 11))
 (.next 1 ⟨[(0, (.ar .add .i64 (.var 8000) (.lit 1)))], [], []⟩))))))
 (.ite (.cmp .neq (.len (.rd (.var 6) (.var 3000) 2)) (.len (.rd (.var 13) (.var 3000) 2)))
 (.ret ((.v (.one (.z (.bool (.lit false))))), [], 11))
 (.loop 2 9000 ⟨[(0, (.lit 0))], [], []⟩
 (.ite (.cmp .lss (.var 9000) (.len (.rd (.var 6) (.var 3000) 2)))
 (.ob (.tru (.cmp .leq (.lit 0) (.var 9000)))
 (.ob (.tru (.cmp .lss (.var 9000) (.len (.rd (.var 6) (.var 3000) 2))))
 (.ob (.tru (.cmp .leq (.lit 0) (.var 9000)))
 (.ob (.tru (.cmp .lss (.var 9000) (.len (.rd (.var 13) (.var 3000) 2))))
 (.ite (.not (.fn 180 (.i (.rd (.rd (.var 6) (.var 3000) 2) (.var 9000) 0) (.i (.rd (.rd (.var 6) (.var 3000) 2) (.var 9000) 1) (.i (.rd (.rd (.var 6) (.var 3000) 2) (.var 9000) 2) (.i (.rd (.rd (.var 6) (.var 3000) 2) (.var 9000) 3) (.i (.rd (.rd (.var 6) (.var 3000) 2) (.var 9000) 4) (.i (.rd (.rd (.var 6) (.var 3000) 2) (.var 9000) 5) (.i (.rd (.rd (.var 6) (.var 3000) 2) (.var 9000) 6) (.x (.rd (.rd (.var 6) (.var 3000) 2) (.var 9000) 7) (.i (.rd (.rd (.var 6) (.var 3000) 2) (.var 9000) 8) (.i (.rd (.rd (.var 6) (.var 3000) 2) (.var 9000) 9) (.x (.rd (.rd (.var 6) (.var 3000) 2) (.var 9000) 10) (.i (.rd (.rd (.var 6) (.var 3000) 2) (.var 9000) 11) (.i (.rd (.rd (.var 6) (.var 3000) 2) (.var 9000) 12) (.i (.rd (.rd (.var 6) (.var 3000) 2) (.var 9000) 13) (.i (.rd (.rd (.var 6) (.var 3000) 2) (.var 9000) 14) (.i (.rd (.rd (.var 6) (.var 3000) 2) (.var 9000) 15) (.i (.rd (.rd (.var 13) (.var 3000) 2) (.var 9000) 0) (.i (.rd (.rd (.var 13) (.var 3000) 2) (.var 9000) 1) (.i (.rd (.rd (.var 13) (.var 3000) 2) (.var 9000) 2) (.i (.rd (.rd (.var 13) (.var 3000) 2) (.var 9000) 3) (.i (.rd (.rd (.var 13) (.var 3000) 2) (.var 9000) 4) (.i (.rd (.rd (.var 13) (.var 3000) 2) (.var 9000) 5) (.i (.rd (.rd (.var 13) (.var 3000) 2) (.var 9000) 6) (.x (.rd (.rd (.var 13) (.var 3000) 2) (.var 9000) 7) (.i (.rd (.rd (.var 13) (.var 3000) 2) (.var 9000) 8) (.i (.rd (.rd (.var 13) (.var 3000) 2) (.var 9000) 9) (.x (.rd (.rd (.var 13) (.var 3000) 2) (.var 9000) 10) (.i (.rd (.rd (.var 13) (.var 3000) 2) (.var 9000) 11) (.i (.rd (.rd (.var 13) (.var 3000) 2) (.var 9000) 12) (.i (.rd (.rd (.var 13) (.var 3000) 2) (.var 9000) 13) (.i (.rd (.rd (.var 13) (.var 3000) 2) (.var 9000) 14) (.i (.rd (.rd (.var 13) (.var 3000) 2) (.var 9000) 15) .nil))))))))))))))))))))))))))))))))))
 (.ret ((.v (.one (.z (.bool (.lit false))))), [], 11))
 (.next 2 ⟨[(0, (.ar .add .i64 (.var 9000) (.lit 1)))], [], []⟩))))))
 (.next 0 ⟨[(0, (.ar .add .i64 (.var 3000) (.lit 1)))], [], []⟩)))))))
 (.ret ((.v (.one (.z (.bool (.lit false))))), [], 11)))))))
 (.ret ((.v (.one (.z (.bool (.lit true))))), [], 11)))))))))))
-- end trNSame
def trNSame_h : List (Nat × St) := [
(2, ⟨(List.append [(.v (.one (.z (.ext partK (.var 6) false)))), (.v (.one (.z (.ext partK (.var 13) false)))), (.v (.one (.z (.clo 71 [])))), (.v (.one (.z .any))), (.v (.one (.z .any))), (.v (.one (.z .any))), (.v (.one (.z (.bool (.lit false))))), (.v (.one (.z .any))), (.v (.one (.z .any))), (.v (.one (.z .any))), (.v (.one (.z (.ext partK (.var 6) false)))), (.v (.one (.z (.int .i64 (.len (.var 6)))))), (.v (.one (.z (.ext partK (.var 13) false)))), (.v (.one (.z (.int .i64 (.len (.var 13)))))), (.v (.one (.z (.bool (.cmp .neq (.len (.var 6)) (.len (.var 13))))))), (.v (.one (.z (.ext partK (.var 6) false)))), (.v (.one (.z (.int .i64 (.len (.var 6)))))), (.v (.one (.z (.int .i64 (.var 3000)))))] (List.replicate 14 V.any)), [(1, (.cells 29 [(.z (.int .i64 (.var 7))), (.z (.int .i64 (.var 8))), (.z (.int .i64 (.var 9))), (.z (.int .i64 (.var 10))), (.z (.int .i64 (.var 11))), (.z (.int .i64 (.var 12))), (.z (.ext partK (.var 13) false))])), (0, (.cells 29 [(.z (.int .i64 (.var 0))), (.z (.int .i64 (.var 1))), (.z (.int .i64 (.var 2))), (.z (.int .i64 (.var 3))), (.z (.int .i64 (.var 4))), (.z (.int .i64 (.var 5))), (.z (.ext partK (.var 6) false))]))], 3, []⟩),
(7, ⟨(List.append [(.v (.one (.z (.ext [(.int .i64)] (.rd (.var 6) (.var 3000) 1) false)))), (.v (.one (.z (.ext [(.int .i64)] (.rd (.var 13) (.var 3000) 1) false)))), (.v (.one (.z .any))), (.v (.one (.z .any))), (.v (.one (.z (.bool (.lit false))))), (.v (.one (.z .any))), (.v (.one (.z (.ext [(.int .i64)] (.rd (.var 6) (.var 3000) 1) false)))), (.v (.one (.z (.int .i64 (.len (.rd (.var 6) (.var 3000) 1)))))), (.v (.one (.z (.ext [(.int .i64)] (.rd (.var 13) (.var 3000) 1) false)))), (.v (.one (.z (.int .i64 (.len (.rd (.var 13) (.var 3000) 1)))))), (.v (.one (.z (.bool (.cmp .neq (.len (.rd (.var 6) (.var 3000) 1)) (.len (.rd (.var 13) (.var 3000) 1))))))), (.v (.one (.z (.ext [(.int .i64)] (.rd (.var 6) (.var 3000) 1) false)))), (.v (.one (.z (.int .i64 (.len (.rd (.var 6) (.var 3000) 1)))))), (.v (.one (.z (.int .i64 (.var 8000)))))] (List.replicate 12 V.any)), [(6, (.cells 106 [(.z (.int .i64 (.rd (.var 13) (.var 3000) 0))), (.z (.ext [(.int .i64)] (.rd (.var 13) (.var 3000) 1) false)), (.z (.ext opK (.rd (.var 13) (.var 3000) 2) false))])), (5, (.cells 106 [(.z (.int .i64 (.rd (.var 6) (.var 3000) 0))), (.z (.ext [(.int .i64)] (.rd (.var 6) (.var 3000) 1) false)), (.z (.ext opK (.rd (.var 6) (.var 3000) 2) false))])), (4, (.cells 106 [(.z (.int .i64 (.rd (.var 13) (.var 3000) 0))), (.z (.ext [(.int .i64)] (.rd (.var 13) (.var 3000) 1) false)), (.z (.ext opK (.rd (.var 13) (.var 3000) 2) false))])), (3, (.cells 106 [(.z (.int .i64 (.rd (.var 6) (.var 3000) 0))), (.z (.ext [(.int .i64)] (.rd (.var 6) (.var 3000) 1) false)), (.z (.ext opK (.rd (.var 6) (.var 3000) 2) false))])), (1, (.cells 29 [(.z (.int .i64 (.var 7))), (.z (.int .i64 (.var 8))), (.z (.int .i64 (.var 9))), (.z (.int .i64 (.var 10))), (.z (.int .i64 (.var 11))), (.z (.int .i64 (.var 12))), (.z (.ext partK (.var 13) false))])), (0, (.cells 29 [(.z (.int .i64 (.var 0))), (.z (.int .i64 (.var 1))), (.z (.int .i64 (.var 2))), (.z (.int .i64 (.var 3))), (.z (.int .i64 (.var 4))), (.z (.int .i64 (.var 5))), (.z (.ext partK (.var 6) false))]))], 8, []⟩),
(8, ⟨(List.append [(.v (.one (.z (.ext opK (.rd (.var 6) (.var 3000) 2) false)))), (.v (.one (.z (.ext opK (.rd (.var 13) (.var 3000) 2) false)))), (.v (.one (.z (.clo 74 [])))), (.v (.one (.z .any))), (.v (.one (.z .any))), (.v (.one (.z .any))), (.v (.one (.z (.bool (.lit false))))), (.v (.one (.z .any))), (.v (.one (.z .any))), (.v (.one (.z .any))), (.v (.one (.z (.ext opK (.rd (.var 6) (.var 3000) 2) false)))), (.v (.one (.z (.int .i64 (.len (.rd (.var 6) (.var 3000) 2)))))), (.v (.one (.z (.ext opK (.rd (.var 13) (.var 3000) 2) false)))), (.v (.one (.z (.int .i64 (.len (.rd (.var 13) (.var 3000) 2)))))), (.v (.one (.z (.bool (.cmp .neq (.len (.rd (.var 6) (.var 3000) 2)) (.len (.rd (.var 13) (.var 3000) 2))))))), (.v (.one (.z (.ext opK (.rd (.var 6) (.var 3000) 2) false)))), (.v (.one (.z (.int .i64 (.len (.rd (.var 6) (.var 3000) 2)))))), (.v (.one (.z (.int .i64 (.var 9000)))))] (List.replicate 14 V.any)), [(6, (.cells 106 [(.z (.int .i64 (.rd (.var 13) (.var 3000) 0))), (.z (.ext [(.int .i64)] (.rd (.var 13) (.var 3000) 1) false)), (.z (.ext opK (.rd (.var 13) (.var 3000) 2) false))])), (5, (.cells 106 [(.z (.int .i64 (.rd (.var 6) (.var 3000) 0))), (.z (.ext [(.int .i64)] (.rd (.var 6) (.var 3000) 1) false)), (.z (.ext opK (.rd (.var 6) (.var 3000) 2) false))])), (4, (.cells 106 [(.z (.int .i64 (.rd (.var 13) (.var 3000) 0))), (.z (.ext [(.int .i64)] (.rd (.var 13) (.var 3000) 1) false)), (.z (.ext opK (.rd (.var 13) (.var 3000) 2) false))])), (3, (.cells 106 [(.z (.int .i64 (.rd (.var 6) (.var 3000) 0))), (.z (.ext [(.int .i64)] (.rd (.var 6) (.var 3000) 1) false)), (.z (.ext opK (.rd (.var 6) (.var 3000) 2) false))])), (1, (.cells 29 [(.z (.int .i64 (.var 7))), (.z (.int .i64 (.var 8))), (.z (.int .i64 (.var 9))), (.z (.int .i64 (.var 10))), (.z (.int .i64 (.var 11))), (.z (.int .i64 (.var 12))), (.z (.ext partK (.var 13) false))])), (0, (.cells 29 [(.z (.int .i64 (.var 0))), (.z (.int .i64 (.var 1))), (.z (.int .i64 (.var 2))), (.z (.int .i64 (.var 3))), (.z (.int .i64 (.var 4))), (.z (.int .i64 (.var 5))), (.z (.ext partK (.var 6) false))]))], 9, []⟩)]
def trNSame_j : List (FuncId × Nat × Nat × St) := [
]
set_option maxRecDepth 100000 in
theorem trNSame_is : T.norm 0 (call Tryz.prog ctQ1 ⟨Lt.un (Lt.of []), trNSame_h, trNSame_j⟩ 150 35 (symArgs 0 [notS, notS]) [] 0) TT.ret = trNSame := by kernel_rfl
theorem trNSame_low : trNSame.low 1000 = true := by kernel_rfl
-- term trCarries: call Tryz.prog ctQ1 (Lt.of []) 150 50 (symArgs 0 [letS]) [] 0
def trCarries : TT OpR :=
(.ite (.not (.var 3))
 (.ite (.cmp .geq (.var 0) (.lit 1))
 (.ite (.cmp .leq (.var 0) (.lit 20))
 (.ite (.cmp .geq (.var 1) (.lit 1))
 (.ite (.cmp .leq (.var 1) (.lit 20))
 (.ite (.cmp .neq (.var 0) (.var 1))
 (.ite (.cmp .geq (.var 2) (.lit 0))
 (.ite (.cmp .lss (.var 2) (.lit 1000))
 (.ret ((.v (.one (.z (.bool (.fn 170 (.i (.var 4) (.i (.var 5) (.i (.var 6) (.i (.var 7) (.i (.var 8) (.i (.var 9) (.x (.var 10) .nil)))))))))))), [], 1))
 (.ret ((.v (.one (.z (.bool (.lit false))))), [], 1)))
 (.ret ((.v (.one (.z (.bool (.lit false))))), [], 1)))
 (.ret ((.v (.one (.z (.bool (.lit false))))), [], 1)))
 (.ret ((.v (.one (.z (.bool (.lit false))))), [], 1)))
 (.ret ((.v (.one (.z (.bool (.lit false))))), [], 1)))
 (.ret ((.v (.one (.z (.bool (.lit false))))), [], 1)))
 (.ret ((.v (.one (.z (.bool (.lit false))))), [], 1)))
 (.ret ((.v (.one (.z (.bool (.lit false))))), [], 1)))
-- end trCarries
set_option maxRecDepth 100000 in
theorem trCarries_is : T.norm 0 (call Tryz.prog ctQ1 (Lt.of []) 150 50 (symArgs 0 [letS]) [] 0) TT.ret = trCarries := by kernel_rfl
theorem trCarries_low : trCarries.low 1000 = true := by kernel_rfl
end Go.Proofs.YtbbjlleaofgddaaGreat
/- Chapter 42: data by their kinds; rows that are equal. No program. -/
namespace Go.Proofs.YtbbjlleaofgddaaGreat
open Go.RowKit
/-! ### What data of a kind look like -/
mutual
def wfD : CK → D → Prop
  | .int _, d => ∃ n, d = .i n
  | .bool, d => ∃ b, d = .b b
  | .sl ks, d => ∃ r, d = .l r ∧ r.length ≤ 281474976710656 ∧ ∀ row ∈ r, wfDs ks row
def wfDs : List CK → List D → Prop
  | [], ds => ds = []
  | k :: ks, ds => ∃ d r, ds = d :: r ∧ wfD k d ∧ wfDs ks r
end
mutual
theorem rep_wfD {w : World} : ∀ (k : CK) (v : Value) (d : D), CK.rep w k v d → wfD k d
  | .int k, v, d, h => by
    unfold CK.rep at h
    obtain ⟨n, _, rfl⟩ := h
    simp [wfD]
  | .bool, v, d, h => by
    unfold CK.rep at h
    obtain ⟨n, _, rfl⟩ := h
    simp [wfD]
  | .sl ks, v, d, h => by
    unfold CK.rep at h
    obtain ⟨r, a, n, c, rfl, _, h1, _, h3, h4, h5⟩ := h
    unfold wfD
    refine ⟨r, rfl, by omega, fun row hrow => ?_⟩
    obtain ⟨i, hi, rfl⟩ := List.getElem_of_mem hrow
    cases a with
    | none => have := h4 (by omega); cases this
    | some b =>
      obtain ⟨vs, g1, _⟩ := h5 b rfl i r[i] (List.getElem?_eq_getElem hi)
      exact reps_wfDs ks vs _ g1
theorem reps_wfDs {w : World} : ∀ (ks : List CK) (vs : List Value) (ds : List D), CK.reps w ks vs ds → wfDs ks ds
  | [], vs, ds, h => by
    unfold CK.reps at h
    rw [h.2]; simp [wfDs]
  | k :: ks, vs, ds, h => by
    unfold CK.reps at h
    obtain ⟨v, vs', d, ds', rfl, rfl, h1, h2⟩ := h
    unfold wfDs
    exact ⟨d, ds', rfl, rep_wfD k v d h1, reps_wfDs ks vs' ds' h2⟩
end
def wfR (ks : List CK) (r : Rows) : Prop := r.length ≤ 281474976710656 ∧ ∀ row ∈ r, wfDs ks row
theorem wfD_sl {ks : List CK} {d : D} (h : wfD (.sl ks) d) : ∃ r, d = .l r ∧ wfR ks r := by
  unfold wfD at h; exact h
theorem wfD_int {k : IntKind} {d : D} (h : wfD (.int k) d) : ∃ n, d = .i n := by
  unfold wfD at h; exact h
theorem wfD_bool {d : D} (h : wfD .bool d) : ∃ n, d = .b n := by
  unfold wfD at h; exact h
theorem wfDs_cons {k : CK} {ks : List CK} {ds : List D} (h : wfDs (k :: ks) ds) : ∃ d r, ds = d :: r ∧ wfD k d ∧ wfDs ks r := by
  unfold wfDs at h; exact h
theorem wfDs_nil {ds : List D} (h : wfDs [] ds) : ds = [] := by
  unfold wfDs at h; exact h
/-! ### Cells of a row -/
def cI (row : List D) (j : Nat) : Int := (row[j]?.getD (.i 0)).int
def cB (row : List D) (j : Nat) : Bool := (row[j]?.getD (.i 0)).bool
def cR (row : List D) (j : Nat) : Rows := (row[j]?.getD (.i 0)).rows
theorem lg_cI {r : Rows} {i : Nat} (h : i < r.length) (j : Nat) : lg r i j = cI r[i] j := by
  unfold lg cellAt cI
  rw [Int.toNat_natCast, List.getElem?_eq_getElem h]; rfl
theorem lb_cB {r : Rows} {i : Nat} (h : i < r.length) (j : Nat) : lb r i j = cB r[i] j := by
  unfold lb cellAt cB
  rw [Int.toNat_natCast, List.getElem?_eq_getElem h]; rfl
theorem lr_cR {r : Rows} {i : Nat} (h : i < r.length) (j : Nat) : lr r i j = cR r[i] j := by
  unfold lr cellAt cR
  rw [Int.toNat_natCast, List.getElem?_eq_getElem h]; rfl
def wfI (c : Nat) (r : Rows) : Prop := ∀ row ∈ r, row.length = c ∧ ∀ d ∈ row, ∃ n, d = .i n
theorem wfDs_ints : ∀ {ks : List CK}, (∀ k ∈ ks, ∃ i, k = .int i) → ∀ {row : List D}, wfDs ks row → row.length = ks.length ∧ ∀ d ∈ row, ∃ n, d = .i n
  | [], _, row, h => by rw [wfDs_nil h]; exact ⟨rfl, fun d hd => by cases hd⟩
  | k :: ks, hk, row, h => by
    obtain ⟨d, r, rfl, h1, h2⟩ := wfDs_cons h
    obtain ⟨i, rfl⟩ := hk k (List.mem_cons_self ..)
    obtain ⟨g1, g2⟩ := wfDs_ints (fun k hk' => hk k (List.mem_cons_of_mem _ hk')) h2
    refine ⟨by simp [g1], fun e he => ?_⟩
    rcases List.mem_cons.1 he with q | q
    · subst q; exact wfD_int h1
    · exact g2 e q
theorem ints_eq {c : Nat} {r s : Rows} (hr : wfI c r) (hs : wfI c s) (hl : r.length = s.length) (he : ∀ k, k < r.length → ∀ j, j < c → lg r k j = lg s k j) : r = s := by
  refine List.ext_getElem hl (fun i h1 h2 => ?_)
  obtain ⟨l1, n1⟩ := hr _ (List.getElem_mem h1)
  obtain ⟨l2, n2⟩ := hs _ (List.getElem_mem h2)
  refine List.ext_getElem (by omega) (fun j g1 g2 => ?_)
  have g := he i h1 j (by omega)
  rw [lg_cI h1, lg_cI h2] at g
  unfold cI at g
  rw [List.getElem?_eq_getElem g1, List.getElem?_eq_getElem g2] at g
  simp only [Option.getD_some] at g
  obtain ⟨u, eu⟩ := n1 _ (List.getElem_mem g1)
  obtain ⟨v, ev⟩ := n2 _ (List.getElem_mem g2)
  rw [eu, ev] at g ⊢
  have g' : u = v := g
  rw [g']
theorem eqX_eq {c : Nat} {r s : Rows} (hr : wfI c r) (hs : wfI c s) : eqX c r s = true ↔ r = s := by
  rw [eqX_iff]
  constructor
  · rintro ⟨h1, h2⟩; exact ints_eq hr hs h1 h2
  · rintro rfl; exact ⟨rfl, fun _ _ _ _ => rfl⟩
/-! ### Operations -/
def opWf (row : List D) : Prop := row = [.i (cI row 0), .i (cI row 1), .i (cI row 2), .i (cI row 3), .i (cI row 4), .i (cI row 5), .i (cI row 6), .l (cR row 7), .i (cI row 8), .i (cI row 9), .l (cR row 10), .i (cI row 11), .i (cI row 12), .i (cI row 13), .i (cI row 14), .i (cI row 15)] ∧ wfI 2 (cR row 7) ∧ wfI 6 (cR row 10)
theorem wfR_ints {ks : List CK} (hk : ∀ k ∈ ks, ∃ i, k = .int i) {r : Rows} (h : wfR ks r) : wfI ks.length r := fun row hrow => wfDs_ints hk (h.2 row hrow)
theorem op_row {row : List D} (h : wfDs opK row) : opWf row := by
  obtain ⟨d0, r0, rfl, h0, h⟩ := wfDs_cons h
  obtain ⟨d1, r1, rfl, h1, h⟩ := wfDs_cons h
  obtain ⟨d2, r2, rfl, h2, h⟩ := wfDs_cons h
  obtain ⟨d3, r3, rfl, h3, h⟩ := wfDs_cons h
  obtain ⟨d4, r4, rfl, h4, h⟩ := wfDs_cons h
  obtain ⟨d5, r5, rfl, h5, h⟩ := wfDs_cons h
  obtain ⟨d6, r6, rfl, h6, h⟩ := wfDs_cons h
  obtain ⟨d7, r7, rfl, h7, h⟩ := wfDs_cons h
  obtain ⟨d8, r8, rfl, h8, h⟩ := wfDs_cons h
  obtain ⟨d9, r9, rfl, h9, h⟩ := wfDs_cons h
  obtain ⟨d10, r10, rfl, h10, h⟩ := wfDs_cons h
  obtain ⟨d11, r11, rfl, h11, h⟩ := wfDs_cons h
  obtain ⟨d12, r12, rfl, h12, h⟩ := wfDs_cons h
  obtain ⟨d13, r13, rfl, h13, h⟩ := wfDs_cons h
  obtain ⟨d14, r14, rfl, h14, h⟩ := wfDs_cons h
  obtain ⟨d15, r15, rfl, h15, h⟩ := wfDs_cons h
  obtain rfl := wfDs_nil h
  obtain ⟨n0, rfl⟩ := wfD_int h0
  obtain ⟨n1, rfl⟩ := wfD_int h1
  obtain ⟨n2, rfl⟩ := wfD_int h2
  obtain ⟨n3, rfl⟩ := wfD_int h3
  obtain ⟨n4, rfl⟩ := wfD_int h4
  obtain ⟨n5, rfl⟩ := wfD_int h5
  obtain ⟨n6, rfl⟩ := wfD_int h6
  obtain ⟨a7, rfl, w7⟩ := wfD_sl h7
  obtain ⟨n8, rfl⟩ := wfD_int h8
  obtain ⟨n9, rfl⟩ := wfD_int h9
  obtain ⟨a10, rfl, w10⟩ := wfD_sl h10
  obtain ⟨n11, rfl⟩ := wfD_int h11
  obtain ⟨n12, rfl⟩ := wfD_int h12
  obtain ⟨n13, rfl⟩ := wfD_int h13
  obtain ⟨n14, rfl⟩ := wfD_int h14
  obtain ⟨n15, rfl⟩ := wfD_int h15
  refine ⟨rfl, wfR_ints (ks := ptK) ?_ w7, wfR_ints (ks := secK) ?_ w10⟩
  all_goals
    intro k hk
    simp only [ptK, secK, List.mem_cons, List.not_mem_nil, or_false] at hk
    first
      | (rcases hk with rfl | rfl <;> exact ⟨_, rfl⟩)
      | (rcases hk with rfl | rfl | rfl | rfl | rfl | rfl <;> exact ⟨_, rfl⟩)
def opArgs (x : List D) : List D := [.i (cI x 0), .i (cI x 1), .i (cI x 2), .i (cI x 3), .i (cI x 4), .i (cI x 5), .i (cI x 6), .l (cR x 7), .i (cI x 8), .i (cI x 9), .l (cR x 10), .i (cI x 11), .i (cI x 12), .i (cI x 13), .i (cI x 14), .i (cI x 15)]
theorem opq_eq {x y : List D} (hx : opWf x) (hy : opWf y) : opqL (opArgs x ++ opArgs y) = true ↔ x = y := by
  have e : opqL (opArgs x ++ opArgs y) = (decide (cI x 0 = cI y 0 ∧ cI x 1 = cI y 1 ∧ (cI x 11 = cI y 11 ∧ cI x 12 = cI y 12) ∧ cI x 13 = cI y 13 ∧ cI x 14 = cI y 14 ∧ cI x 15 = cI y 15) &&
    sameB (cI x 2) (cI x 3) (cI x 4) (cI x 5) (cI x 6) (cR x 7) (cI x 8) (cI x 9) (cR x 10) (cI y 2) (cI y 3) (cI y 4) (cI y 5) (cI y 6) (cR y 7) (cI y 8) (cI y 9) (cR y 10)) := rfl
  rw [e]
  unfold sameB
  simp only [Bool.and_eq_true, decide_eq_true_eq, eqX_eq hx.2.1 hy.2.1, eqX_eq hx.2.2 hy.2.2]
  constructor
  · rintro ⟨⟨a0, a1, ⟨a11, a12⟩, a13, a14, a15⟩, ⟨⟨b2, b3, b4, b5⟩, b6, b8, b9⟩, b7, b10⟩
    rw [hx.1, hy.1, a0, a1, a11, a12, a13, a14, a15, b2, b3, b4, b5, b6, b7, b8, b9, b10]
  · rintro rfl; simp
/-! Equal data, as a truth value -/
mutual
def D.eqb : D → D → Bool
  | .i a, b => match b with | .i c => decide (a = c) | _ => false
  | .b a, b => match b with | .b c => a == c | _ => false
  | .l a, b => match b with | .l c => rowsEqb a c | _ => false
def rowsEqb : List (List D) → List (List D) → Bool
  | [], b => match b with | [] => true | _ => false
  | r :: a, b => match b with | r' :: b' => rowEqb r r' && rowsEqb a b' | _ => false
def rowEqb : List D → List D → Bool
  | [], b => match b with | [] => true | _ => false
  | d :: a, b => match b with | d' :: b' => D.eqb d d' && rowEqb a b' | _ => false
end
mutual
theorem D.eqb_eq : ∀ (a b : D), D.eqb a b = true → a = b
  | .i a, b, h => by cases b <;> simp [D.eqb] at h; rw [h]
  | .b a, b, h => by cases b <;> simp [D.eqb] at h; rw [h]
  | .l a, b, h => by cases b <;> simp [D.eqb] at h; rw [rowsEqb_eq _ _ h]
theorem rowsEqb_eq : ∀ (a b : List (List D)), rowsEqb a b = true → a = b
  | [], b, h => by cases b <;> simp [rowsEqb] at h; rfl
  | r :: a, b, h => by cases b <;> simp [rowsEqb] at h; rw [rowEqb_eq _ _ h.1, rowsEqb_eq _ _ h.2]
theorem rowEqb_eq : ∀ (a b : List D), rowEqb a b = true → a = b
  | [], b, h => by cases b <;> simp [rowEqb] at h; rfl
  | r :: a, b, h => by cases b <;> simp [rowEqb] at h; rw [D.eqb_eq _ _ h.1, rowEqb_eq _ _ h.2]
end
mutual
theorem D.eqb_self : ∀ (a : D), D.eqb a a = true
  | .i a => by simp [D.eqb]
  | .b a => by simp [D.eqb]
  | .l a => by simp [D.eqb, rowsEqb_self a]
theorem rowsEqb_self : ∀ (a : List (List D)), rowsEqb a a = true
  | [] => by simp [rowsEqb]
  | r :: a => by simp [rowsEqb, rowEqb_self r, rowsEqb_self a]
theorem rowEqb_self : ∀ (a : List D), rowEqb a a = true
  | [] => by simp [rowEqb]
  | r :: a => by simp [rowEqb, D.eqb_self r, rowEqb_self a]
end
/-! ### Parts of notices -/
def partWf (row : List D) : Prop := row = [.i (cI row 0), .l (cR row 1), .l (cR row 2)] ∧ wfR [.int .i64] (cR row 1) ∧ wfR opK (cR row 2)
theorem part_row {row : List D} (h : wfDs partK row) : partWf row := by
  obtain ⟨d0, r0, rfl, h0, h⟩ := wfDs_cons h
  obtain ⟨d1, r1, rfl, h1, h⟩ := wfDs_cons h
  obtain ⟨d2, r2, rfl, h2, h⟩ := wfDs_cons h
  obtain rfl := wfDs_nil h
  obtain ⟨n0, rfl⟩ := wfD_int h0
  obtain ⟨a1, rfl, w1⟩ := wfD_sl h1
  obtain ⟨a2, rfl, w2⟩ := wfD_sl h2
  exact ⟨rfl, w1, w2⟩
theorem ops_wf {r : Rows} (h : wfR opK r) : ∀ x ∈ r, opWf x := fun x hx => op_row (h.2 x hx)
theorem aft_wf {r : Rows} (h : wfR [.int .i64] r) : wfI 1 r := wfR_ints (fun k hk => by
  simp only [List.mem_cons, List.not_mem_nil, or_false] at hk
  exact ⟨_, hk⟩) h
theorem rep_args {w : World} : ∀ {sh : List Sh} {vals : List Value} {ds : List D}, repSh w sh vals ds → wfDs (sh.flatMap fun s => match s with | .one k => [k] | .agg ks => ks) ds
  | [], vals, ds, h => by
    rw [h.2]; simp [wfDs]
  | .one k :: sh, vals, ds, h => by
    obtain ⟨v, vs', d, ds', rfl, rfl, ⟨d0, rfl, h1⟩, h2⟩ := h
    rw [List.flatMap_cons]
    simp only [List.cons_append, List.nil_append]
    unfold wfDs
    exact ⟨d0, ds', rfl, rep_wfD k v d0 h1, rep_args h2⟩
  | .agg ks :: sh, vals, ds, h => by
    obtain ⟨v, vs', d, ds', rfl, rfl, ⟨us, rfl, h1⟩, h2⟩ := h
    rw [List.flatMap_cons]
    exact wfDs_app (reps_wfDs ks us d h1) (rep_args h2)
where
  wfDs_app : ∀ {ks ks' : List CK} {a b : List D}, wfDs ks a → wfDs ks' b → wfDs (ks ++ ks') (a ++ b)
  | [], ks', a, b, h, h' => by rw [wfDs_nil h]; exact h'
  | k :: ks, ks', a, b, h, h' => by
    obtain ⟨d, r, rfl, h1, h2⟩ := wfDs_cons h
    show wfDs (k :: (ks ++ ks')) (d :: (r ++ b))
    unfold wfDs
    exact ⟨d, r ++ b, rfl, h1, wfDs_app h2 h'⟩
theorem wfDs_at : ∀ {ks : List CK} {ds : List D} {j : Nat} {k : CK}, wfDs ks ds → ks[j]? = some k → ∃ d, ds[j]? = some d ∧ wfD k d
  | [], _, _, _, _, h => by simp at h
  | k0 :: ks, ds, j, k, h, hk => by
    obtain ⟨d, r, rfl, h1, h2⟩ := wfDs_cons h
    cases j with
    | zero =>
      simp only [List.getElem?_cons_zero, Option.some.injEq] at hk
      subst hk
      exact ⟨d, rfl, h1⟩
    | succ j =>
      rw [List.getElem?_cons_succ] at hk
      obtain ⟨e, g1, g2⟩ := wfDs_at h2 hk
      exact ⟨e, by rw [List.getElem?_cons_succ]; exact g1, g2⟩
theorem rAt_wf {ks : List CK} {ds : List D} {j : Nat} {l : List CK} (h : wfDs ks ds) (hk : ks[j]? = some (.sl l)) : wfR l (rAt ds j) := by
  obtain ⟨d, h1, h2⟩ := wfDs_at h hk
  obtain ⟨r, rfl, h3⟩ := wfD_sl h2
  unfold rAt
  rw [List.getD_eq_getElem?_getD, h1]
  exact h3
end Go.Proofs.YtbbjlleaofgddaaGreat
/- Chapter 42: notice.Same is equality; carries. -/
namespace Go.Proofs.YtbbjlleaofgddaaGreat
open Go.RowKit
def nsL (ds : List D) : Bool := decide (iAt ds 0 = iAt ds 7 ∧ iAt ds 1 = iAt ds 8 ∧ iAt ds 2 = iAt ds 9 ∧ iAt ds 3 = iAt ds 10 ∧ iAt ds 4 = iAt ds 11 ∧ iAt ds 5 = iAt ds 12) && rowsEqb (rAt ds 6) (rAt ds 13)
theorem Q1b180 (W : World) (ds l : List D) : (envOf Q1 W ds).fb 180 l = opqL l := by simp only [envOf, Q1]
theorem Q1b170 (W : World) (ds l : List D) : (envOf Q1 W ds).fb 170 l = noticeL l := by simp only [envOf, Q1, N4]
theorem opq_args (x y : List D) : opqL [.i (cI x 0), .i (cI x 1), .i (cI x 2), .i (cI x 3), .i (cI x 4), .i (cI x 5), .i (cI x 6), .l (cR x 7), .i (cI x 8), .i (cI x 9), .l (cR x 10), .i (cI x 11), .i (cI x 12), .i (cI x 13), .i (cI x 14), .i (cI x 15), .i (cI y 0), .i (cI y 1), .i (cI y 2), .i (cI y 3), .i (cI y 4), .i (cI y 5), .i (cI y 6), .l (cR y 7), .i (cI y 8), .i (cI y 9), .l (cR y 10), .i (cI y 11), .i (cI y 12), .i (cI y 13), .i (cI y 14), .i (cI y 15)] = opqL (opArgs x ++ opArgs y) := rfl
set_option maxHeartbeats 1000000 in
theorem gNSame : Gives Tryz.prog 35 [notS, notS] (fun ds => .bool (nsL ds)) := by
  refine GivesIf.all (fn_gives Q1 (by kernel_rfl) (fun ρ h => ctQ1_ok (Sees.of h 190)) (by kernel_rfl) trNSame_is trNSame_low (by decide) (fun W vals ds hr _ => ?_))
  have hw := rep_args hr
  have w6 : wfR partK (rAt ds 6) := rAt_wf hw rfl
  have w13 : wfR partK (rAt ds 13) := rAt_wf hw rfl
  simp only [trNSame, TT.sat_ret, TT.sat_ite, TT.sat_ob, TT.sat_next, TT.sat_stuck, put_i, put_b, put_d, put_fi, put_fb, put_fd, Ob.ok, B.ev, E.ev, X.ev, AL.ev, cmp_t, cmp_f, arEv, V.plain, V2.plain, S.plain, S0.plain, V.val, V2.val, S.val, S0.val, bV, iV, List.all_cons, List.all_nil, Bool.and_true, Bool.and_self, envOf_i, envOf_b, envOf_d, List.map_cons, List.map_nil, true_and, Bool.not_eq_true', Bool.not_eq_false', Bool.not_not, Bool.and_eq_true, and_f, cell_lg, cell_lb, cell_lr, cmpP, val_i, val_b, val_d, aget, Nat.reduceBEq, beq_self_eq_true, Bool.false_eq_true, if_true, if_false, Nat.reduceLT, Nat.reduceSub, Nat.sub_self, Nat.lt_irrefl]
  have F : ∀ b, nsL ds = b → Value.bool b = Value.bool (nsL ds) := fun b h => by rw [h]
  have N : ¬ (iAt ds 0 = iAt ds 7 ∧ iAt ds 1 = iAt ds 8 ∧ iAt ds 2 = iAt ds 9 ∧ iAt ds 3 = iAt ds 10 ∧ iAt ds 4 = iAt ds 11 ∧ iAt ds 5 = iAt ds 12) → Value.bool false = Value.bool (nsL ds) := fun h => F _ (by rw [nsL, decide_eq_false h, Bool.false_and])
  refine ⟨fun h => N (by omega), fun h0 => ⟨fun h => N (by omega), fun h1 => ⟨fun h => N (by omega), fun h2 => ⟨fun h => N (by omega), fun h3 => ⟨fun h => N (by omega), fun h4 => ⟨fun h => N (by omega), fun h5 => ?_⟩⟩⟩⟩⟩⟩
  have hS : nsL ds = rowsEqb (rAt ds 6) (rAt ds 13) := by rw [nsL, decide_eq_true (by omega), Bool.true_and]
  rw [hS]
  clear N F hS hr hw
  generalize e6 : rAt ds 6 = a at *
  generalize e13 : rAt ds 13 = b at *
  have NE : a ≠ b → Value.bool false = Value.bool (rowsEqb a b) := fun h => by
    cases q : rowsEqb a b with
    | false => rfl
    | true => exact absurd (rowsEqb_eq _ _ q) h
  have NEi : ∀ i (hi : i < a.length) (hj : i < b.length), a[i] ≠ b[i] → Value.bool false = Value.bool (rowsEqb a b) := fun i hi hj h => NE (fun e => h (by subst e; rfl))
  refine ⟨fun h => NE (fun e => by rw [e] at h; exact h rfl), fun hl => ?_⟩
  have hl : a.length = b.length := by omega
  have hb1 := w6.1
  refine TT.sat_loop (fun v => ∃ i : Nat, v.i 0 = i ∧ i ≤ a.length ∧ ∀ k (hk : k < a.length) (hk' : k < b.length), k < i → a[k] = b[k]) (fun v => a.length - (v.i 0).toNat)
    ⟨0, by simp [val_i, aget, E.ev], by omega, fun k hk hk' h => by omega⟩ (fun v hv => ?_)
  obtain ⟨i, i0, i1, i2⟩ := hv
  simp only [TT.sat_ret, TT.sat_ite, TT.sat_ob, TT.sat_next, TT.sat_stuck, put_i, put_b, put_d, put_fi, put_fb, put_fd, Ob.ok, B.ev, E.ev, X.ev, AL.ev, cmp_t, cmp_f, arEv, V.plain, V2.plain, S.plain, S0.plain, V.val, V2.val, S.val, S0.val, bV, iV, List.all_cons, List.all_nil, Bool.and_true, Bool.and_self, envOf_i, envOf_b, envOf_d, List.map_cons, List.map_nil, true_and, Bool.not_eq_true', Bool.not_eq_false', Bool.not_not, Bool.and_eq_true, and_f, cell_lg, cell_lb, cell_lr, cmpP, val_i, val_b, val_d, aget, Nat.reduceBEq, beq_self_eq_true, Bool.false_eq_true, if_true, if_false, Nat.reduceLT, Nat.reduceSub, Nat.sub_self, Nat.lt_irrefl, i0, e6, e13]
  refine ⟨fun hc => ?_, fun hc => ?_⟩
  · have hi : i < a.length := by omega
    have hi' : i < b.length := by omega
    obtain ⟨pa, pa1, pa2⟩ := part_row (w6.2 _ (List.getElem_mem hi))
    obtain ⟨pb, pb1, pb2⟩ := part_row (w13.2 _ (List.getElem_mem hi'))
    have hw1 : IntKind.i64.wrap ((i : Int) + 1) = ((i + 1 : Nat) : Int) := by rw [wrap_in _ (by omega) (by omega)]; rfl
    have hm : a.length - (((i + 1 : Nat) : Int)).toNat < a.length - (i : Int).toNat := by omega
    simp only [lg_cI hi, lg_cI hi', lr_cR hi, lr_cR hi']
    refine ⟨by omega, by omega, by omega, by omega, fun c0 => ?_, fun c0 => NEi i hi hi' (fun e => c0 (by rw [e]))⟩
    refine ⟨fun h => NEi i hi hi' (fun e => by rw [e] at h; exact h rfl), fun hA => ?_⟩
    have hA : (cR a[i] 1).length = (cR b[i] 1).length := by omega
    have hb2 := pa1.1
    refine TT.sat_loop (fun v => ∃ j : Nat, v.i 0 = j ∧ j ≤ (cR a[i] 1).length ∧ ∀ k : Nat, k < j → lg (cR a[i] 1) k 0 = lg (cR b[i] 1) k 0) (fun v => (cR a[i] 1).length - (v.i 0).toNat)
      ⟨0, by simp [val_i, aget, E.ev], by omega, fun k h => by omega⟩ (fun u hu => ?_)
    obtain ⟨j, j0, j1, j2⟩ := hu
    simp only [TT.sat_ret, TT.sat_ite, TT.sat_ob, TT.sat_next, TT.sat_stuck, put_i, put_b, put_d, put_fi, put_fb, put_fd, Ob.ok, B.ev, E.ev, X.ev, AL.ev, cmp_t, cmp_f, arEv, V.plain, V2.plain, S.plain, S0.plain, V.val, V2.val, S.val, S0.val, bV, iV, List.all_cons, List.all_nil, Bool.and_true, Bool.and_self, envOf_i, envOf_b, envOf_d, List.map_cons, List.map_nil, true_and, Bool.not_eq_true', Bool.not_eq_false', Bool.not_not, Bool.and_eq_true, and_f, cell_lg, cell_lb, cell_lr, cmpP, val_i, val_b, val_d, aget, Nat.reduceBEq, beq_self_eq_true, Bool.false_eq_true, if_true, if_false, Nat.reduceLT, Nat.reduceSub, Nat.sub_self, Nat.lt_irrefl, i0, j0, e6, e13, lr_cR hi, lr_cR hi']
    refine ⟨fun hcj => ?_, fun hcj => ?_⟩
    · rw [wrap_in ((j : Int) + 1) (by omega) (by omega)]
      refine ⟨by omega, by omega, by omega, by omega, fun h => NEi i hi hi' (fun e => by rw [e] at h; exact h rfl), fun h => ⟨⟨j + 1, rfl, by omega, fun k hk => ?_⟩, by omega⟩⟩
      by_cases e : k = j
      · subst e; omega
      · exact j2 k (by omega)
    · have eA : cR a[i] 1 = cR b[i] 1 := ints_eq (c := 1) (aft_wf pa1) (aft_wf pb1) hA (fun k hk c hc => by
        obtain rfl : c = 0 := by omega
        exact j2 k (by omega))
      refine ⟨fun h => NEi i hi hi' (fun e => by rw [e] at h; exact h rfl), fun hO => ?_⟩
      have hO : (cR a[i] 2).length = (cR b[i] 2).length := by omega
      have hb3 := pa2.1
      refine TT.sat_loop (fun v => ∃ m : Nat, v.i 0 = m ∧ m ≤ (cR a[i] 2).length ∧ ∀ k (hk : k < (cR a[i] 2).length) (hk' : k < (cR b[i] 2).length), k < m → (cR a[i] 2)[k] = (cR b[i] 2)[k]) (fun v => (cR a[i] 2).length - (v.i 0).toNat)
        ⟨0, by simp [val_i, aget, E.ev], by omega, fun k hk hk' h => by omega⟩ (fun z hz => ?_)
      obtain ⟨m, m0, m1, m2⟩ := hz
      simp only [TT.sat_ret, TT.sat_ite, TT.sat_ob, TT.sat_next, TT.sat_stuck, put_i, put_b, put_d, put_fi, put_fb, put_fd, Ob.ok, B.ev, E.ev, X.ev, AL.ev, cmp_t, cmp_f, arEv, V.plain, V2.plain, S.plain, S0.plain, V.val, V2.val, S.val, S0.val, bV, iV, List.all_cons, List.all_nil, Bool.and_true, Bool.and_self, envOf_i, envOf_b, envOf_d, List.map_cons, List.map_nil, true_and, Bool.not_eq_true', Bool.not_eq_false', Bool.not_not, Bool.and_eq_true, and_f, cell_lg, cell_lb, cell_lr, cmpP, val_i, val_b, val_d, aget, Nat.reduceBEq, beq_self_eq_true, Bool.false_eq_true, if_true, if_false, Nat.reduceLT, Nat.reduceSub, Nat.sub_self, Nat.lt_irrefl, i0, m0, e6, e13, lr_cR hi, lr_cR hi', Q1b180, hw1]
      refine ⟨fun hcm => ?_, fun hcm => ?_⟩
      · have hm1 : m < (cR a[i] 2).length := by omega
        have hm2 : m < (cR b[i] 2).length := by omega
        have ho := opq_eq (ops_wf pa2 _ (List.getElem_mem hm1)) (ops_wf pb2 _ (List.getElem_mem hm2))
        rw [wrap_in ((m : Int) + 1) (by omega) (by omega)]
        simp only [lg_cI hm1, lg_cI hm2, lr_cR hm1, lr_cR hm2, opq_args]
        refine ⟨by omega, by omega, by omega, by omega, fun h => NEi i hi hi' (fun e => ?_), fun h => ⟨⟨m + 1, rfl, by omega, fun k hk hk' hkm => ?_⟩, by omega⟩⟩
        · have : (cR a[i] 2)[m] = (cR b[i] 2)[m] := by
            have e2 : cR a[i] 2 = cR b[i] 2 := by rw [e]
            exact List.getElem_of_eq e2 _
          rw [ho.2 this] at h
          cases h
        · by_cases e : k = m
          · subst e; exact ho.1 h
          · exact m2 k hk hk' (by omega)
      · have eO : cR a[i] 2 = cR b[i] 2 := List.ext_getElem hO (fun k h1 h2 => m2 k h1 h2 (by omega))
        rw [if_neg (by decide)]
        refine ⟨⟨i + 1, rfl, by omega, fun k hk hk' hki => ?_⟩, hm⟩
        by_cases e : k = i
        · subst e
          rw [pa, pb, c0, eA, eO]
        · exact i2 k hk hk' (by omega)
  · have e : a = b := List.ext_getElem hl (fun k h1 h2 => i2 k h1 h2 (by omega))
    rw [e, rowsEqb_self]
/-! ### Letters -/
def wayP (f t : Int) : Prop := 1 ≤ f ∧ f ≤ 20 ∧ 1 ≤ t ∧ t ≤ 20 ∧ f ≠ t
instance (f t : Int) : Decidable (wayP f t) := by unfold wayP; infer_instance
def carB (f t q : Int) (k : Bool) (nt : List D) : Bool := (!k && decide (wayP f t ∧ 0 ≤ q ∧ q < 1000)) && noticeL nt
def ntA (ds : List D) (i : Nat) : List D := [.i (iAt ds i), .i (iAt ds (i + 1)), .i (iAt ds (i + 2)), .i (iAt ds (i + 3)), .i (iAt ds (i + 4)), .i (iAt ds (i + 5)), .l (rAt ds (i + 6))]
def carL (ds : List D) : Bool := carB (iAt ds 0) (iAt ds 1) (iAt ds 2) (bAt ds 3) (ntA ds 4)
theorem gCarries : Gives Tryz.prog 50 [letS] (fun ds => .bool (carL ds)) := by
  refine GivesIf.all (fn_gives Q1 (by kernel_rfl) (fun ρ h => ctQ1_ok (Sees.of h 190)) (by kernel_rfl) trCarries_is trCarries_low (by decide) (fun W vals ds hr _ => ?_))
  have e : carL ds = ((!bAt ds 3 && decide (wayP (iAt ds 0) (iAt ds 1) ∧ 0 ≤ iAt ds 2 ∧ iAt ds 2 < 1000)) && noticeL [.i (iAt ds 4), .i (iAt ds 5), .i (iAt ds 6), .i (iAt ds 7), .i (iAt ds 8), .i (iAt ds 9), .l (rAt ds 10)]) := rfl
  have N : ¬ (wayP (iAt ds 0) (iAt ds 1) ∧ 0 ≤ iAt ds 2 ∧ iAt ds 2 < 1000) → Value.bool false = Value.bool (carL ds) := fun h => by rw [e, decide_eq_false h, Bool.and_false, Bool.false_and]
  unfold wayP at N
  simp only [trCarries, TT.sat_ret, TT.sat_ite, TT.sat_ob, TT.sat_next, TT.sat_stuck, put_i, put_b, put_d, put_fi, put_fb, put_fd, Ob.ok, B.ev, E.ev, X.ev, AL.ev, cmp_t, cmp_f, arEv, V.plain, V2.plain, S.plain, S0.plain, V.val, V2.val, S.val, S0.val, bV, iV, List.all_cons, List.all_nil, Bool.and_true, Bool.and_self, envOf_i, envOf_b, envOf_d, List.map_cons, List.map_nil, true_and, Bool.not_eq_true', Bool.not_eq_false', Bool.not_not, Bool.and_eq_true, and_f, cell_lg, cell_lb, cell_lr, cmpP, val_i, val_b, val_d, aget, Nat.reduceBEq, beq_self_eq_true, Bool.false_eq_true, if_true, if_false, Nat.reduceLT, Nat.reduceSub, Nat.sub_self, Nat.lt_irrefl, Q1b170]
  refine ⟨fun h0 => ⟨fun h1 => ⟨fun h2 => ⟨fun h3 => ⟨fun h4 => ⟨fun h5 => ⟨fun h6 => ⟨fun h7 => ?_, fun h => N (by omega)⟩, fun h => N (by omega)⟩, fun h => N (by omega)⟩, fun h => N (by omega)⟩, fun h => N (by omega)⟩, fun h => N (by omega)⟩, fun h => N (by omega)⟩, fun h => ?_⟩
  · rw [e, h0, decide_eq_true (by unfold wayP; omega)]; rfl
  · rw [e, h]; rfl
def Q2 : Interp where
  fi n l := Q1.fi n l
  fb n l := match n with | 190 => nsL l | 191 => carL l | n => Q1.fb n l
  fd _ _ := []
theorem Q2_Q1 {ρ : Env} (h : Sees ρ Q2 200) : Sees ρ Q1 190 := h.trans (by decide) fun n l hn => by
  refine ⟨?_, ?_⟩
  ·
    rfl
  ·
    simp only [Q2]
    split <;> first | omega | rfl
def cNSame := ctD [notS, notS] fun al => .ret (bV (bF 190 nsL al))
theorem cNSame_ok {ρ : Env} (h : Sees ρ Q2 200) : CtOne Tryz.prog ρ 35 cNSame :=
  ctD_ok gNSame (fun _ => rfl) (fun al => by simp only [iV, bV, V.s0, V.val, V2.val, S.val, S0.val, bF_ev (s := 190) (f := nsL) (fun l => by rw [(h 190 l (by decide)).2]; simp only [Q2])]; try rfl)
def cCarries := ctD [letS] fun al => .ret (bV (bF 191 carL al))
theorem cCarries_ok {ρ : Env} (h : Sees ρ Q2 200) : CtOne Tryz.prog ρ 50 cCarries :=
  ctD_ok gCarries (fun _ => rfl) (fun al => by simp only [iV, bV, V.s0, V.val, V2.val, S.val, S0.val, bF_ev (s := 191) (f := carL) (fun l => by rw [(h 191 l (by decide)).2]; simp only [Q2])]; try rfl)
def ctQ2 : Ct := (35, cNSame) :: (50, cCarries) :: ctQ1
theorem ctQ2_ok {ρ : Env} (h : Sees ρ Q2 200) : CtOk Tryz.prog ρ ctQ2 := .cons (cNSame_ok h) <| .cons (cCarries_ok h) <| ctQ1_ok (Q2_Q1 h)
end Go.Proofs.YtbbjlleaofgddaaGreat
/- Chapter 42: trees of acknowledges, ours, areNotices, search. -/
namespace Go.Proofs.YtbbjlleaofgddaaGreat
open Go.RowKit
-- term trAcks: call Tryz.prog ctQ2 (Lt.of []) 150 47 (symArgs 0 [letS]) [] 0
def trAcks : TT OpR :=
(.ite (.var 3)
 (.ite (.cmp .geq (.var 0) (.lit 1))
 (.ite (.cmp .leq (.var 0) (.lit 20))
 (.ite (.cmp .geq (.var 1) (.lit 1))
 (.ite (.cmp .leq (.var 1) (.lit 20))
 (.ite (.cmp .neq (.var 0) (.var 1))
 (.ite (.cmp .geq (.var 2) (.lit 0))
 (.ite (.cmp .leq (.var 2) (.lit 1000))
 (.ret ((.v (.one (.z (.bool (.fn 190 (.i (.var 4) (.i (.var 5) (.i (.var 6) (.i (.var 7) (.i (.var 8) (.i (.var 9) (.x (.var 10) (.i (.lit 0) (.i (.lit 0) (.i (.lit 0) (.i (.lit 0) (.i (.lit 0) (.i (.lit 0) (.x .nil .nil))))))))))))))))))), [], 1))
 (.ret ((.v (.one (.z (.bool (.lit false))))), [], 1)))
 (.ret ((.v (.one (.z (.bool (.lit false))))), [], 1)))
 (.ret ((.v (.one (.z (.bool (.lit false))))), [], 1)))
 (.ret ((.v (.one (.z (.bool (.lit false))))), [], 1)))
 (.ret ((.v (.one (.z (.bool (.lit false))))), [], 1)))
 (.ret ((.v (.one (.z (.bool (.lit false))))), [], 1)))
 (.ret ((.v (.one (.z (.bool (.lit false))))), [], 1)))
 (.ret ((.v (.one (.z (.bool (.lit false))))), [], 1)))
-- end trAcks
set_option maxRecDepth 100000 in
theorem trAcks_is : T.norm 0 (call Tryz.prog ctQ2 (Lt.of []) 150 47 (symArgs 0 [letS]) [] 0) TT.ret = trAcks := by kernel_rfl
theorem trAcks_low : trAcks.low 1000 = true := by kernel_rfl
-- term trOurs: call Tryz.prog ctQ2 (Lt.of []) 150 41 (symArgs 0 [lets, it, it]) [] 0
def trOurs : TT OpR :=
(.loop 0 3000 ⟨[(0, (.lit 0))], [], []⟩
 (.ite (.cmp .lss (.var 3000) (.len (.var 0)))
 (.ob (.tru (.cmp .leq (.lit 0) (.var 3000)))
 (.ob (.tru (.cmp .lss (.var 3000) (.len (.var 0))))
 (.ite (.not (.fn 191 (.i (.rd (.var 0) (.var 3000) 0) (.i (.rd (.var 0) (.var 3000) 1) (.i (.rd (.var 0) (.var 3000) 2) (.b (.rd (.var 0) (.var 3000) 3) (.i (.rd (.var 0) (.var 3000) 4) (.i (.rd (.var 0) (.var 3000) 5) (.i (.rd (.var 0) (.var 3000) 6) (.i (.rd (.var 0) (.var 3000) 7) (.i (.rd (.var 0) (.var 3000) 8) (.i (.rd (.var 0) (.var 3000) 9) (.x (.rd (.var 0) (.var 3000) 10) .nil)))))))))))))
 (.ret ((.v (.one (.z (.bool (.not (.cmp .geq (.var 3000) (.lit 0))))))), [], 4))
 (.ite (.cmp .neq (.rd (.var 0) (.var 3000) 0) (.var 1))
 (.ret ((.v (.one (.z (.bool (.not (.cmp .geq (.var 3000) (.lit 0))))))), [], 4))
 (.ite (.cmp .neq (.rd (.var 0) (.var 3000) 1) (.var 2))
 (.ret ((.v (.one (.z (.bool (.not (.cmp .geq (.var 3000) (.lit 0))))))), [], 4))
 (.next 0 ⟨[(0, (.ar .add .i64 (.var 3000) (.lit 1)))], [], []⟩))))))
 (.ret ((.v (.one (.z (.bool (.lit true))))), [], 4))))
-- end trOurs
set_option maxRecDepth 100000 in
theorem trOurs_is : T.norm 0 (call Tryz.prog ctQ2 (Lt.of []) 150 41 (symArgs 0 [lets, it, it]) [] 0) TT.ret = trOurs := by kernel_rfl
theorem trOurs_low : trOurs.low 1000 = true := by kernel_rfl
-- term trAreN: call Tryz.prog ctQ2 (Lt.of []) 150 58 (symArgs 0 [nots]) [] 0
def trAreN : TT OpR :=
(.ite (.cmp .leq (.len (.var 0)) (.lit 200))
 (.loop 0 1000 ⟨[(0, (.lit 0))], [], []⟩
 (.ite (.cmp .lss (.var 1000) (.len (.var 0)))
 (.ob (.tru (.cmp .leq (.lit 0) (.var 1000)))
 (.ob (.tru (.cmp .lss (.var 1000) (.len (.var 0))))
 (.ite (.not (.fn 170 (.i (.rd (.var 0) (.var 1000) 0) (.i (.rd (.var 0) (.var 1000) 1) (.i (.rd (.var 0) (.var 1000) 2) (.i (.rd (.var 0) (.var 1000) 3) (.i (.rd (.var 0) (.var 1000) 4) (.i (.rd (.var 0) (.var 1000) 5) (.x (.rd (.var 0) (.var 1000) 6) .nil)))))))))
 (.ret ((.v (.one (.z (.bool (.not (.cmp .geq (.var 1000) (.lit 0))))))), [], 2))
 (.next 0 ⟨[(0, (.ar .add .i64 (.var 1000) (.lit 1)))], [], []⟩))))
 (.ret ((.v (.one (.z (.bool (.lit true))))), [], 2))))
 (.ret ((.v (.one (.z (.bool (.lit false))))), [], 0)))
-- end trAreN
set_option maxRecDepth 100000 in
theorem trAreN_is : T.norm 0 (call Tryz.prog ctQ2 (Lt.of []) 150 58 (symArgs 0 [nots]) [] 0) TT.ret = trAreN := by kernel_rfl
theorem trAreN_low : trAreN.low 1000 = true := by kernel_rfl
-- term trSearch: call Tryz.prog ctQ2 (Lt.of []) 150 51 (symArgs 0 [lets, it]) [] 0
def trSearch : TT OpR :=
(.loop 0 1000 ⟨[(0, (.lit 0)), (1, (.len (.var 0)))], [], []⟩
 (.ite (.cmp .lss (.var 1000) (.var 1001))
 (.ob (.tru (.cmp .leq (.lit 0) (.wr .i64 (.ar .shr .u64 (.wr .u64 (.ar .add .i64 (.var 1000) (.var 1001))) (.lit 1)))))
 (.ob (.tru (.cmp .lss (.wr .i64 (.ar .shr .u64 (.wr .u64 (.ar .add .i64 (.var 1000) (.var 1001))) (.lit 1))) (.len (.var 0))))
 (.ite (.cmp .lss (.rd (.var 0) (.wr .i64 (.ar .shr .u64 (.wr .u64 (.ar .add .i64 (.var 1000) (.var 1001))) (.lit 1))) 2) (.var 1))
 (.next 0 ⟨[(0, (.ar .add .i64 (.wr .i64 (.ar .shr .u64 (.wr .u64 (.ar .add .i64 (.var 1000) (.var 1001))) (.lit 1))) (.lit 1))), (1, (.var 1001))], [], []⟩)
 (.ite (.cmp .gtr (.rd (.var 0) (.wr .i64 (.ar .shr .u64 (.wr .u64 (.ar .add .i64 (.var 1000) (.var 1001))) (.lit 1))) 2) (.var 1))
 (.next 0 ⟨[(0, (.var 1000)), (1, (.wr .i64 (.ar .shr .u64 (.wr .u64 (.ar .add .i64 (.var 1000) (.var 1001))) (.lit 1))))], [], []⟩)
 (.next 0 ⟨[(0, (.var 1000)), (1, (.wr .i64 (.ar .shr .u64 (.wr .u64 (.ar .add .i64 (.var 1000) (.var 1001))) (.lit 1))))], [], []⟩)))))
 (.ite (.cmp .lss (.var 1000) (.len (.var 0)))
 (.ob (.tru (.cmp .leq (.lit 0) (.var 1000)))
 (.ob (.tru (.cmp .lss (.var 1000) (.len (.var 0))))
 (.ite (.cmp .lss (.rd (.var 0) (.var 1000) 2) (.var 1))
 (.ret ((.tup [(.one (.z (.int .i64 (.var 1000)))), (.one (.z (.bool (.lit false))))]), [], 3))
 (.ite (.cmp .gtr (.rd (.var 0) (.var 1000) 2) (.var 1))
 (.ret ((.tup [(.one (.z (.int .i64 (.var 1000)))), (.one (.z (.bool (.lit false))))]), [], 3))
 (.ret ((.tup [(.one (.z (.int .i64 (.var 1000)))), (.one (.z (.bool (.lit true))))]), [], 3))))))
 (.ret ((.tup [(.one (.z (.int .i64 (.var 1000)))), (.one (.z (.bool (.lit false))))]), [], 2)))))
-- end trSearch
set_option maxRecDepth 100000 in
theorem trSearch_is : T.norm 0 (call Tryz.prog ctQ2 (Lt.of []) 150 51 (symArgs 0 [lets, it]) [] 0) TT.ret = trSearch := by kernel_rfl
theorem trSearch_low : trSearch.low 1000 = true := by kernel_rfl
end Go.Proofs.YtbbjlleaofgddaaGreat
/- Chapter 42: what letters are: acknowledges, ours, areNotices, search. -/
namespace Go.Proofs.YtbbjlleaofgddaaGreat
open Go.RowKit
def ntR (row : List D) : List D := [.i (cI row 4), .i (cI row 5), .i (cI row 6), .i (cI row 7), .i (cI row 8), .i (cI row 9), .l (cR row 10)]
def carR (row : List D) : Bool := carB (cI row 0) (cI row 1) (cI row 2) (cB row 3) (ntR row)
def oursB (r : Rows) (f t : Int) : Bool := r.all fun x => carR x && decide (cI x 0 = f ∧ cI x 1 = t)
def oursL (ds : List D) : Bool := oursB (rAt ds 0) (iAt ds 1) (iAt ds 2)
def zeroN : List D := [.i 0, .i 0, .i 0, .i 0, .i 0, .i 0, .l []]
def ackB (f t q : Int) (k : Bool) (nt : List D) : Bool := (k && decide (wayP f t ∧ 0 ≤ q ∧ q ≤ 1000)) && nsL (nt ++ zeroN)
def ackL (ds : List D) : Bool := ackB (iAt ds 0) (iAt ds 1) (iAt ds 2) (bAt ds 3) (ntA ds 4)
def ntR0 (row : List D) : List D := [.i (cI row 0), .i (cI row 1), .i (cI row 2), .i (cI row 3), .i (cI row 4), .i (cI row 5), .l (cR row 6)]
def areNB (r : Rows) : Bool := decide (r.length ≤ 200) && r.all fun x => noticeL (ntR0 x)
def areNL (ds : List D) : Bool := areNB (rAt ds 0)
theorem Q2b170 (W : World) (ds l : List D) : (envOf Q2 W ds).fb 170 l = noticeL l := by simp only [envOf, Q2, Q1, N4]
theorem Q2b190 (W : World) (ds l : List D) : (envOf Q2 W ds).fb 190 l = nsL l := by simp only [envOf, Q2]
theorem Q2b191 (W : World) (ds l : List D) : (envOf Q2 W ds).fb 191 l = carL l := by simp only [envOf, Q2]
theorem gAcks : Gives Tryz.prog 47 [letS] (fun ds => .bool (ackL ds)) := by
  refine GivesIf.all (fn_gives Q2 (by kernel_rfl) (fun ρ h => ctQ2_ok (Sees.of h 200)) (by kernel_rfl) trAcks_is trAcks_low (by decide) (fun W vals ds hr _ => ?_))
  have e : ackL ds = ((bAt ds 3 && decide (wayP (iAt ds 0) (iAt ds 1) ∧ 0 ≤ iAt ds 2 ∧ iAt ds 2 ≤ 1000)) && nsL [.i (iAt ds 4), .i (iAt ds 5), .i (iAt ds 6), .i (iAt ds 7), .i (iAt ds 8), .i (iAt ds 9), .l (rAt ds 10), .i 0, .i 0, .i 0, .i 0, .i 0, .i 0, .l []]) := rfl
  have N : ¬ (wayP (iAt ds 0) (iAt ds 1) ∧ 0 ≤ iAt ds 2 ∧ iAt ds 2 ≤ 1000) → Value.bool false = Value.bool (ackL ds) := fun h => by rw [e, decide_eq_false h, Bool.and_false, Bool.false_and]
  unfold wayP at N
  simp only [trAcks, TT.sat_ret, TT.sat_ite, TT.sat_ob, TT.sat_next, TT.sat_stuck, put_i, put_b, put_d, put_fi, put_fb, put_fd, Ob.ok, B.ev, E.ev, X.ev, AL.ev, cmp_t, cmp_f, arEv, V.plain, V2.plain, S.plain, S0.plain, V.val, V2.val, S.val, S0.val, bV, iV, List.all_cons, List.all_nil, Bool.and_true, Bool.and_self, envOf_i, envOf_b, envOf_d, List.map_cons, List.map_nil, true_and, Bool.not_eq_true', Bool.not_eq_false', Bool.not_not, Bool.and_eq_true, and_f, cell_lg, cell_lb, cell_lr, cmpP, val_i, val_b, val_d, aget, Nat.reduceBEq, beq_self_eq_true, Bool.false_eq_true, if_true, if_false, Nat.reduceLT, Nat.reduceSub, Nat.sub_self, Nat.lt_irrefl, Q2b190]
  refine ⟨fun h0 => ⟨fun h1 => ⟨fun h2 => ⟨fun h3 => ⟨fun h4 => ⟨fun h5 => ⟨fun h6 => ⟨fun h7 => ?_, fun h => N (by omega)⟩, fun h => N (by omega)⟩, fun h => N (by omega)⟩, fun h => N (by omega)⟩, fun h => N (by omega)⟩, fun h => N (by omega)⟩, fun h => N (by omega)⟩, fun h => ?_⟩
  · rw [e, h0, decide_eq_true (by unfold wayP; omega)]; rfl
  · rw [e, h]; rfl
theorem gOurs : Gives Tryz.prog 41 [lets, it, it] (fun ds => .bool (oursL ds)) := by
  refine GivesIf.all (fn_gives Q2 (by kernel_rfl) (fun ρ h => ctQ2_ok (Sees.of h 200)) (by kernel_rfl) trOurs_is trOurs_low (by decide) (fun W vals ds hr _ => ?_))
  have hlen := (rAt_wf (rep_args hr) (j := 0) rfl).1
  have e : oursL ds = oursB (rAt ds 0) (iAt ds 1) (iAt ds 2) := rfl
  simp only [trOurs, TT.sat_ret, TT.sat_ite, TT.sat_ob, TT.sat_next, TT.sat_stuck, put_i, put_b, put_d, put_fi, put_fb, put_fd, Ob.ok, B.ev, E.ev, X.ev, AL.ev, cmp_t, cmp_f, arEv, V.plain, V2.plain, S.plain, S0.plain, V.val, V2.val, S.val, S0.val, bV, iV, List.all_cons, List.all_nil, Bool.and_true, Bool.and_self, envOf_i, envOf_b, envOf_d, List.map_cons, List.map_nil, true_and, Bool.not_eq_true', Bool.not_eq_false', Bool.not_not, Bool.and_eq_true, and_f, cell_lg, cell_lb, cell_lr, cmpP, val_i, val_b, val_d, aget, Nat.reduceBEq, beq_self_eq_true, Bool.false_eq_true, if_true, if_false, Nat.reduceLT, Nat.reduceSub, Nat.sub_self, Nat.lt_irrefl]
  rw [e]
  clear hr e
  generalize e0 : rAt ds 0 = r at *
  generalize e1 : iAt ds 1 = f at *
  generalize e2 : iAt ds 2 = t at *
  refine TT.sat_loop (fun v => ∃ i : Nat, v.i 0 = i ∧ i ≤ r.length ∧ ∀ k (hk : k < r.length), k < i → carR r[k] = true ∧ cI r[k] 0 = f ∧ cI r[k] 1 = t) (fun v => r.length - (v.i 0).toNat)
    ⟨0, by simp [val_i, aget, E.ev], by omega, fun k hk h => by omega⟩ (fun v hv => ?_)
  obtain ⟨i, i0, i1, i2⟩ := hv
  simp only [TT.sat_ret, TT.sat_ite, TT.sat_ob, TT.sat_next, TT.sat_stuck, put_i, put_b, put_d, put_fi, put_fb, put_fd, Ob.ok, B.ev, E.ev, X.ev, AL.ev, cmp_t, cmp_f, arEv, V.plain, V2.plain, S.plain, S0.plain, V.val, V2.val, S.val, S0.val, bV, iV, List.all_cons, List.all_nil, Bool.and_true, Bool.and_self, envOf_i, envOf_b, envOf_d, List.map_cons, List.map_nil, true_and, Bool.not_eq_true', Bool.not_eq_false', Bool.not_not, Bool.and_eq_true, and_f, cell_lg, cell_lb, cell_lr, cmpP, val_i, val_b, val_d, aget, Nat.reduceBEq, beq_self_eq_true, Bool.false_eq_true, if_true, if_false, Nat.reduceLT, Nat.reduceSub, Nat.sub_self, Nat.lt_irrefl, i0, e0, e1, e2, Q2b191]
  refine ⟨fun hc => ?_, fun hc => ?_⟩
  · have hi : i < r.length := by omega
    have NO : (¬ (carR r[i] = true ∧ cI r[i] 0 = f ∧ cI r[i] 1 = t)) → oursB r f t = false := fun h => by
      unfold oursB
      rw [List.all_eq_false]
      refine ⟨_, List.getElem_mem hi, fun q => h ?_⟩
      simp only [Bool.and_eq_true, decide_eq_true_eq] at q
      exact ⟨q.1, q.2.1, q.2.2⟩
    have hca : carL [.i (cI r[i] 0), .i (cI r[i] 1), .i (cI r[i] 2), .b (cB r[i] 3), .i (cI r[i] 4), .i (cI r[i] 5), .i (cI r[i] 6), .i (cI r[i] 7), .i (cI r[i] 8), .i (cI r[i] 9), .l (cR r[i] 10)] = carR r[i] := rfl
    have cell_lb' : ∀ c, (cellAt r (i : Int) c).bool = cB r[i] c := fun c => lb_cB hi c
    rw [wrap_in ((i : Int) + 1) (by omega) (by omega)]
    simp only [lg_cI hi, lr_cR hi, lb_cB hi, hca]
    refine ⟨by omega, by omega, fun h => ?_, fun h => ⟨fun h1 => ?_, fun h1 => ⟨fun h2 => ?_, fun h2 => ⟨⟨i + 1, rfl, by omega, fun k hk hki => ?_⟩, by omega⟩⟩⟩⟩
    · rw [NO (fun q => by rw [h] at q; exact absurd q.1 (by decide))]; simp [cmpEv]
    · rw [NO (fun q => h1 q.2.1)]; simp [cmpEv]
    · rw [NO (fun q => h2 q.2.2)]; simp [cmpEv]
    · by_cases e : k = i
      · subst e; exact ⟨h, by omega, by omega⟩
      · exact i2 k hk (by omega)
  · have : oursB r f t = true := by
      unfold oursB
      rw [List.all_eq_true]
      intro x hx
      obtain ⟨k, hk, rfl⟩ := List.getElem_of_mem hx
      obtain ⟨a, b, c⟩ := i2 k hk (by omega)
      rw [a, decide_eq_true ⟨b, c⟩]; rfl
    rw [this]
theorem gAreN : Gives Tryz.prog 58 [nots] (fun ds => .bool (areNL ds)) := by
  refine GivesIf.all (fn_gives Q2 (by kernel_rfl) (fun ρ h => ctQ2_ok (Sees.of h 200)) (by kernel_rfl) trAreN_is trAreN_low (by decide) (fun W vals ds hr _ => ?_))
  have hlen := (rAt_wf (rep_args hr) (j := 0) rfl).1
  have e : areNL ds = areNB (rAt ds 0) := rfl
  simp only [trAreN, TT.sat_ret, TT.sat_ite, TT.sat_ob, TT.sat_next, TT.sat_stuck, put_i, put_b, put_d, put_fi, put_fb, put_fd, Ob.ok, B.ev, E.ev, X.ev, AL.ev, cmp_t, cmp_f, arEv, V.plain, V2.plain, S.plain, S0.plain, V.val, V2.val, S.val, S0.val, bV, iV, List.all_cons, List.all_nil, Bool.and_true, Bool.and_self, envOf_i, envOf_b, envOf_d, List.map_cons, List.map_nil, true_and, Bool.not_eq_true', Bool.not_eq_false', Bool.not_not, Bool.and_eq_true, and_f, cell_lg, cell_lb, cell_lr, cmpP, val_i, val_b, val_d, aget, Nat.reduceBEq, beq_self_eq_true, Bool.false_eq_true, if_true, if_false, Nat.reduceLT, Nat.reduceSub, Nat.sub_self, Nat.lt_irrefl]
  rw [e]
  clear hr e
  generalize e0 : rAt ds 0 = r at *
  refine ⟨fun h2 => ?_, fun h2 => ?_⟩
  · refine TT.sat_loop (fun v => ∃ i : Nat, v.i 0 = i ∧ i ≤ r.length ∧ ∀ k (hk : k < r.length), k < i → noticeL (ntR0 r[k]) = true) (fun v => r.length - (v.i 0).toNat)
      ⟨0, by simp [val_i, aget, E.ev], by omega, fun k hk h => by omega⟩ (fun v hv => ?_)
    obtain ⟨i, i0, i1, i2⟩ := hv
    simp only [TT.sat_ret, TT.sat_ite, TT.sat_ob, TT.sat_next, TT.sat_stuck, put_i, put_b, put_d, put_fi, put_fb, put_fd, Ob.ok, B.ev, E.ev, X.ev, AL.ev, cmp_t, cmp_f, arEv, V.plain, V2.plain, S.plain, S0.plain, V.val, V2.val, S.val, S0.val, bV, iV, List.all_cons, List.all_nil, Bool.and_true, Bool.and_self, envOf_i, envOf_b, envOf_d, List.map_cons, List.map_nil, true_and, Bool.not_eq_true', Bool.not_eq_false', Bool.not_not, Bool.and_eq_true, and_f, cell_lg, cell_lb, cell_lr, cmpP, val_i, val_b, val_d, aget, Nat.reduceBEq, beq_self_eq_true, Bool.false_eq_true, if_true, if_false, Nat.reduceLT, Nat.reduceSub, Nat.sub_self, Nat.lt_irrefl, i0, e0, Q2b170]
    refine ⟨fun hc => ?_, fun hc => ?_⟩
    · have hi : i < r.length := by omega
      have hca : noticeL [.i (cI r[i] 0), .i (cI r[i] 1), .i (cI r[i] 2), .i (cI r[i] 3), .i (cI r[i] 4), .i (cI r[i] 5), .l (cR r[i] 6)] = noticeL (ntR0 r[i]) := rfl
      rw [wrap_in ((i : Int) + 1) (by omega) (by omega)]
      simp only [lg_cI hi, lr_cR hi, hca]
      refine ⟨by omega, by omega, fun h => ?_, fun h => ⟨⟨i + 1, rfl, by omega, fun k hk hki => ?_⟩, by omega⟩⟩
      · have : areNB r = false := by
          unfold areNB
          rw [Bool.and_eq_false_iff]
          right
          rw [List.all_eq_false]
          exact ⟨_, List.getElem_mem hi, by rw [h]; decide⟩
        rw [this]; simp [cmpEv]
      · by_cases e : k = i
        · subst e; exact h
        · exact i2 k hk (by omega)
    · have : areNB r = true := by
        unfold areNB
        rw [decide_eq_true (by omega), Bool.true_and, List.all_eq_true]
        intro x hx
        obtain ⟨k, hk, rfl⟩ := List.getElem_of_mem hx
        exact i2 k hk (by omega)
      rw [this]
  · have : areNB r = false := by
      unfold areNB
      rw [decide_eq_false (by omega), Bool.false_and]
    rw [this]
/-! ### The search among letters -/
def risM (r : Rows) : Nat → Nat → Bool
  | 0, _ => true
  | f + 1, i => decide (lg r i 2 < lg r (i + 1 : Nat) 2) && risM r f (i + 1)
def risS (r : Rows) : Bool := risM r (r.length - 1) 0
def lowM (r : Rows) (n : Int) : Nat → Nat → Nat
  | 0, i => i
  | f + 1, i => if lg r i 2 < n then lowM r n f (i + 1) else i
def lowS (r : Rows) (n : Int) : Nat := lowM r n r.length 0
def isS (r : Rows) (n : Int) : Bool := decide (lowS r n < r.length ∧ lg r (lowS r n) 2 = n)
def lowSL (ds : List D) : Int := lowS (rAt ds 0) (iAt ds 1)
def isSL (ds : List D) : Bool := isS (rAt ds 0) (iAt ds 1)
def risSL (ds : List D) : Bool := risS (rAt ds 0)
theorem risM_iff {r : Rows} : ∀ (f i : Nat), risM r f i = true ↔ ∀ k, i ≤ k → k < i + f → lg r k 2 < lg r (k + 1 : Nat) 2
  | 0, i => ⟨fun _ k h1 h2 => by omega, fun _ => rfl⟩
  | f + 1, i => by
    rw [risM, Bool.and_eq_true, decide_eq_true_eq, risM_iff f (i + 1)]
    constructor
    · rintro ⟨h1, h2⟩ k hk hk'
      by_cases e : k = i
      · subst e; exact h1
      · exact h2 k (by omega) (by omega)
    · exact fun h => ⟨h i (by omega) (by omega), fun k h1 h2 => h k (by omega) (by omega)⟩
theorem ris_lt2 {r : Rows} (h : risS r = true) : ∀ {i j : Nat}, i < j → j < r.length → lg r i 2 < lg r j 2 := by
  have h1 := (risM_iff _ _).mp h
  have key : ∀ (d i : Nat), i + d + 1 < r.length → lg r i 2 < lg r (i + d + 1 : Nat) 2 := by
    intro d
    induction d with
    | zero => intro i hi; exact h1 i (by omega) (by omega)
    | succ d ih =>
      intro i hi
      have a := ih i (by omega)
      have b := h1 (i + d + 1) (by omega) (by omega)
      rw [show i + (d + 1) + 1 = i + d + 1 + 1 by omega]
      omega
  intro i j hij hj
  have := key (j - i - 1) i (by omega)
  rw [show i + (j - i - 1) + 1 = j by omega] at this
  exact this
theorem ris_of2 {r : Rows} (h : ∀ i : Nat, i + 1 < r.length → lg r i 2 < lg r (i + 1 : Nat) 2) : risS r = true := (risM_iff _ _).mpr (fun k _ hk => h k (by omega))
theorem lowM_spec {r : Rows} {n : Int} : ∀ (f i : Nat), i ≤ lowM r n f i ∧ lowM r n f i ≤ i + f ∧ (∀ k : Nat, i ≤ k → k < lowM r n f i → lg r k 2 < n) ∧ (lowM r n f i < i + f → ¬ lg r (lowM r n f i) 2 < n)
  | 0, i => ⟨Nat.le_refl _, Nat.le_refl _, fun k h1 h2 => by rw [lowM] at h2; omega, fun h => by rw [lowM] at h; omega⟩
  | f + 1, i => by
    obtain ⟨a, b, c, d⟩ := lowM_spec (r := r) (n := n) f (i + 1)
    rw [lowM]
    split
    · rename_i h
      refine ⟨by omega, by omega, fun k h1 h2 => ?_, fun h => d (by omega)⟩
      by_cases e : k = i
      · subst e; assumption
      · exact c k (by omega) h2
    · rename_i h
      exact ⟨Nat.le_refl _, by omega, fun k h1 h2 => by omega, fun _ => h⟩
theorem lowS_spec (r : Rows) (n : Int) : lowS r n ≤ r.length ∧ (∀ k : Nat, k < lowS r n → lg r k 2 < n) ∧ (lowS r n < r.length → ¬ lg r (lowS r n) 2 < n) := by
  obtain ⟨_, b, c, d⟩ := lowM_spec (r := r) (n := n) r.length 0
  exact ⟨by unfold lowS; omega, fun k hk => c k (by omega) hk, fun h => d (by unfold lowS at h; omega)⟩
theorem low_uniq2 {r : Rows} {n : Int} {i : Nat} (hi : i ≤ r.length) (h1 : ∀ k : Nat, k < i → lg r k 2 < n) (h2 : i < r.length → ¬ lg r i 2 < n) : i = lowS r n := by
  obtain ⟨a, b, c⟩ := lowS_spec r n
  rcases Nat.lt_trichotomy i (lowS r n) with h | h | h
  · exact absurd (b i h) (h2 (by omega))
  · exact h
  · exact absurd (h1 _ h) (c (by omega))
theorem isS_iff {r : Rows} (hr : risS r = true) {n : Int} : isS r n = true ↔ ∃ k : Nat, k < r.length ∧ lg r k 2 = n := by
  unfold isS
  rw [decide_eq_true_eq]
  constructor
  · exact fun h => ⟨_, h.1, h.2⟩
  · rintro ⟨k, hk, h⟩
    have : k = lowS r n := low_uniq2 (by omega) (fun j hj => by have := ris_lt2 hr hj hk; omega) (fun _ => by omega)
    rw [← this]
    exact ⟨hk, h⟩
theorem mid_wrap {i j : Nat} (hj : i + j ≤ 562949953421312) : IntKind.i64.wrap ((IntKind.u64.wrap (IntKind.i64.wrap ((i : Int) + (j : Int)))).fdiv (2 ^ min (1 : Int).toNat IntKind.u64.bits)) = (((i + j) / 2 : Nat) : Int) := by
  rw [wrap_in ((i : Int) + (j : Int)) (by omega) (by omega)]
  have w : ∀ x : Int, IntKind.u64.wrap x = x % 18446744073709551616 := fun x => rfl
  have e : IntKind.u64.wrap ((i : Int) + (j : Int)) = (i : Int) + (j : Int) := by
    rw [w]; omega
  rw [e, show (2 : Int) ^ min (1 : Int).toNat IntKind.u64.bits = 2 from rfl, Int.fdiv_eq_ediv_of_nonneg _ (by omega), show ((i : Int) + (j : Int)) / 2 = (((i + j) / 2 : Nat) : Int) by omega, wrap_in _ (by omega) (by omega)]
theorem gSearch : GivesIf Tryz.prog 51 [lets, it] (fun ds => risSL ds = true) (fun ds => .tuple #[.int .i64 (lowSL ds), .bool (isSL ds)]) := by
  refine fn_gives Q2 (by kernel_rfl) (fun ρ h => ctQ2_ok (Sees.of h 200)) (by kernel_rfl) trSearch_is trSearch_low (by decide) (fun W vals ds hr hok => ?_)
  have hlen := (rAt_wf (rep_args hr) (j := 0) rfl).1
  simp only [trSearch]
  unfold lowSL isSL risSL at *
  clear hr
  generalize e0 : rAt ds 0 = r at *
  generalize e1 : iAt ds 1 = n at *
  refine TT.sat_loop (fun v => ∃ i j : Nat, v.i 0 = i ∧ v.i 1 = j ∧ i ≤ j ∧ j ≤ r.length ∧ (∀ k : Nat, k < i → lg r k 2 < n) ∧ ∀ k : Nat, j ≤ k → k < r.length → n ≤ lg r k 2) (fun v => (v.i 1).toNat - (v.i 0).toNat)
    ⟨0, r.length, by simp [val_i, aget, E.ev], by simp [val_i, aget, E.ev, X.ev, envOf_d, e0], by omega, by omega, fun k hk => by omega, fun k h1 h2 => by omega⟩ (fun v hv => ?_)
  obtain ⟨i, j, i0, j0, hij, hj, h1, h2⟩ := hv
  simp only [TT.sat_ret, TT.sat_ite, TT.sat_ob, TT.sat_next, TT.sat_stuck, put_i, put_b, put_d, put_fi, put_fb, put_fd, Ob.ok, B.ev, E.ev, X.ev, AL.ev, cmp_t, cmp_f, arEv, V.plain, V2.plain, S.plain, S0.plain, V.val, V2.val, S.val, S0.val, bV, iV, List.all_cons, List.all_nil, Bool.and_true, Bool.and_self, envOf_i, envOf_b, envOf_d, List.map_cons, List.map_nil, true_and, Bool.not_eq_true', Bool.not_eq_false', Bool.not_not, Bool.and_eq_true, and_f, cell_lg, cell_lb, cell_lr, cmpP, val_i, val_b, val_d, aget, Nat.reduceBEq, beq_self_eq_true, Bool.false_eq_true, if_true, if_false, Nat.reduceLT, Nat.reduceSub, Nat.sub_self, Nat.lt_irrefl, i0, j0, e0, e1]
  refine ⟨fun hc => ?_, fun hc => ?_⟩
  · rw [mid_wrap (by omega)]
    have hm : i ≤ (i + j) / 2 ∧ (i + j) / 2 < j := by omega
    generalize (i + j) / 2 = m at *
    rw [wrap_in ((m : Int) + 1) (by omega) (by omega)]
    refine ⟨by omega, by omega, fun a => ⟨⟨m + 1, j, rfl, rfl, by omega, hj, fun k hk => ?_, h2⟩, by omega⟩, fun a => ⟨fun b => ⟨⟨i, m, rfl, rfl, by omega, by omega, h1, fun k g1 g2 => ?_⟩, by omega⟩, fun b => ⟨⟨i, m, rfl, rfl, by omega, by omega, h1, fun k g1 g2 => ?_⟩, by omega⟩⟩⟩
    · by_cases e : k = m
      · subst e; exact a
      · have := ris_lt2 hok (i := k) (j := m) (by omega) (by omega)
        omega
    all_goals
      by_cases e : k = m
      · subst e; omega
      · have := ris_lt2 hok (i := m) (j := k) (by omega) g2
        omega
  · have hi : i = j := by omega
    subst hi
    have hl : i = lowS r n := low_uniq2 hj h1 (fun h => by have := h2 i (Nat.le_refl _) h; omega)
    have hB : isS r n = decide (i < r.length ∧ lg r i 2 = n) := by unfold isS; rw [← hl]
    rw [hB, ← hl]
    refine ⟨fun a => ⟨by omega, by omega, fun b => ?_, fun b => ⟨fun c => ?_, fun c => ?_⟩⟩, fun a => ?_⟩
    · rw [decide_eq_false (by omega)]
    · rw [decide_eq_false (by omega)]
    · rw [decide_eq_true (by omega)]
    · rw [decide_eq_false (by omega)]
def Q3 : Interp where
  fi n l := match n with | 200 => lowSL l | n => Q2.fi n l
  fb n l := match n with | 200 => ackL l | 201 => oursL l | 202 => areNL l | 203 => risSL l | 204 => isSL l | n => Q2.fb n l
  fd _ _ := []
theorem Q3_Q2 {ρ : Env} (h : Sees ρ Q3 210) : Sees ρ Q2 200 := h.trans (by decide) fun n l hn => by
  refine ⟨?_, ?_⟩
  ·
    simp only [Q3]
    split <;> first | omega | rfl
  ·
    simp only [Q3]
    split <;> first | omega | rfl
def cAcks := ctD [letS] fun al => .ret (bV (bF 200 ackL al))
theorem cAcks_ok {ρ : Env} (h : Sees ρ Q3 210) : CtOne Tryz.prog ρ 47 cAcks :=
  ctD_ok gAcks (fun _ => rfl) (fun al => by simp only [iV, bV, V.s0, V.val, V2.val, S.val, S0.val, bF_ev (s := 200) (f := ackL) (fun l => by rw [(h 200 l (by decide)).2]; simp only [Q3])]; try rfl)
def cOurs := ctD [lets, it, it] fun al => .ret (bV (bF 201 oursL al))
theorem cOurs_ok {ρ : Env} (h : Sees ρ Q3 210) : CtOne Tryz.prog ρ 41 cOurs :=
  ctD_ok gOurs (fun _ => rfl) (fun al => by simp only [iV, bV, V.s0, V.val, V2.val, S.val, S0.val, bF_ev (s := 201) (f := oursL) (fun l => by rw [(h 201 l (by decide)).2]; simp only [Q3])]; try rfl)
def cAreN := ctD [nots] fun al => .ret (bV (bF 202 areNL al))
theorem cAreN_ok {ρ : Env} (h : Sees ρ Q3 210) : CtOne Tryz.prog ρ 58 cAreN :=
  ctD_ok gAreN (fun _ => rfl) (fun al => by simp only [iV, bV, V.s0, V.val, V2.val, S.val, S0.val, bF_ev (s := 202) (f := areNL) (fun l => by rw [(h 202 l (by decide)).2]; simp only [Q3])]; try rfl)
def cSearch := ctD [lets, it] fun al => match al with
  | .x r (.i n .nil) => .ob (.tru (.fn 203 (.x r .nil))) (.ret (.tup [.one (.z (.int .i64 (.fn 200 (.x r (.i n .nil))))), .one (.z (.bool (.fn 204 (.x r (.i n .nil)))))]))
  | _ => .stuck "search"
theorem cSearch_ok {ρ : Env} (h : Sees ρ Q3 210) : CtOne Tryz.prog ρ 51 cSearch := by
  refine ctD_if gSearch (fun al v hv => ?_)
  split at hv
  · rename_i r n
    obtain ⟨ho, hv⟩ := hv
    obtain rfl := res_ret hv
    have h1 : (B.fn 203 (.x r .nil)).ev ρ = true := ho
    simp only [B.ev, AL.ev] at h1
    rw [(h 203 _ (by decide)).2] at h1
    simp only [Q3] at h1
    refine ⟨rfl, h1, ?_⟩
    simp only [V.val, V2.val, S.val, S0.val, List.map_cons, List.map_nil, E.ev, B.ev]
    rw [(h 200 _ (by decide)).1, (h 204 _ (by decide)).2]
    simp only [Q3]
  · exact hv.elim
def ctQ3 : Ct := (47, cAcks) :: (41, cOurs) :: (58, cAreN) :: (51, cSearch) :: ctQ2
theorem ctQ3_ok {ρ : Env} (h : Sees ρ Q3 210) : CtOk Tryz.prog ρ ctQ3 := .cons (cAcks_ok h) <| .cons (cOurs_ok h) <| .cons (cAreN_ok h) <| .cons (cSearch_ok h) <| ctQ2_ok (Q3_Q2 h)
end Go.Proofs.YtbbjlleaofgddaaGreat
/- Chapter 42: trees of isOutbox, isInbox. -/
namespace Go.Proofs.YtbbjlleaofgddaaGreat
open Go.RowKit
-- term trIsOut: call Tryz.prog ctQ3 (Lt.of []) 150 38 (symArgs 0 [boxS]) [] 0
def trIsOut : TT OpR :=
(.ite (.cmp .lss (.var 0) (.lit 0))
 (.ret ((.v (.one (.z (.bool (.lit false))))), [], 1))
 (.ite (.cmp .gtr (.var 0) (.lit 1000))
 (.ret ((.v (.one (.z (.bool (.lit false))))), [], 1))
 (.ite (.cmp .gtr (.len (.var 1)) (.ar .sub .i64 (.lit 1000) (.var 0)))
 (.ret ((.v (.one (.z (.bool (.lit false))))), [], 1))
 (.ite (.cmp .eql (.len (.var 1)) (.lit 0))
 (.loop 0 2000 ⟨[(0, (.lit 0))], [], []⟩
 (.ite (.cmp .lss (.var 2000) (.len (.var 1)))
 (.ob (.tru (.cmp .leq (.lit 0) (.var 2000)))
 (.ob (.tru (.cmp .lss (.var 2000) (.len (.var 1))))
 (.ite (.cmp .neq (.rd (.var 1) (.var 2000) 2) (.ar .add .i64 (.var 0) (.var 2000)))
 (.ret ((.v (.one (.z (.bool (.lit false))))), [], 3))
 (.next 0 ⟨[(0, (.ar .add .i64 (.var 2000) (.lit 1)))], [], []⟩))))
 (.ret ((.v (.one (.z (.bool (.lit true))))), [], 3))))
 (.ob (.tru (.lit true))
 (.ob (.tru (.cmp .lss (.lit 0) (.len (.var 1))))
 (.ob (.tru (.lit true))
 (.ob (.tru (.cmp .lss (.lit 0) (.len (.var 1))))
 (.ite (.not (.fn 201 (.x (.var 1) (.i (.rd (.var 1) (.lit 0) 0) (.i (.rd (.var 1) (.lit 0) 1) .nil)))))
 (.ret ((.v (.one (.z (.bool (.lit false))))), [], 1))
 (.loop 0 2000 ⟨[(0, (.lit 0))], [], []⟩
 (.ite (.cmp .lss (.var 2000) (.len (.var 1)))
 (.ob (.tru (.cmp .leq (.lit 0) (.var 2000)))
 (.ob (.tru (.cmp .lss (.var 2000) (.len (.var 1))))
 (.ite (.cmp .neq (.rd (.var 1) (.var 2000) 2) (.ar .add .i64 (.var 0) (.var 2000)))
 (.ret ((.v (.one (.z (.bool (.lit false))))), [], 3))
 (.next 0 ⟨[(0, (.ar .add .i64 (.var 2000) (.lit 1)))], [], []⟩))))
 (.ret ((.v (.one (.z (.bool (.lit true))))), [], 3)))))))))))))
-- end trIsOut
def trIsOut_h : List (Nat × St) := [
(1, ⟨(List.append [(.v (.agg [(.z (.int .i64 (.var 0))), (.z (.ext letK (.var 1) false))])), (.v (.one (.z (.ptr 0 0)))), (.v (.one (.z (.bool (.lit false))))), (.v (.one (.z .any))), (.v (.one (.z .any))), (.v (.one (.z (.ptr 0 0)))), (.v (.one (.z (.int .i64 (.var 0))))), (.v (.one (.z (.bool (.cmp .lss (.var 0) (.lit 0)))))), (.v (.one (.z (.bool (.lit false))))), (.v (.one (.z (.ptr 0 0)))), (.v (.one (.z (.int .i64 (.var 0))))), (.v (.one (.z (.bool (.cmp .gtr (.var 0) (.lit 1000)))))), (.v (.one (.z (.bool (.cmp .gtr (.var 0) (.lit 1000)))))), (.v (.one (.z (.bool (.lit false))))), (.v (.one (.z (.ptr 0 1)))), (.v (.one (.z (.ext letK (.var 1) false)))), (.v (.one (.z (.int .i64 (.len (.var 1)))))), (.v (.one (.z (.ptr 0 0)))), (.v (.one (.z (.int .i64 (.var 0))))), (.v (.one (.z (.int .i64 (.ar .sub .i64 (.lit 1000) (.var 0)))))), (.v (.one (.z (.bool (.cmp .gtr (.len (.var 1)) (.ar .sub .i64 (.lit 1000) (.var 0))))))), (.v (.one (.z (.bool (.cmp .gtr (.len (.var 1)) (.ar .sub .i64 (.lit 1000) (.var 0))))))), (.v (.one (.z (.bool (.lit false))))), (.v (.one (.z (.ptr 0 1)))), (.v (.one (.z (.ext letK (.var 1) false)))), (.v (.one (.z (.bool (.lit true))))), (.v (.one (.z (.bool (.lit false))))), (.v (.one (.z (.bool (.lit false))))), (.v (.one (.z (.ptr 0 1)))), (.v (.one (.z (.ext letK (.var 1) false)))), (.v (.one (.z (.int .i64 (.len (.var 1)))))), (.v (.one (.z (.int .i64 (.var 2000)))))] (List.replicate 12 V.any)), [(0, (.cells 24 [(.z (.int .i64 (.var 0))), (.z (.ext letK (.var 1) false))]))], 2, []⟩),
(1, ⟨(List.append [(.v (.agg [(.z (.int .i64 (.var 0))), (.z (.ext letK (.var 1) false))])), (.v (.one (.z (.ptr 0 0)))), (.v (.one (.z (.bool (.lit false))))), (.v (.one (.z .any))), (.v (.one (.z .any))), (.v (.one (.z (.ptr 0 0)))), (.v (.one (.z (.int .i64 (.var 0))))), (.v (.one (.z (.bool (.cmp .lss (.var 0) (.lit 0)))))), (.v (.one (.z (.bool (.lit false))))), (.v (.one (.z (.ptr 0 0)))), (.v (.one (.z (.int .i64 (.var 0))))), (.v (.one (.z (.bool (.cmp .gtr (.var 0) (.lit 1000)))))), (.v (.one (.z (.bool (.cmp .gtr (.var 0) (.lit 1000)))))), (.v (.one (.z (.bool (.lit false))))), (.v (.one (.z (.ptr 0 1)))), (.v (.one (.z (.ext letK (.var 1) false)))), (.v (.one (.z (.int .i64 (.len (.var 1)))))), (.v (.one (.z (.ptr 0 0)))), (.v (.one (.z (.int .i64 (.var 0))))), (.v (.one (.z (.int .i64 (.ar .sub .i64 (.lit 1000) (.var 0)))))), (.v (.one (.z (.bool (.cmp .gtr (.len (.var 1)) (.ar .sub .i64 (.lit 1000) (.var 0))))))), (.v (.one (.z (.bool (.cmp .gtr (.len (.var 1)) (.ar .sub .i64 (.lit 1000) (.var 0))))))), (.v (.one (.z (.bool (.lit false))))), (.v (.one (.z (.ptr 0 1)))), (.v (.one (.z (.ext letK (.var 1) false)))), (.v (.one (.z (.bool (.fn 201 (.x (.var 1) (.i (.rd (.var 1) (.lit 0) 0) (.i (.rd (.var 1) (.lit 0) 1) .nil)))))))), (.v (.one (.z (.bool (.not (.fn 201 (.x (.var 1) (.i (.rd (.var 1) (.lit 0) 0) (.i (.rd (.var 1) (.lit 0) 1) .nil))))))))), (.v (.one (.z (.bool (.not (.fn 201 (.x (.var 1) (.i (.rd (.var 1) (.lit 0) 0) (.i (.rd (.var 1) (.lit 0) 1) .nil))))))))), (.v (.one (.z (.ptr 0 1)))), (.v (.one (.z (.ext letK (.var 1) false)))), (.v (.one (.z (.int .i64 (.len (.var 1)))))), (.v (.one (.z (.int .i64 (.var 2000)))))] (List.replicate 12 V.any)), [(0, (.cells 24 [(.z (.int .i64 (.var 0))), (.z (.ext letK (.var 1) false))]))], 2, []⟩)]
def trIsOut_j : List (FuncId × Nat × Nat × St) := [
]
set_option maxRecDepth 100000 in
theorem trIsOut_is : T.norm 0 (call Tryz.prog ctQ3 ⟨Lt.un (Lt.of []), trIsOut_h, trIsOut_j⟩ 150 38 (symArgs 0 [boxS]) [] 0) TT.ret = trIsOut := by kernel_rfl
theorem trIsOut_low : trIsOut.low 1000 = true := by kernel_rfl
-- term trIsIn: call Tryz.prog ctQ3 (Lt.of []) 150 49 (symArgs 0 [boxS]) [] 0
def trIsIn : TT OpR :=
(.ite (.cmp .lss (.var 0) (.lit 0))
 (.ret ((.v (.one (.z (.bool (.lit false))))), [], 1))
 (.ite (.cmp .gtr (.var 0) (.lit 1000))
 (.ret ((.v (.one (.z (.bool (.lit false))))), [], 1))
 (.ite (.cmp .eql (.len (.var 1)) (.lit 0))
 (.loop 0 2000 ⟨[(0, (.var 0)), (1, (.lit 0))], [], []⟩
 (.ite (.cmp .lss (.var 2001) (.len (.var 1)))
 (.ob (.tru (.cmp .leq (.lit 0) (.var 2001)))
 (.ob (.tru (.cmp .lss (.var 2001) (.len (.var 1))))
 (.ite (.cmp .leq (.rd (.var 1) (.var 2001) 2) (.var 2000))
 (.ret ((.v (.one (.z (.bool (.lit false))))), [], 3))
 (.ite (.cmp .geq (.rd (.var 1) (.var 2001) 2) (.ar .add .i64 (.var 0) (.lit 4)))
 (.ret ((.v (.one (.z (.bool (.lit false))))), [], 3))
 (.next 0 ⟨[(0, (.rd (.var 1) (.var 2001) 2)), (1, (.ar .add .i64 (.var 2001) (.lit 1)))], [], []⟩)))))
 (.ret ((.v (.one (.z (.bool (.lit true))))), [], 3))))
 (.ob (.tru (.lit true))
 (.ob (.tru (.cmp .lss (.lit 0) (.len (.var 1))))
 (.ob (.tru (.lit true))
 (.ob (.tru (.cmp .lss (.lit 0) (.len (.var 1))))
 (.ite (.not (.fn 201 (.x (.var 1) (.i (.rd (.var 1) (.lit 0) 0) (.i (.rd (.var 1) (.lit 0) 1) .nil)))))
 (.ret ((.v (.one (.z (.bool (.lit false))))), [], 1))
 (.loop 0 2000 ⟨[(0, (.var 0)), (1, (.lit 0))], [], []⟩
 (.ite (.cmp .lss (.var 2001) (.len (.var 1)))
 (.ob (.tru (.cmp .leq (.lit 0) (.var 2001)))
 (.ob (.tru (.cmp .lss (.var 2001) (.len (.var 1))))
 (.ite (.cmp .leq (.rd (.var 1) (.var 2001) 2) (.var 2000))
 (.ret ((.v (.one (.z (.bool (.lit false))))), [], 3))
 (.ite (.cmp .geq (.rd (.var 1) (.var 2001) 2) (.ar .add .i64 (.var 0) (.lit 4)))
 (.ret ((.v (.one (.z (.bool (.lit false))))), [], 3))
 (.next 0 ⟨[(0, (.rd (.var 1) (.var 2001) 2)), (1, (.ar .add .i64 (.var 2001) (.lit 1)))], [], []⟩)))))
 (.ret ((.v (.one (.z (.bool (.lit true))))), [], 3))))))))))))
-- end trIsIn
def trIsIn_h : List (Nat × St) := [
(1, ⟨(List.append [(.v (.agg [(.z (.int .i64 (.var 0))), (.z (.ext letK (.var 1) false))])), (.v (.one (.z (.ptr 0 0)))), (.v (.one (.z (.bool (.lit false))))), (.v (.one (.z (.int .i64 (.var 2000))))), (.v (.one (.z .any))), (.v (.one (.z .any))), (.v (.one (.z (.ptr 0 0)))), (.v (.one (.z (.int .i64 (.var 0))))), (.v (.one (.z (.bool (.cmp .lss (.var 0) (.lit 0)))))), (.v (.one (.z (.bool (.lit false))))), (.v (.one (.z (.ptr 0 0)))), (.v (.one (.z (.int .i64 (.var 0))))), (.v (.one (.z (.bool (.cmp .gtr (.var 0) (.lit 1000)))))), (.v (.one (.z (.bool (.cmp .gtr (.var 0) (.lit 1000)))))), (.v (.one (.z (.bool (.lit false))))), (.v (.one (.z (.ptr 0 1)))), (.v (.one (.z (.ext letK (.var 1) false)))), (.v (.one (.z (.bool (.lit true))))), (.v (.one (.z (.bool (.lit false))))), (.v (.one (.z (.bool (.lit false))))), (.v (.one (.z (.ptr 0 0)))), (.v (.one (.z (.int .i64 (.var 0))))), (.v (.one (.z (.ptr 0 1)))), (.v (.one (.z (.ext letK (.var 1) false)))), (.v (.one (.z (.int .i64 (.len (.var 1)))))), (.v (.one (.z (.int .i64 (.var 2001)))))] (List.replicate 18 V.any)), [(0, (.cells 26 [(.z (.int .i64 (.var 0))), (.z (.ext letK (.var 1) false))]))], 2, []⟩),
(1, ⟨(List.append [(.v (.agg [(.z (.int .i64 (.var 0))), (.z (.ext letK (.var 1) false))])), (.v (.one (.z (.ptr 0 0)))), (.v (.one (.z (.bool (.lit false))))), (.v (.one (.z (.int .i64 (.var 2000))))), (.v (.one (.z .any))), (.v (.one (.z .any))), (.v (.one (.z (.ptr 0 0)))), (.v (.one (.z (.int .i64 (.var 0))))), (.v (.one (.z (.bool (.cmp .lss (.var 0) (.lit 0)))))), (.v (.one (.z (.bool (.lit false))))), (.v (.one (.z (.ptr 0 0)))), (.v (.one (.z (.int .i64 (.var 0))))), (.v (.one (.z (.bool (.cmp .gtr (.var 0) (.lit 1000)))))), (.v (.one (.z (.bool (.cmp .gtr (.var 0) (.lit 1000)))))), (.v (.one (.z (.bool (.lit false))))), (.v (.one (.z (.ptr 0 1)))), (.v (.one (.z (.ext letK (.var 1) false)))), (.v (.one (.z (.bool (.fn 201 (.x (.var 1) (.i (.rd (.var 1) (.lit 0) 0) (.i (.rd (.var 1) (.lit 0) 1) .nil)))))))), (.v (.one (.z (.bool (.not (.fn 201 (.x (.var 1) (.i (.rd (.var 1) (.lit 0) 0) (.i (.rd (.var 1) (.lit 0) 1) .nil))))))))), (.v (.one (.z (.bool (.not (.fn 201 (.x (.var 1) (.i (.rd (.var 1) (.lit 0) 0) (.i (.rd (.var 1) (.lit 0) 1) .nil))))))))), (.v (.one (.z (.ptr 0 0)))), (.v (.one (.z (.int .i64 (.var 0))))), (.v (.one (.z (.ptr 0 1)))), (.v (.one (.z (.ext letK (.var 1) false)))), (.v (.one (.z (.int .i64 (.len (.var 1)))))), (.v (.one (.z (.int .i64 (.var 2001)))))] (List.replicate 18 V.any)), [(0, (.cells 26 [(.z (.int .i64 (.var 0))), (.z (.ext letK (.var 1) false))]))], 2, []⟩)]
def trIsIn_j : List (FuncId × Nat × Nat × St) := [
]
set_option maxRecDepth 100000 in
theorem trIsIn_is : T.norm 0 (call Tryz.prog ctQ3 ⟨Lt.un (Lt.of []), trIsIn_h, trIsIn_j⟩ 150 49 (symArgs 0 [boxS]) [] 0) TT.ret = trIsIn := by kernel_rfl
theorem trIsIn_low : trIsIn.low 1000 = true := by kernel_rfl
end Go.Proofs.YtbbjlleaofgddaaGreat
/- Chapter 42: outboxes and inboxes. -/
namespace Go.Proofs.YtbbjlleaofgddaaGreat
open Go.RowKit
def alkB (r : Rows) : Bool := decide (r.length = 0) || oursB r (lg r 0 0) (lg r 0 1)
def outB (q : Int) (r : Rows) : Bool := (decide (0 ≤ q ∧ q ≤ 1000 ∧ (r.length : Int) ≤ 1000 - q) && alkB r) && decide (∀ i, i < r.length → lg r i 2 = q + i)
def befS (g : Int) (r : Rows) (i : Nat) : Int := if i = 0 then g else lg r (i - 1 : Nat) 2
def inB (g : Int) (r : Rows) : Bool := (decide (0 ≤ g ∧ g ≤ 1000) && alkB r) && decide (∀ i, i < r.length → befS g r i < lg r i 2 ∧ lg r i 2 < g + 4)
def outL (ds : List D) : Bool := outB (iAt ds 0) (rAt ds 1)
def inL (ds : List D) : Bool := inB (iAt ds 0) (rAt ds 1)
theorem Q3b201 (W : World) (ds l : List D) : (envOf Q3 W ds).fb 201 l = oursL l := by simp only [envOf, Q3]
theorem gIsOut : Gives Tryz.prog 38 [boxS] (fun ds => .bool (outL ds)) := by
  refine GivesIf.all (fn_gives Q3 (by kernel_rfl) (fun ρ h => ctQ3_ok (Sees.of h 210)) (by kernel_rfl) trIsOut_is trIsOut_low (by decide) (fun W vals ds hr _ => ?_))
  have hlen := (rAt_wf (rep_args hr) (j := 1) rfl).1
  have e : outL ds = outB (iAt ds 0) (rAt ds 1) := rfl
  simp only [trIsOut, TT.sat_ret, TT.sat_ite, TT.sat_ob, TT.sat_next, TT.sat_stuck, put_i, put_b, put_d, put_fi, put_fb, put_fd, Ob.ok, B.ev, E.ev, X.ev, AL.ev, cmp_t, cmp_f, arEv, V.plain, V2.plain, S.plain, S0.plain, V.val, V2.val, S.val, S0.val, bV, iV, List.all_cons, List.all_nil, Bool.and_true, Bool.and_self, envOf_i, envOf_b, envOf_d, List.map_cons, List.map_nil, true_and, Bool.not_eq_true', Bool.not_eq_false', Bool.not_not, Bool.and_eq_true, and_f, cell_lg, cell_lb, cell_lr, cmpP, val_i, val_b, val_d, aget, Nat.reduceBEq, beq_self_eq_true, Bool.false_eq_true, if_true, if_false, Nat.reduceLT, Nat.reduceSub, Nat.sub_self, Nat.lt_irrefl, Q3b201]
  rw [e]
  clear hr e
  generalize e1 : rAt ds 1 = r at *
  generalize e0 : iAt ds 0 = q at *
  have N : ¬ (0 ≤ q ∧ q ≤ 1000 ∧ (r.length : Int) ≤ 1000 - q) → Value.bool false = Value.bool (outB q r) := fun h => by
    unfold outB
    rw [decide_eq_false h, Bool.false_and, Bool.false_and]
  refine ⟨fun h => N (by omega), fun h0 => ⟨fun h => N (by omega), fun h1 => ?_⟩⟩
  rw [wrap_in (1000 - q) (by omega) (by omega)]
  refine ⟨fun h => N (by omega), fun h2 => ?_⟩
  have F : ¬ alkB r = true → Value.bool false = Value.bool (outB q r) := fun h => by
    unfold outB
    rw [Bool.eq_false_iff.2 h, Bool.and_false, Bool.false_and]
  have E : alkB r = true → outB q r = decide (∀ i, i < r.length → lg r i 2 = q + i) := fun h => by
    unfold outB
    rw [decide_eq_true (by omega), h, Bool.true_and, Bool.true_and]
  have A0 : r.length = 0 → alkB r = true := fun h => by unfold alkB; rw [decide_eq_true h, Bool.true_or]
  have A1 : r.length ≠ 0 → alkB r = oursB r (lg r 0 0) (lg r 0 1) := fun h => by unfold alkB; rw [decide_eq_false h, Bool.false_or]
  have hO : ∀ a b, oursL [.l r, .i a, .i b] = oursB r a b := fun _ _ => rfl
  simp only [hO]
  refine ⟨fun h3 => ?_, fun h3 => ⟨by omega, by omega, fun h4 => F (by rw [A1 (by omega), h4]; decide), fun h4 => ?_⟩⟩
  all_goals
    have hA : alkB r = true := by first | exact A0 (by omega) | (rw [A1 (by omega)]; assumption)
    rw [E hA]
    clear F E A0 A1 hO
    refine TT.sat_loop (fun v => ∃ i : Nat, v.i 0 = i ∧ i ≤ r.length ∧ ∀ k : Nat, k < i → lg r k 2 = q + k) (fun v => r.length - (v.i 0).toNat)
      ⟨0, by simp [val_i, aget, E.ev], by omega, fun k h => by omega⟩ (fun v hv => ?_)
    obtain ⟨i, i0, i1, i2⟩ := hv
    simp only [TT.sat_ret, TT.sat_ite, TT.sat_ob, TT.sat_next, TT.sat_stuck, put_i, put_b, put_d, put_fi, put_fb, put_fd, Ob.ok, B.ev, E.ev, X.ev, AL.ev, cmp_t, cmp_f, arEv, V.plain, V2.plain, S.plain, S0.plain, V.val, V2.val, S.val, S0.val, bV, iV, List.all_cons, List.all_nil, Bool.and_true, Bool.and_self, envOf_i, envOf_b, envOf_d, List.map_cons, List.map_nil, true_and, Bool.not_eq_true', Bool.not_eq_false', Bool.not_not, Bool.and_eq_true, and_f, cell_lg, cell_lb, cell_lr, cmpP, val_i, val_b, val_d, aget, Nat.reduceBEq, beq_self_eq_true, Bool.false_eq_true, if_true, if_false, Nat.reduceLT, Nat.reduceSub, Nat.sub_self, Nat.lt_irrefl, i0, e0, e1]
    refine ⟨fun hc => ?_, fun hc => ?_⟩
    · rw [wrap_in ((i : Int) + 1) (by omega) (by omega), wrap_in (q + (i : Int)) (by omega) (by omega)]
      refine ⟨by omega, by omega, fun h => ?_, fun h => ⟨⟨i + 1, rfl, by omega, fun k hk => ?_⟩, by omega⟩⟩
      · rw [decide_eq_false (fun a => h (a i (by omega)))]
      · by_cases e : k = i
        · subst e; omega
        · exact i2 k (by omega)
    · rw [decide_eq_true (fun k hk => i2 k (by omega))]
theorem gIsIn : Gives Tryz.prog 49 [boxS] (fun ds => .bool (inL ds)) := by
  refine GivesIf.all (fn_gives Q3 (by kernel_rfl) (fun ρ h => ctQ3_ok (Sees.of h 210)) (by kernel_rfl) trIsIn_is trIsIn_low (by decide) (fun W vals ds hr _ => ?_))
  have hlen := (rAt_wf (rep_args hr) (j := 1) rfl).1
  have e : inL ds = inB (iAt ds 0) (rAt ds 1) := rfl
  simp only [trIsIn, TT.sat_ret, TT.sat_ite, TT.sat_ob, TT.sat_next, TT.sat_stuck, put_i, put_b, put_d, put_fi, put_fb, put_fd, Ob.ok, B.ev, E.ev, X.ev, AL.ev, cmp_t, cmp_f, arEv, V.plain, V2.plain, S.plain, S0.plain, V.val, V2.val, S.val, S0.val, bV, iV, List.all_cons, List.all_nil, Bool.and_true, Bool.and_self, envOf_i, envOf_b, envOf_d, List.map_cons, List.map_nil, true_and, Bool.not_eq_true', Bool.not_eq_false', Bool.not_not, Bool.and_eq_true, and_f, cell_lg, cell_lb, cell_lr, cmpP, val_i, val_b, val_d, aget, Nat.reduceBEq, beq_self_eq_true, Bool.false_eq_true, if_true, if_false, Nat.reduceLT, Nat.reduceSub, Nat.sub_self, Nat.lt_irrefl, Q3b201]
  rw [e]
  clear hr e
  generalize e1 : rAt ds 1 = r at *
  generalize e0 : iAt ds 0 = g at *
  have N : ¬ (0 ≤ g ∧ g ≤ 1000) → Value.bool false = Value.bool (inB g r) := fun h => by
    unfold inB
    rw [decide_eq_false h, Bool.false_and, Bool.false_and]
  refine ⟨fun h => N (by omega), fun h0 => ⟨fun h => N (by omega), fun h1 => ?_⟩⟩
  have F : ¬ alkB r = true → Value.bool false = Value.bool (inB g r) := fun h => by
    unfold inB
    rw [Bool.eq_false_iff.2 h, Bool.and_false, Bool.false_and]
  have E : alkB r = true → inB g r = decide (∀ i, i < r.length → befS g r i < lg r i 2 ∧ lg r i 2 < g + 4) := fun h => by
    unfold inB
    rw [decide_eq_true (by omega), h, Bool.true_and, Bool.true_and]
  have A0 : r.length = 0 → alkB r = true := fun h => by unfold alkB; rw [decide_eq_true h, Bool.true_or]
  have A1 : r.length ≠ 0 → alkB r = oursB r (lg r 0 0) (lg r 0 1) := fun h => by unfold alkB; rw [decide_eq_false h, Bool.false_or]
  have hO : ∀ a b, oursL [.l r, .i a, .i b] = oursB r a b := fun _ _ => rfl
  simp only [hO]
  refine ⟨fun h3 => ?_, fun h3 => ⟨by omega, by omega, fun h4 => F (by rw [A1 (by omega), h4]; decide), fun h4 => ?_⟩⟩
  all_goals
    have hA : alkB r = true := by first | exact A0 (by omega) | (rw [A1 (by omega)]; assumption)
    rw [E hA]
    clear F E A0 A1 hO
    refine TT.sat_loop (fun v => ∃ i : Nat, v.i 1 = i ∧ i ≤ r.length ∧ v.i 0 = befS g r i ∧ ∀ k : Nat, k < i → befS g r k < lg r k 2 ∧ lg r k 2 < g + 4) (fun v => r.length - (v.i 1).toNat)
      ⟨0, by simp [val_i, aget, E.ev], by omega, e0, fun k h => by omega⟩ (fun v hv => ?_)
    obtain ⟨i, i0, i1, ib, i2⟩ := hv
    simp only [TT.sat_ret, TT.sat_ite, TT.sat_ob, TT.sat_next, TT.sat_stuck, put_i, put_b, put_d, put_fi, put_fb, put_fd, Ob.ok, B.ev, E.ev, X.ev, AL.ev, cmp_t, cmp_f, arEv, V.plain, V2.plain, S.plain, S0.plain, V.val, V2.val, S.val, S0.val, bV, iV, List.all_cons, List.all_nil, Bool.and_true, Bool.and_self, envOf_i, envOf_b, envOf_d, List.map_cons, List.map_nil, true_and, Bool.not_eq_true', Bool.not_eq_false', Bool.not_not, Bool.and_eq_true, and_f, cell_lg, cell_lb, cell_lr, cmpP, val_i, val_b, val_d, aget, Nat.reduceBEq, beq_self_eq_true, Bool.false_eq_true, if_true, if_false, Nat.reduceLT, Nat.reduceSub, Nat.sub_self, Nat.lt_irrefl, i0, ib, e0, e1]
    refine ⟨fun hc => ?_, fun hc => ?_⟩
    · rw [wrap_in ((i : Int) + 1) (by omega) (by omega), wrap_in (g + 4) (by omega) (by omega)]
      refine ⟨by omega, by omega, fun h => ?_, fun h => ⟨fun h' => ?_, fun h' => ⟨⟨i + 1, rfl, by omega, rfl, fun k hk => ?_⟩, by omega⟩⟩⟩
      · rw [decide_eq_false (fun a => by have := a i (by omega); omega)]
      · rw [decide_eq_false (fun a => by have := a i (by omega); omega)]
      · by_cases e : k = i
        · subst e; omega
        · exact i2 k (by omega)
    · rw [decide_eq_true (fun k hk => i2 k (by omega))]
def Q4 : Interp where
  fi n l := Q3.fi n l
  fb n l := match n with | 210 => outL l | 211 => inL l | n => Q3.fb n l
  fd _ _ := []
theorem Q4_Q3 {ρ : Env} (h : Sees ρ Q4 220) : Sees ρ Q3 210 := h.trans (by decide) fun n l hn => by
  refine ⟨?_, ?_⟩
  ·
    rfl
  ·
    simp only [Q4]
    split <;> first | omega | rfl
def cIsOut := ctD [boxS] fun al => .ret (bV (bF 210 outL al))
theorem cIsOut_ok {ρ : Env} (h : Sees ρ Q4 220) : CtOne Tryz.prog ρ 38 cIsOut :=
  ctD_ok gIsOut (fun _ => rfl) (fun al => by simp only [iV, bV, V.s0, V.val, V2.val, S.val, S0.val, bF_ev (s := 210) (f := outL) (fun l => by rw [(h 210 l (by decide)).2]; simp only [Q4])]; try rfl)
def cIsIn := ctD [boxS] fun al => .ret (bV (bF 211 inL al))
theorem cIsIn_ok {ρ : Env} (h : Sees ρ Q4 220) : CtOne Tryz.prog ρ 49 cIsIn :=
  ctD_ok gIsIn (fun _ => rfl) (fun al => by simp only [iV, bV, V.s0, V.val, V2.val, S.val, S0.val, bF_ev (s := 211) (f := inL) (fun l => by rw [(h 211 l (by decide)).2]; simp only [Q4])]; try rfl)
def ctQ4 : Ct := (38, cIsOut) :: (49, cIsIn) :: ctQ3
theorem ctQ4_ok {ρ : Env} (h : Sees ρ Q4 220) : CtOk Tryz.prog ρ ctQ4 := .cons (cIsOut_ok h) <| .cons (cIsIn_ok h) <| ctQ3_ok (Q4_Q3 h)
end Go.Proofs.YtbbjlleaofgddaaGreat
