/- MG, merged: TCv, Cv, TCw, Cw, TCx, Cx, TCy, Cy, TCz, Cz. -/
import Derived.Test.YtbbjlleaofgddaaGreatMF
set_option linter.unusedSimpArgs false
set_option linter.unusedVariables false
/- Chapter 38: the trees of poly.In, of sector. -/
namespace Go.Proofs.YtbbjlleaofgddaaGreat
open Go.RowKit
def dir : Sh := .agg [.int .i64, .int .i64]
def secK : List CK := [.int .i64, .int .i64, .int .i64, .int .i64, .int .i64, .int .i64]
def sec : Sh := .agg secK
-- term trCompare: call Tryz.prog ctB (Lt.of []) 100 165 (symArgs 0 [dir, dir]) [] 0
def trCompare : TT OpR :=
(.ite (.cmp .gtr (.var 1) (.lit 0))
 (.ite (.cmp .gtr (.var 3) (.lit 0))
 (.ite (.cmp .gtr (.ar .sub .i64 (.ar .mul .i64 (.var 0) (.var 3)) (.ar .mul .i64 (.var 1) (.var 2))) (.lit 0))
 (.ret ((.v (.one (.z (.int .i64 (.lit (-1)))))), [], 6))
 (.ite (.cmp .lss (.ar .sub .i64 (.ar .mul .i64 (.var 0) (.var 3)) (.ar .mul .i64 (.var 1) (.var 2))) (.lit 0))
 (.ret ((.v (.one (.z (.int .i64 (.lit 1))))), [], 8))
 (.ret ((.v (.one (.z (.int .i64 (.lit 0))))), [], 8))))
 (.ite (.cmp .eql (.var 3) (.lit 0))
 (.ite (.not (.cmp .gtr (.var 2) (.lit 0)))
 (.ite (.cmp .gtr (.var 1) (.lit 0))
 (.ret ((.v (.one (.z (.int .i64 (.lit (-1)))))), [], 5))
 (.ite (.cmp .eql (.var 1) (.lit 0))
 (.ite (.cmp .gtr (.var 0) (.lit 0))
 (.ret ((.v (.one (.z (.int .i64 (.lit (-1)))))), [], 5))
 (.ret ((.v (.one (.z (.int .i64 (.lit 1))))), [], 5)))
 (.ret ((.v (.one (.z (.int .i64 (.lit 1))))), [], 5))))
 (.ite (.cmp .gtr (.ar .sub .i64 (.ar .mul .i64 (.var 0) (.var 3)) (.ar .mul .i64 (.var 1) (.var 2))) (.lit 0))
 (.ret ((.v (.one (.z (.int .i64 (.lit (-1)))))), [], 6))
 (.ite (.cmp .lss (.ar .sub .i64 (.ar .mul .i64 (.var 0) (.var 3)) (.ar .mul .i64 (.var 1) (.var 2))) (.lit 0))
 (.ret ((.v (.one (.z (.int .i64 (.lit 1))))), [], 8))
 (.ret ((.v (.one (.z (.int .i64 (.lit 0))))), [], 8)))))
 (.ite (.cmp .gtr (.var 1) (.lit 0))
 (.ret ((.v (.one (.z (.int .i64 (.lit (-1)))))), [], 5))
 (.ite (.cmp .eql (.var 1) (.lit 0))
 (.ite (.cmp .gtr (.var 0) (.lit 0))
 (.ret ((.v (.one (.z (.int .i64 (.lit (-1)))))), [], 5))
 (.ret ((.v (.one (.z (.int .i64 (.lit 1))))), [], 5)))
 (.ret ((.v (.one (.z (.int .i64 (.lit 1))))), [], 5))))))
 (.ite (.cmp .eql (.var 1) (.lit 0))
 (.ite (.cmp .gtr (.var 3) (.lit 0))
 (.ite (.not (.cmp .gtr (.var 0) (.lit 0)))
 (.ite (.cmp .gtr (.var 1) (.lit 0))
 (.ret ((.v (.one (.z (.int .i64 (.lit (-1)))))), [], 5))
 (.ite (.cmp .eql (.var 1) (.lit 0))
 (.ite (.cmp .gtr (.var 0) (.lit 0))
 (.ret ((.v (.one (.z (.int .i64 (.lit (-1)))))), [], 5))
 (.ret ((.v (.one (.z (.int .i64 (.lit 1))))), [], 5)))
 (.ret ((.v (.one (.z (.int .i64 (.lit 1))))), [], 5))))
 (.ite (.cmp .gtr (.ar .sub .i64 (.ar .mul .i64 (.var 0) (.var 3)) (.ar .mul .i64 (.var 1) (.var 2))) (.lit 0))
 (.ret ((.v (.one (.z (.int .i64 (.lit (-1)))))), [], 6))
 (.ite (.cmp .lss (.ar .sub .i64 (.ar .mul .i64 (.var 0) (.var 3)) (.ar .mul .i64 (.var 1) (.var 2))) (.lit 0))
 (.ret ((.v (.one (.z (.int .i64 (.lit 1))))), [], 8))
 (.ret ((.v (.one (.z (.int .i64 (.lit 0))))), [], 8)))))
 (.ite (.cmp .eql (.var 3) (.lit 0))
 (.ite (.not (.eqb (.cmp .gtr (.var 0) (.lit 0)) (.cmp .gtr (.var 2) (.lit 0))))
 (.ite (.cmp .gtr (.var 1) (.lit 0))
 (.ret ((.v (.one (.z (.int .i64 (.lit (-1)))))), [], 5))
 (.ite (.cmp .eql (.var 1) (.lit 0))
 (.ite (.cmp .gtr (.var 0) (.lit 0))
 (.ret ((.v (.one (.z (.int .i64 (.lit (-1)))))), [], 5))
 (.ret ((.v (.one (.z (.int .i64 (.lit 1))))), [], 5)))
 (.ret ((.v (.one (.z (.int .i64 (.lit 1))))), [], 5))))
 (.ite (.cmp .gtr (.ar .sub .i64 (.ar .mul .i64 (.var 0) (.var 3)) (.ar .mul .i64 (.var 1) (.var 2))) (.lit 0))
 (.ret ((.v (.one (.z (.int .i64 (.lit (-1)))))), [], 6))
 (.ite (.cmp .lss (.ar .sub .i64 (.ar .mul .i64 (.var 0) (.var 3)) (.ar .mul .i64 (.var 1) (.var 2))) (.lit 0))
 (.ret ((.v (.one (.z (.int .i64 (.lit 1))))), [], 8))
 (.ret ((.v (.one (.z (.int .i64 (.lit 0))))), [], 8)))))
 (.ite (.cmp .gtr (.var 0) (.lit 0))
 (.ite (.cmp .gtr (.var 1) (.lit 0))
 (.ret ((.v (.one (.z (.int .i64 (.lit (-1)))))), [], 5))
 (.ite (.cmp .eql (.var 1) (.lit 0))
 (.ite (.cmp .gtr (.var 0) (.lit 0))
 (.ret ((.v (.one (.z (.int .i64 (.lit (-1)))))), [], 5))
 (.ret ((.v (.one (.z (.int .i64 (.lit 1))))), [], 5)))
 (.ret ((.v (.one (.z (.int .i64 (.lit 1))))), [], 5))))
 (.ite (.cmp .gtr (.ar .sub .i64 (.ar .mul .i64 (.var 0) (.var 3)) (.ar .mul .i64 (.var 1) (.var 2))) (.lit 0))
 (.ret ((.v (.one (.z (.int .i64 (.lit (-1)))))), [], 6))
 (.ite (.cmp .lss (.ar .sub .i64 (.ar .mul .i64 (.var 0) (.var 3)) (.ar .mul .i64 (.var 1) (.var 2))) (.lit 0))
 (.ret ((.v (.one (.z (.int .i64 (.lit 1))))), [], 8))
 (.ret ((.v (.one (.z (.int .i64 (.lit 0))))), [], 8)))))))
 (.ite (.cmp .gtr (.var 3) (.lit 0))
 (.ite (.cmp .gtr (.var 1) (.lit 0))
 (.ret ((.v (.one (.z (.int .i64 (.lit (-1)))))), [], 5))
 (.ite (.cmp .eql (.var 1) (.lit 0))
 (.ite (.cmp .gtr (.var 0) (.lit 0))
 (.ret ((.v (.one (.z (.int .i64 (.lit (-1)))))), [], 5))
 (.ret ((.v (.one (.z (.int .i64 (.lit 1))))), [], 5)))
 (.ret ((.v (.one (.z (.int .i64 (.lit 1))))), [], 5))))
 (.ite (.cmp .eql (.var 3) (.lit 0))
 (.ite (.cmp .gtr (.var 2) (.lit 0))
 (.ite (.cmp .gtr (.var 1) (.lit 0))
 (.ret ((.v (.one (.z (.int .i64 (.lit (-1)))))), [], 5))
 (.ite (.cmp .eql (.var 1) (.lit 0))
 (.ite (.cmp .gtr (.var 0) (.lit 0))
 (.ret ((.v (.one (.z (.int .i64 (.lit (-1)))))), [], 5))
 (.ret ((.v (.one (.z (.int .i64 (.lit 1))))), [], 5)))
 (.ret ((.v (.one (.z (.int .i64 (.lit 1))))), [], 5))))
 (.ite (.cmp .gtr (.ar .sub .i64 (.ar .mul .i64 (.var 0) (.var 3)) (.ar .mul .i64 (.var 1) (.var 2))) (.lit 0))
 (.ret ((.v (.one (.z (.int .i64 (.lit (-1)))))), [], 6))
 (.ite (.cmp .lss (.ar .sub .i64 (.ar .mul .i64 (.var 0) (.var 3)) (.ar .mul .i64 (.var 1) (.var 2))) (.lit 0))
 (.ret ((.v (.one (.z (.int .i64 (.lit 1))))), [], 8))
 (.ret ((.v (.one (.z (.int .i64 (.lit 0))))), [], 8)))))
 (.ite (.cmp .gtr (.ar .sub .i64 (.ar .mul .i64 (.var 0) (.var 3)) (.ar .mul .i64 (.var 1) (.var 2))) (.lit 0))
 (.ret ((.v (.one (.z (.int .i64 (.lit (-1)))))), [], 6))
 (.ite (.cmp .lss (.ar .sub .i64 (.ar .mul .i64 (.var 0) (.var 3)) (.ar .mul .i64 (.var 1) (.var 2))) (.lit 0))
 (.ret ((.v (.one (.z (.int .i64 (.lit 1))))), [], 8))
 (.ret ((.v (.one (.z (.int .i64 (.lit 0))))), [], 8))))))))
-- end trCompare
set_option maxRecDepth 100000 in
theorem trCompare_is : T.norm 0 (call Tryz.prog ctB (Lt.of []) 100 165 (symArgs 0 [dir, dir]) [] 0) TT.ret = trCompare := by kernel_rfl
theorem trCompare_low : trCompare.low 1000 = true := by kernel_rfl
-- term trSecV: call Tryz.prog ctB (Lt.of []) 100 151 (symArgs 0 [sec]) [] 0
def trSecV : TT OpR :=
(.ite (.not (.and (.cmp .eql (.var 0) (.lit 0)) (.cmp .eql (.var 1) (.lit 0))))
 (.ite (.cmp .leq (.mx (.var 0) (.var 1)) (.lit 1000000))
 (.ite (.cmp .geq (.mn (.var 0) (.var 1)) (.lit (-1000000)))
 (.ite (.not (.and (.cmp .eql (.var 2) (.lit 0)) (.cmp .eql (.var 3) (.lit 0))))
 (.ite (.cmp .leq (.mx (.var 2) (.var 3)) (.lit 1000000))
 (.ite (.cmp .geq (.mn (.var 2) (.var 3)) (.lit (-1000000)))
 (.ite (.cmp .geq (.var 4) (.lit 1))
 (.ite (.cmp .leq (.var 4) (.lit 3))
 (.ite (.cmp .geq (.var 5) (.lit 1))
 (.ret ((.v (.one (.z (.bool (.cmp .leq (.var 5) (.lit 3000000)))))), [], 3))
 (.ret ((.v (.one (.z (.bool (.lit false))))), [], 3)))
 (.ret ((.v (.one (.z (.bool (.lit false))))), [], 3)))
 (.ret ((.v (.one (.z (.bool (.lit false))))), [], 3)))
 (.ret ((.v (.one (.z (.bool (.lit false))))), [], 3)))
 (.ret ((.v (.one (.z (.bool (.lit false))))), [], 3)))
 (.ret ((.v (.one (.z (.bool (.lit false))))), [], 3)))
 (.ret ((.v (.one (.z (.bool (.lit false))))), [], 2)))
 (.ret ((.v (.one (.z (.bool (.lit false))))), [], 2)))
 (.ret ((.v (.one (.z (.bool (.lit false))))), [], 2)))
-- end trSecV
set_option maxRecDepth 100000 in
theorem trSecV_is : T.norm 0 (call Tryz.prog ctB (Lt.of []) 100 151 (symArgs 0 [sec]) [] 0) TT.ret = trSecV := by kernel_rfl
theorem trSecV_low : trSecV.low 1000 = true := by kernel_rfl
end Go.Proofs.YtbbjlleaofgddaaGreat
/- Chapter 38: poly.In; sector's compare, valid. -/
namespace Go.Proofs.YtbbjlleaofgddaaGreat
open Go.RowKit
def pinO (ds : List D) : Bool := placeB (iAt ds 0) (iAt ds 1) && polyB (rAt ds 2)
def pinR (ds : List D) : Int := if pinO ds then placeN (rAt ds 2) (iAt ds 0) (iAt ds 1) (rAt ds 2).length 0 false else 0
def pinE (ds : List D) : Int := if pinO ds then 0 else 1
theorem KBb3 (W : World) (ds l : List D) : (envOf KB W ds).fb 3 l = placeL l := by simp only [envOf, KB, KA, K9, K8, K7, K6, K5, K]
theorem KBb69 (W : World) (ds l : List D) : (envOf KB W ds).fb 69 l = polyL l := by simp only [envOf, KB]
theorem KBi67 (W : World) (ds l : List D) : (envOf KB W ds).fi 67 l = placeI l := by simp only [envOf, KB, KA, K9, K8, K7, K6, K5, K]
theorem poly_one (r : Rows) : polyL [.l r] = polyB r := rfl
theorem placeI_three (r : Rows) (x y : Int) : placeI [.l r, .i x, .i y] = placeN r x y r.length 0 false := rfl
theorem beq_cmp (o o' : BinOp) (a b c d : Int) : (cmpEv o a b = cmpEv o' c d) = (cmpP o a b ↔ cmpP o' c d) := by rw [Bool.eq_iff_iff, cmp_t, cmp_t]
def upB (x y : Int) : Bool := decide (0 < y ∨ (y = 0 ∧ 0 < x))
def crsW (a b c d : Int) : Int := IntKind.i64.wrap (IntKind.i64.wrap (a * d) - IntKind.i64.wrap (b * c))
def compI (a b c d : Int) : Int := if 0 < b ∨ (b = 0 ∧ 0 < a) then (if 0 < d ∨ (d = 0 ∧ 0 < c) then (if 0 < crsW a b c d then -1 else if crsW a b c d < 0 then 1 else 0) else -1)
  else (if 0 < d ∨ (d = 0 ∧ 0 < c) then 1 else (if 0 < crsW a b c d then -1 else if crsW a b c d < 0 then 1 else 0))
def compL (ds : List D) : Int := compI (iAt ds 0) (iAt ds 1) (iAt ds 2) (iAt ds 3)
set_option maxHeartbeats 1000000 in
theorem gCompare : Gives Tryz.prog 165 [dir, dir] (fun ds => .int .i64 (compL ds)) := by
  refine GivesIf.all (fn_gives KB (by kernel_rfl) (fun ρ h => ctB_ok (Sees.of h 70)) (by kernel_rfl) trCompare_is trCompare_low (by decide) (fun W vals ds hr _ => ?_))
  simp only [trCompare, TT.sat_ret, TT.sat_ite, TT.sat_ob, TT.sat_next, TT.sat_stuck, put_i, put_b, put_d, put_fi, put_fb, put_fd, Ob.ok, B.ev, E.ev, X.ev, AL.ev, cmp_t, cmp_f, arEv, V.plain, V2.plain, S.plain, S0.plain, V.val, V2.val, S.val, S0.val, bV, iV, List.all_cons, List.all_nil, Bool.and_true, Bool.and_self, envOf_i, envOf_b, envOf_d, List.map_cons, List.map_nil, true_and, Bool.not_eq_true', Bool.not_eq_false', Bool.not_not, Bool.and_eq_true, and_f, cell_lg, cell_lb, cell_lr, cmpP, val_i, val_b, val_d, aget, Nat.reduceBEq, beq_self_eq_true, Bool.false_eq_true, if_true, if_false, Nat.reduceLT, Nat.reduceSub, Nat.sub_self, Nat.lt_irrefl]
  simp only [compL, compI]
  rw [show IntKind.i64.wrap (IntKind.i64.wrap (iAt ds 0 * iAt ds 3) - IntKind.i64.wrap (iAt ds 1 * iAt ds 2)) = crsW (iAt ds 0) (iAt ds 1) (iAt ds 2) (iAt ds 3) from rfl]
  generalize crsW (iAt ds 0) (iAt ds 1) (iAt ds 2) (iAt ds 3) = z
  generalize iAt ds 0 = a
  generalize iAt ds 1 = b
  generalize iAt ds 2 = c
  generalize iAt ds 3 = d
  repeat' (first | (intro h; skip) | (refine And.intro ?_ ?_))
  all_goals (congr 1; (try simp only [Bool.not_eq_true', Bool.not_eq_false', beq_iff_eq, beq_eq_false_iff_ne, ne_eq, beq_cmp, cmpP] at *); (repeat' split) <;> omega)
def secB (a b c d e f : Int) : Bool := decide (¬ (a = 0 ∧ b = 0) ∧ (-1000000 ≤ a ∧ a ≤ 1000000) ∧ (-1000000 ≤ b ∧ b ≤ 1000000) ∧ ¬ (c = 0 ∧ d = 0) ∧ (-1000000 ≤ c ∧ c ≤ 1000000) ∧ (-1000000 ≤ d ∧ d ≤ 1000000) ∧ (1 ≤ e ∧ e ≤ 3) ∧ 1 ≤ f ∧ f ≤ 3000000)
def secL (ds : List D) : Bool := secB (iAt ds 0) (iAt ds 1) (iAt ds 2) (iAt ds 3) (iAt ds 4) (iAt ds 5)
theorem gSecV1 : Gives Tryz.prog 151 [sec] (fun ds => .bool (secL ds)) := by
  refine GivesIf.all (fn_gives KB (by kernel_rfl) (fun ρ h => ctB_ok (Sees.of h 70)) (by kernel_rfl) trSecV_is trSecV_low (by decide) (fun W vals ds hr _ => ?_))
  simp only [trSecV, TT.sat_ret, TT.sat_ite, TT.sat_ob, TT.sat_next, TT.sat_stuck, put_i, put_b, put_d, put_fi, put_fb, put_fd, Ob.ok, B.ev, E.ev, X.ev, AL.ev, cmp_t, cmp_f, arEv, V.plain, V2.plain, S.plain, S0.plain, V.val, V2.val, S.val, S0.val, bV, iV, List.all_cons, List.all_nil, Bool.and_true, Bool.and_self, envOf_i, envOf_b, envOf_d, List.map_cons, List.map_nil, true_and, Bool.not_eq_true', Bool.not_eq_false', Bool.not_not, Bool.and_eq_true, and_f, cell_lg, cell_lb, cell_lr, cmpP, val_i, val_b, val_d, aget, Nat.reduceBEq, beq_self_eq_true, Bool.false_eq_true, if_true, if_false, Nat.reduceLT, Nat.reduceSub, Nat.sub_self, Nat.lt_irrefl]
  simp only [secL, secB]
  repeat' (first | (intro h; skip) | (refine And.intro ?_ ?_))
  all_goals (congr 1; rw [Bool.eq_iff_iff]; try rw [cmp_t])
  all_goals (simp only [cmpP, decide_eq_true_eq, Bool.false_eq_true, false_iff]; omega)
def KC : Interp where
  fi n l := match n with | 70 => pinR l | 71 => pinE l | 72 => compL l | n => KB.fi n l
  fb n l := match n with | 73 => secL l | n => KB.fb n l
  fd _ _ := []
theorem KC_KB {ρ : Env} (h : Sees ρ KC 74) : Sees ρ KB 70 := h.trans (by decide) fun n l hn => by
  refine ⟨?_, ?_⟩
  ·
    simp only [KC]
    split <;> first | omega | rfl
  ·
    simp only [KC]
    split <;> first | omega | rfl
def cPoIn := ctD [pt, pts] fun al => .ret (.tup [.one (sIF 70 pinR al), .one (sIF 71 pinE al)])
def cCompare := ctD [dir, dir] fun al => .ret (iV .i64 (iF 72 compL al))
theorem cCompare_ok {ρ : Env} (h : Sees ρ KC 74) : CtOne Tryz.prog ρ 165 cCompare :=
  ctD_ok gCompare (fun _ => rfl) (fun al => by simp only [iV, bV, V.s0, V.val, V2.val, S.val, S0.val, iF_ev (s := 72) (f := compL) (fun l => by rw [(h 72 l (by decide)).1]; simp only [KC])]; try rfl)
def cSecV1 := ctD [sec] fun al => .ret (bV (bF 73 secL al))
theorem cSecV1_ok {ρ : Env} (h : Sees ρ KC 74) : CtOne Tryz.prog ρ 151 cSecV1 :=
  ctD_ok gSecV1 (fun _ => rfl) (fun al => by simp only [iV, bV, V.s0, V.val, V2.val, S.val, S0.val, bF_ev (s := 73) (f := secL) (fun l => by rw [(h 73 l (by decide)).2]; simp only [KC])]; try rfl)
def ctC : Ct := (165, cCompare) :: (151, cSecV1) :: ctB
theorem ctC_ok {ρ : Env} (h : Sees ρ KC 74) : CtOk Tryz.prog ρ ctC := .cons (cCompare_ok h) <| .cons (cSecV1_ok h) (ctB_ok (KC_KB h))
end Go.Proofs.YtbbjlleaofgddaaGreat
/- Chapter 38: the trees of sector.has, sector.Valid. -/
namespace Go.Proofs.YtbbjlleaofgddaaGreat
open Go.RowKit
def secs : Sh := .one (.sl secK)
-- term trHas: call Tryz.prog ctC (Lt.of []) 100 152 (symArgs 0 [sec, dir]) [] 0
def trHas : TT OpR :=
(.ite (.cmp .eql (.fn 72 (.i (.var 0) (.i (.var 1) (.i (.var 2) (.i (.var 3) .nil))))) (.lit (-1)))
 (.ite (.cmp .leq (.fn 72 (.i (.var 0) (.i (.var 1) (.i (.var 6) (.i (.var 7) .nil))))) (.lit 0))
 (.ret ((.v (.one (.z (.bool (.not (.cmp .leq (.fn 72 (.i (.var 2) (.i (.var 3) (.i (.var 6) (.i (.var 7) .nil))))) (.lit 0))))))), [], 4))
 (.ret ((.v (.one (.z (.bool (.lit false))))), [], 4)))
 (.ite (.cmp .eql (.fn 72 (.i (.var 0) (.i (.var 1) (.i (.var 2) (.i (.var 3) .nil))))) (.lit 1))
 (.ite (.cmp .leq (.fn 72 (.i (.var 0) (.i (.var 1) (.i (.var 6) (.i (.var 7) .nil))))) (.lit 0))
 (.ret ((.v (.one (.z (.bool (.lit true))))), [], 4))
 (.ret ((.v (.one (.z (.bool (.not (.cmp .leq (.fn 72 (.i (.var 2) (.i (.var 3) (.i (.var 6) (.i (.var 7) .nil))))) (.lit 0))))))), [], 4)))
 (.ret ((.v (.one (.z (.bool (.lit true))))), [], 4))))
-- end trHas
set_option maxRecDepth 100000 in
theorem trHas_is : T.norm 0 (call Tryz.prog ctC (Lt.of []) 100 152 (symArgs 0 [sec, dir]) [] 0) TT.ret = trHas := by kernel_rfl
theorem trHas_low : trHas.low 1000 = true := by kernel_rfl
end Go.Proofs.YtbbjlleaofgddaaGreat
/- Chapter 38: sector.has. -/
namespace Go.Proofs.YtbbjlleaofgddaaGreat
open Go.RowKit
def hasB (a b c d x y : Int) : Bool := if compI a b c d = -1 then decide (compI a b x y ≤ 0) && !decide (compI c d x y ≤ 0)
  else if compI a b c d = 1 then decide (compI a b x y ≤ 0) || !decide (compI c d x y ≤ 0) else true
def hasL (ds : List D) : Bool := hasB (iAt ds 0) (iAt ds 1) (iAt ds 2) (iAt ds 3) (iAt ds 6) (iAt ds 7)
theorem KCi72 (W : World) (ds l : List D) : (envOf KC W ds).fi 72 l = compL l := by simp only [envOf, KC]
theorem comp_four (a b c d : Int) : compL [.i a, .i b, .i c, .i d] = compI a b c d := rfl
theorem gHas : Gives Tryz.prog 152 [sec, dir] (fun ds => .bool (hasL ds)) := by
  refine GivesIf.all (fn_gives KC (by kernel_rfl) (fun ρ h => ctC_ok (Sees.of h 74)) (by kernel_rfl) trHas_is trHas_low (by decide) (fun W vals ds hr _ => ?_))
  simp only [trHas, TT.sat_ret, TT.sat_ite, TT.sat_ob, TT.sat_next, TT.sat_stuck, put_i, put_b, put_d, put_fi, put_fb, put_fd, Ob.ok, B.ev, E.ev, X.ev, AL.ev, cmp_t, cmp_f, arEv, V.plain, V2.plain, S.plain, S0.plain, V.val, V2.val, S.val, S0.val, bV, iV, List.all_cons, List.all_nil, Bool.and_true, Bool.and_self, envOf_i, envOf_b, envOf_d, List.map_cons, List.map_nil, true_and, Bool.not_eq_true', Bool.not_eq_false', Bool.not_not, Bool.and_eq_true, and_f, cell_lg, cell_lb, cell_lr, cmpP, val_i, val_b, val_d, aget, Nat.reduceBEq, beq_self_eq_true, Bool.false_eq_true, if_true, if_false, Nat.reduceLT, Nat.reduceSub, Nat.sub_self, Nat.lt_irrefl, KCi72, comp_four]
  simp only [hasL, hasB]
  refine ⟨fun h => ⟨fun h' => ?_, fun h' => ?_⟩, fun h => ⟨fun h1 => ⟨fun h' => ?_, fun h' => ?_⟩, fun h1 => ?_⟩⟩
  all_goals simp [*, cmpEv]
def KD : Interp where
  fi n l := KC.fi n l
  fb n l := match n with | 74 => hasL l | n => KC.fb n l
  fd _ _ := []
theorem KD_KC {ρ : Env} (h : Sees ρ KD 75) : Sees ρ KC 74 := h.trans (by decide) fun n l hn => by
  refine ⟨?_, ?_⟩
  ·
    rfl
  ·
    simp only [KD]
    split <;> first | omega | rfl
def cHas := ctD [sec, dir] fun al => .ret (bV (bF 74 hasL al))
theorem cHas_ok {ρ : Env} (h : Sees ρ KD 75) : CtOne Tryz.prog ρ 152 cHas :=
  ctD_ok gHas (fun _ => rfl) (fun al => by simp only [iV, bV, V.s0, V.val, V2.val, S.val, S0.val, bF_ev (s := 74) (f := hasL) (fun l => by rw [(h 74 l (by decide)).2]; simp only [KD])]; try rfl)
def ctD1 : Ct := (152, cHas) :: ctC
theorem ctD1_ok {ρ : Env} (h : Sees ρ KD 75) : CtOk Tryz.prog ρ ctD1 := .cons (cHas_ok h) (ctC_ok (KD_KC h))
end Go.Proofs.YtbbjlleaofgddaaGreat
/- Chapter 38: the tree of sector.Valid. -/
namespace Go.Proofs.YtbbjlleaofgddaaGreat
open Go.RowKit
-- term trSecL: call Tryz.prog ctD1 (Lt.of []) 100 136 (symArgs 0 [secs]) [] 0
def trSecL : TT OpR :=
(.loop 0 1000 ⟨[(0, (.lit 0))], [], []⟩
 (.ite (.cmp .lss (.var 1000) (.len (.var 0)))
 (.ob (.tru (.cmp .leq (.lit 0) (.var 1000)))
 (.ob (.tru (.cmp .lss (.var 1000) (.len (.var 0))))
 (.ite (.not (.fn 73 (.i (.rd (.var 0) (.var 1000) 0) (.i (.rd (.var 0) (.var 1000) 1) (.i (.rd (.var 0) (.var 1000) 2) (.i (.rd (.var 0) (.var 1000) 3) (.i (.rd (.var 0) (.var 1000) 4) (.i (.rd (.var 0) (.var 1000) 5) .nil))))))))
 (.ret ((.v (.one (.z (.bool (.lit false))))), [], 4))
 (.ob (.tru (.lit true))
 (.ob (.tru (.cmp .leq (.lit 0) (.var 1000)))
 (.ob (.tru (.cmp .leq (.var 1000) (.len (.var 0))))
 (.loop 1 3000 ⟨[(0, (.lit 0))], [], []⟩
 (.ite (.cmp .lss (.var 3000) (.len (.sub (.var 0) (.lit 0) (.var 1000))))
 (.ob (.tru (.cmp .leq (.lit 0) (.var 3000)))
 (.ob (.tru (.cmp .lss (.var 3000) (.len (.sub (.var 0) (.lit 0) (.var 1000)))))
 (.ite (.fn 74 (.i (.rd (.var 0) (.var 1000) 0) (.i (.rd (.var 0) (.var 1000) 1) (.i (.rd (.var 0) (.var 1000) 2) (.i (.rd (.var 0) (.var 1000) 3) (.i (.rd (.var 0) (.var 1000) 4) (.i (.rd (.var 0) (.var 1000) 5) (.i (.rd (.sub (.var 0) (.lit 0) (.var 1000)) (.var 3000) 0) (.i (.rd (.sub (.var 0) (.lit 0) (.var 1000)) (.var 3000) 1) .nil)))))))))
 (.ret ((.v (.one (.z (.bool (.lit false))))), [], 4))
 (.ite (.fn 74 (.i (.rd (.sub (.var 0) (.lit 0) (.var 1000)) (.var 3000) 0) (.i (.rd (.sub (.var 0) (.lit 0) (.var 1000)) (.var 3000) 1) (.i (.rd (.sub (.var 0) (.lit 0) (.var 1000)) (.var 3000) 2) (.i (.rd (.sub (.var 0) (.lit 0) (.var 1000)) (.var 3000) 3) (.i (.rd (.sub (.var 0) (.lit 0) (.var 1000)) (.var 3000) 4) (.i (.rd (.sub (.var 0) (.lit 0) (.var 1000)) (.var 3000) 5) (.i (.rd (.var 0) (.var 1000) 0) (.i (.rd (.var 0) (.var 1000) 1) .nil)))))))))
 (.ret ((.v (.one (.z (.bool (.lit false))))), [], 4))
 (.next 1 ⟨[(0, (.ar .add .i64 (.var 3000) (.lit 1)))], [], []⟩)))))
 (.next 0 ⟨[(0, (.ar .add .i64 (.var 1000) (.lit 1)))], [], []⟩)))))))))
 (.ret ((.v (.one (.z (.bool (.cmp .leq (.len (.var 0)) (.lit 12)))))), [], 4))))
-- end trSecL
set_option maxRecDepth 100000 in
theorem trSecL_is : T.norm 0 (call Tryz.prog ctD1 (Lt.of []) 100 136 (symArgs 0 [secs]) [] 0) TT.ret = trSecL := by kernel_rfl
theorem trSecL_low : trSecL.low 1000 = true := by kernel_rfl
end Go.Proofs.YtbbjlleaofgddaaGreat
/- Chapter 38: sector.Valid. -/
namespace Go.Proofs.YtbbjlleaofgddaaGreat
open Go.RowKit
theorem subP_len (r : Rows) {b : Nat} (h : b ≤ r.length) : (subR r 0 (b : Int)).length = b := by
  simp only [subR, List.length_take, List.length_drop]
  simp
  omega
theorem subP_lg (r : Rows) {b i : Nat} (j : Nat) (h : i < b) : lg (subR r 0 (b : Int)) (i : Int) j = lg r (i : Int) j := by
  have : cellAt (subR r 0 (b : Int)) (i : Int) j = cellAt r (i : Int) j := by
    simp only [cellAt, subR]
    simp [List.getD_eq_getElem?_getD, List.getElem?_take, h]
  rw [lg, lg, this]
def secRow (r : Rows) (i : Nat) : Bool := secB (lg r i 0) (lg r i 1) (lg r i 2) (lg r i 3) (lg r i 4) (lg r i 5)
def hasRow (r : Rows) (i k : Nat) : Bool := hasB (lg r i 0) (lg r i 1) (lg r i 2) (lg r i 3) (lg r k 0) (lg r k 1) || hasB (lg r k 0) (lg r k 1) (lg r k 2) (lg r k 3) (lg r i 0) (lg r i 1)
def innN (r : Rows) (i : Nat) : Nat → Nat → Bool
  | 0, _ => true
  | f + 1, k => !hasRow r i k && innN r i f (k + 1)
def secN (r : Rows) : Nat → Nat → Bool
  | 0, _ => true
  | f + 1, i => (secRow r i && innN r i i 0) && secN r f (i + 1)
def secsB (r : Rows) : Bool := secN r r.length 0 && decide (r.length ≤ 12)
def secsL (ds : List D) : Bool := secsB (rAt ds 0)
theorem KDb73 (W : World) (ds l : List D) : (envOf KD W ds).fb 73 l = secL l := by simp only [envOf, KD, KC]
theorem KDb74 (W : World) (ds l : List D) : (envOf KD W ds).fb 74 l = hasL l := by simp only [envOf, KD]
theorem sec_six (a b c d e f : Int) : secL [.i a, .i b, .i c, .i d, .i e, .i f] = secB a b c d e f := rfl
theorem has_eight (a b c d e f x y : Int) : hasL [.i a, .i b, .i c, .i d, .i e, .i f, .i x, .i y] = hasB a b c d x y := rfl
theorem secs_len {W : World} {vals : List Value} {ds : List D} {sh : List Sh} (h : repSh W (secs :: sh) vals ds) : (rAt ds 0).length ≤ 281474976710656 := by
  obtain ⟨v, vs', d, ds', rfl, rfl, ⟨d, rfl, h⟩, _⟩ := h
  rw [rep_sl] at h
  obtain ⟨r, rfl, a, n, c, _, hs, _⟩ := h
  have e1 := hs.len
  have e2 := hs.big
  show r.length ≤ _
  omega
theorem gSecs : Gives Tryz.prog 136 [secs] (fun ds => .bool (secsL ds)) := by
  refine GivesIf.all (fn_gives KD (by kernel_rfl) (fun ρ h => ctD1_ok (Sees.of h 75)) (by kernel_rfl) trSecL_is trSecL_low (by decide) (fun W vals ds hr _ => ?_))
  have hlen := secs_len hr
  simp only [trSecL]
  generalize hr0 : rAt ds 0 = r at hlen
  have hP : secsL ds = secsB r := by rw [secsL, hr0]
  rw [hP]
  refine TT.sat_loop (fun v => ∃ i : Nat, v.i 0 = i ∧ i ≤ r.length ∧ (secN r (r.length - i) i && decide (r.length ≤ 12)) = secsB r) (fun v => r.length - (v.i 0).toNat)
    ⟨0, by simp [val_i, aget, E.ev], by omega, rfl⟩ (fun v hv => ?_)
  obtain ⟨i, i0, i1, i2⟩ := hv
  simp only [TT.sat_ret, TT.sat_ite, TT.sat_ob, TT.sat_next, TT.sat_stuck, put_i, put_b, put_d, put_fi, put_fb, put_fd, Ob.ok, B.ev, E.ev, X.ev, AL.ev, cmp_t, cmp_f, arEv, V.plain, V2.plain, S.plain, S0.plain, V.val, V2.val, S.val, S0.val, bV, iV, List.all_cons, List.all_nil, Bool.and_true, Bool.and_self, envOf_i, envOf_b, envOf_d, List.map_cons, List.map_nil, true_and, Bool.not_eq_true', Bool.not_eq_false', Bool.not_not, Bool.and_eq_true, and_f, cell_lg, cell_lb, cell_lr, cmpP, val_i, val_b, val_d, aget, Nat.reduceBEq, beq_self_eq_true, Bool.false_eq_true, if_true, if_false, Nat.reduceLT, Nat.reduceSub, Nat.sub_self, Nat.lt_irrefl, i0, hr0, KDb73, KDb74, sec_six, has_eight]
  refine ⟨fun hc => ?_, fun hc => ?_⟩
  · have hi : i < r.length := by omega
    obtain ⟨f, hf⟩ : ∃ f, r.length - i = f + 1 := ⟨r.length - i - 1, by omega⟩
    rw [hf, secN] at i2
    have hsub := subP_len r (show i ≤ r.length by omega)
    refine ⟨by omega, by omega, fun p => ?_, fun p => ⟨by omega, by omega, ?_⟩⟩
    · rw [← i2, secRow, p]; rfl
    refine TT.sat_loop (fun v => ∃ k : Nat, v.i 0 = k ∧ k ≤ i ∧ ((innN r i (i - k) k && secN r f (i + 1)) && decide (r.length ≤ 12)) = secsB r) (fun v => i - (v.i 0).toNat)
      ⟨0, by simp [val_i, aget, E.ev], by omega, by rw [← i2, secRow, p]; rfl⟩ (fun u hu => ?_)
    obtain ⟨k, k0, k1, k2⟩ := hu
    simp only [TT.sat_ret, TT.sat_ite, TT.sat_ob, TT.sat_next, TT.sat_stuck, put_i, put_b, put_d, put_fi, put_fb, put_fd, Ob.ok, B.ev, E.ev, X.ev, AL.ev, cmp_t, cmp_f, arEv, V.plain, V2.plain, S.plain, S0.plain, V.val, V2.val, S.val, S0.val, bV, iV, List.all_cons, List.all_nil, Bool.and_true, Bool.and_self, envOf_i, envOf_b, envOf_d, List.map_cons, List.map_nil, true_and, Bool.not_eq_true', Bool.not_eq_false', Bool.not_not, Bool.and_eq_true, and_f, cell_lg, cell_lb, cell_lr, cmpP, val_i, val_b, val_d, aget, Nat.reduceBEq, beq_self_eq_true, Bool.false_eq_true, if_true, if_false, Nat.reduceLT, Nat.reduceSub, Nat.sub_self, Nat.lt_irrefl, i0, k0, hr0, hsub, KDb73, KDb74, sec_six, has_eight]
    refine ⟨fun hk => ?_, fun hk => ?_⟩
    · have hki : k < i := by omega
      obtain ⟨g, hg⟩ : ∃ g, i - k = g + 1 := ⟨i - k - 1, by omega⟩
      rw [hg, innN, hasRow] at k2
      simp only [subP_lg r _ hki]
      refine ⟨by omega, by omega, fun q => ?_, fun q => ⟨fun q' => ?_, fun q' => ⟨⟨k + 1, ?_, by omega, ?_⟩, ?_⟩⟩⟩
      · rw [← k2, q]; rfl
      · rw [← k2, q, q']; rfl
      · rw [wrap_in _ (by omega) (by omega)]; rfl
      · rw [show i - (k + 1) = g by omega, ← k2, q, q']; rfl
      · rw [wrap_in _ (by omega) (by omega)]; omega
    · have : i - k = 0 := by omega
      rw [this, innN, Bool.true_and] at k2
      refine ⟨⟨i + 1, ?_, by omega, ?_⟩, ?_⟩
      · rw [wrap_in _ (by omega) (by omega)]; rfl
      · rw [show r.length - (i + 1) = f by omega]; exact k2
      · rw [wrap_in _ (by omega) (by omega)]; omega
  · have : r.length - i = 0 := by omega
    rw [this, secN, Bool.true_and] at i2
    rw [← i2]
    congr 1
    rw [Bool.eq_iff_iff, cmp_t, decide_eq_true_eq]
    simp only [cmpP]
    omega
def KE : Interp where
  fi n l := KD.fi n l
  fb n l := match n with | 75 => secsL l | n => KD.fb n l
  fd _ _ := []
theorem KE_KD {ρ : Env} (h : Sees ρ KE 76) : Sees ρ KD 75 := h.trans (by decide) fun n l hn => by
  refine ⟨?_, ?_⟩
  ·
    rfl
  ·
    simp only [KE]
    split <;> first | omega | rfl
def cSecs := ctD [secs] fun al => .ret (bV (bF 75 secsL al))
theorem cSecs_ok {ρ : Env} (h : Sees ρ KE 76) : CtOne Tryz.prog ρ 136 cSecs :=
  ctD_ok gSecs (fun _ => rfl) (fun al => by simp only [iV, bV, V.s0, V.val, V2.val, S.val, S0.val, bF_ev (s := 75) (f := secsL) (fun l => by rw [(h 75 l (by decide)).2]; simp only [KE])]; try rfl)
def ctE : Ct := (136, cSecs) :: ctD1
theorem ctE_ok {ρ : Env} (h : Sees ρ KE 76) : CtOk Tryz.prog ρ ctE := .cons (cSecs_ok h) (ctD1_ok (KE_KD h))
end Go.Proofs.YtbbjlleaofgddaaGreat
/- Chapter 38: the trees of feature.Valid and of poly.Rect. -/
namespace Go.Proofs.YtbbjlleaofgddaaGreat
open Go.RowKit
def feat : Sh := .agg [.int .i64, .int .i64, .int .i64, .int .i64, .int .i64, .sl ptK, .int .i64, .int .i64, .sl secK]
-- term trFeatV: call Tryz.prog ctE (Lt.of []) 100 125 (symArgs 0 [feat]) [] 0
def trFeatV : TT OpR :=
(.ite (.cmp .lss (.var 0) (.lit 1))
 (.ret ((.v (.one (.z (.bool (.lit false))))), [], 1))
 (.ite (.cmp .gtr (.var 0) (.lit 100000))
 (.ret ((.v (.one (.z (.bool (.lit false))))), [], 1))
 (.ite (.cmp .lss (.var 7) (.lit 0))
 (.ret ((.v (.one (.z (.bool (.lit false))))), [], 1))
 (.ite (.cmp .gtr (.var 7) (.lit 999))
 (.ret ((.v (.one (.z (.bool (.lit false))))), [], 1))
 (.ite (.cmp .lss (.var 6) (.lit 0))
 (.ret ((.v (.one (.z (.bool (.lit false))))), [], 1))
 (.ite (.cmp .gtr (.var 6) (.lit 100000))
 (.ret ((.v (.one (.z (.bool (.lit false))))), [], 1))
 (.ite (.cmp .lss (.var 4) (.lit 0))
 (.ret ((.v (.one (.z (.bool (.lit false))))), [], 1))
 (.ite (.cmp .gtr (.var 4) (.lit 100000))
 (.ret ((.v (.one (.z (.bool (.lit false))))), [], 1))
 (.ite (.cmp .eql (.var 1) (.lit 1))
 (.ite (.cmp .eql (.var 1) (.lit 1))
 (.ite (.fn 3 (.i (.var 2) (.i (.var 3) .nil)))
 (.ite (.fn 3 (.i (.ar .sub .i64 (.var 2) (.var 4)) (.i (.ar .sub .i64 (.var 3) (.var 4)) .nil)))
 (.ite (.fn 3 (.i (.ar .add .i64 (.var 2) (.var 4)) (.i (.ar .add .i64 (.var 3) (.var 4)) .nil)))
 (.ite (.cmp .eql (.len (.var 5)) (.lit 0))
 (.ret ((.v (.one (.z (.bool (.cmp .eql (.len (.var 8)) (.lit 0)))))), [], 2))
 (.ret ((.v (.one (.z (.bool (.lit false))))), [], 2)))
 (.ret ((.v (.one (.z (.bool (.lit false))))), [], 2)))
 (.ret ((.v (.one (.z (.bool (.lit false))))), [], 2)))
 (.ret ((.v (.one (.z (.bool (.lit false))))), [], 1)))
 (.ite (.cmp .eql (.var 1) (.lit 6))
 (.ite (.cmp .gtr (.var 6) (.lit 0))
 (.ret ((.v (.one (.z (.bool (.lit false))))), [], 1))
 (.ite (.fn 69 (.x (.var 5) .nil))
 (.ite (.and (.cmp .eql (.var 2) (.lit 0)) (.cmp .eql (.var 3) (.lit 0)))
 (.ite (.cmp .eql (.var 4) (.lit 0))
 (.ret ((.v (.one (.z (.bool (.cmp .eql (.len (.var 8)) (.lit 0)))))), [], 1))
 (.ret ((.v (.one (.z (.bool (.lit false))))), [], 1)))
 (.ret ((.v (.one (.z (.bool (.lit false))))), [], 1)))
 (.ret ((.v (.one (.z (.bool (.lit false))))), [], 1))))
 (.ite (.cmp .eql (.var 1) (.lit 3))
 (.ite (.fn 69 (.x (.var 5) .nil))
 (.ite (.and (.cmp .eql (.var 2) (.lit 0)) (.cmp .eql (.var 3) (.lit 0)))
 (.ite (.cmp .eql (.var 4) (.lit 0))
 (.ret ((.v (.one (.z (.bool (.cmp .eql (.len (.var 8)) (.lit 0)))))), [], 1))
 (.ret ((.v (.one (.z (.bool (.lit false))))), [], 1)))
 (.ret ((.v (.one (.z (.bool (.lit false))))), [], 1)))
 (.ret ((.v (.one (.z (.bool (.lit false))))), [], 1)))
 (.ite (.cmp .eql (.var 1) (.lit 4))
 (.ite (.fn 3 (.i (.var 2) (.i (.var 3) .nil)))
 (.ite (.fn 75 (.x (.var 8) .nil))
 (.ite (.cmp .eql (.var 4) (.lit 0))
 (.ite (.cmp .eql (.var 6) (.lit 0))
 (.ret ((.v (.one (.z (.bool (.cmp .eql (.len (.var 5)) (.lit 0)))))), [], 1))
 (.ret ((.v (.one (.z (.bool (.lit false))))), [], 1)))
 (.ret ((.v (.one (.z (.bool (.lit false))))), [], 1)))
 (.ret ((.v (.one (.z (.bool (.lit false))))), [], 1)))
 (.ret ((.v (.one (.z (.bool (.lit false))))), [], 1)))
 (.ret ((.v (.one (.z (.bool (.lit false))))), [], 1))))))
 (.ite (.cmp .eql (.var 1) (.lit 2))
 (.ite (.cmp .eql (.var 1) (.lit 2))
 (.ite (.fn 3 (.i (.var 2) (.i (.var 3) .nil)))
 (.ite (.fn 3 (.i (.ar .sub .i64 (.var 2) (.var 4)) (.i (.ar .sub .i64 (.var 3) (.var 4)) .nil)))
 (.ite (.fn 3 (.i (.ar .add .i64 (.var 2) (.var 4)) (.i (.ar .add .i64 (.var 3) (.var 4)) .nil)))
 (.ite (.cmp .eql (.len (.var 5)) (.lit 0))
 (.ret ((.v (.one (.z (.bool (.cmp .eql (.len (.var 8)) (.lit 0)))))), [], 2))
 (.ret ((.v (.one (.z (.bool (.lit false))))), [], 2)))
 (.ret ((.v (.one (.z (.bool (.lit false))))), [], 2)))
 (.ret ((.v (.one (.z (.bool (.lit false))))), [], 2)))
 (.ret ((.v (.one (.z (.bool (.lit false))))), [], 1)))
 (.ite (.cmp .eql (.var 1) (.lit 6))
 (.ite (.cmp .gtr (.var 6) (.lit 0))
 (.ret ((.v (.one (.z (.bool (.lit false))))), [], 1))
 (.ite (.fn 69 (.x (.var 5) .nil))
 (.ite (.and (.cmp .eql (.var 2) (.lit 0)) (.cmp .eql (.var 3) (.lit 0)))
 (.ite (.cmp .eql (.var 4) (.lit 0))
 (.ret ((.v (.one (.z (.bool (.cmp .eql (.len (.var 8)) (.lit 0)))))), [], 1))
 (.ret ((.v (.one (.z (.bool (.lit false))))), [], 1)))
 (.ret ((.v (.one (.z (.bool (.lit false))))), [], 1)))
 (.ret ((.v (.one (.z (.bool (.lit false))))), [], 1))))
 (.ite (.cmp .eql (.var 1) (.lit 3))
 (.ite (.fn 69 (.x (.var 5) .nil))
 (.ite (.and (.cmp .eql (.var 2) (.lit 0)) (.cmp .eql (.var 3) (.lit 0)))
 (.ite (.cmp .eql (.var 4) (.lit 0))
 (.ret ((.v (.one (.z (.bool (.cmp .eql (.len (.var 8)) (.lit 0)))))), [], 1))
 (.ret ((.v (.one (.z (.bool (.lit false))))), [], 1)))
 (.ret ((.v (.one (.z (.bool (.lit false))))), [], 1)))
 (.ret ((.v (.one (.z (.bool (.lit false))))), [], 1)))
 (.ite (.cmp .eql (.var 1) (.lit 4))
 (.ite (.fn 3 (.i (.var 2) (.i (.var 3) .nil)))
 (.ite (.fn 75 (.x (.var 8) .nil))
 (.ite (.cmp .eql (.var 4) (.lit 0))
 (.ite (.cmp .eql (.var 6) (.lit 0))
 (.ret ((.v (.one (.z (.bool (.cmp .eql (.len (.var 5)) (.lit 0)))))), [], 1))
 (.ret ((.v (.one (.z (.bool (.lit false))))), [], 1)))
 (.ret ((.v (.one (.z (.bool (.lit false))))), [], 1)))
 (.ret ((.v (.one (.z (.bool (.lit false))))), [], 1)))
 (.ret ((.v (.one (.z (.bool (.lit false))))), [], 1)))
 (.ret ((.v (.one (.z (.bool (.lit false))))), [], 1))))))
 (.ite (.cmp .eql (.var 1) (.lit 5))
 (.ite (.fn 3 (.i (.var 2) (.i (.var 3) .nil)))
 (.ite (.fn 3 (.i (.ar .sub .i64 (.var 2) (.var 4)) (.i (.ar .sub .i64 (.var 3) (.var 4)) .nil)))
 (.ite (.fn 3 (.i (.ar .add .i64 (.var 2) (.var 4)) (.i (.ar .add .i64 (.var 3) (.var 4)) .nil)))
 (.ite (.cmp .eql (.len (.var 5)) (.lit 0))
 (.ret ((.v (.one (.z (.bool (.cmp .eql (.len (.var 8)) (.lit 0)))))), [], 2))
 (.ret ((.v (.one (.z (.bool (.lit false))))), [], 2)))
 (.ret ((.v (.one (.z (.bool (.lit false))))), [], 2)))
 (.ret ((.v (.one (.z (.bool (.lit false))))), [], 2)))
 (.ret ((.v (.one (.z (.bool (.lit false))))), [], 1)))
 (.ite (.cmp .eql (.var 1) (.lit 6))
 (.ite (.cmp .gtr (.var 6) (.lit 0))
 (.ret ((.v (.one (.z (.bool (.lit false))))), [], 1))
 (.ite (.fn 69 (.x (.var 5) .nil))
 (.ite (.and (.cmp .eql (.var 2) (.lit 0)) (.cmp .eql (.var 3) (.lit 0)))
 (.ite (.cmp .eql (.var 4) (.lit 0))
 (.ret ((.v (.one (.z (.bool (.cmp .eql (.len (.var 8)) (.lit 0)))))), [], 1))
 (.ret ((.v (.one (.z (.bool (.lit false))))), [], 1)))
 (.ret ((.v (.one (.z (.bool (.lit false))))), [], 1)))
 (.ret ((.v (.one (.z (.bool (.lit false))))), [], 1))))
 (.ite (.cmp .eql (.var 1) (.lit 3))
 (.ite (.fn 69 (.x (.var 5) .nil))
 (.ite (.and (.cmp .eql (.var 2) (.lit 0)) (.cmp .eql (.var 3) (.lit 0)))
 (.ite (.cmp .eql (.var 4) (.lit 0))
 (.ret ((.v (.one (.z (.bool (.cmp .eql (.len (.var 8)) (.lit 0)))))), [], 1))
 (.ret ((.v (.one (.z (.bool (.lit false))))), [], 1)))
 (.ret ((.v (.one (.z (.bool (.lit false))))), [], 1)))
 (.ret ((.v (.one (.z (.bool (.lit false))))), [], 1)))
 (.ite (.cmp .eql (.var 1) (.lit 4))
 (.ite (.fn 3 (.i (.var 2) (.i (.var 3) .nil)))
 (.ite (.fn 75 (.x (.var 8) .nil))
 (.ite (.cmp .eql (.var 4) (.lit 0))
 (.ite (.cmp .eql (.var 6) (.lit 0))
 (.ret ((.v (.one (.z (.bool (.cmp .eql (.len (.var 5)) (.lit 0)))))), [], 1))
 (.ret ((.v (.one (.z (.bool (.lit false))))), [], 1)))
 (.ret ((.v (.one (.z (.bool (.lit false))))), [], 1)))
 (.ret ((.v (.one (.z (.bool (.lit false))))), [], 1)))
 (.ret ((.v (.one (.z (.bool (.lit false))))), [], 1)))
 (.ret ((.v (.one (.z (.bool (.lit false))))), [], 1))))))))))))))))
-- end trFeatV
set_option maxRecDepth 100000 in
theorem trFeatV_is : T.norm 0 (call Tryz.prog ctE (Lt.of []) 100 125 (symArgs 0 [feat]) [] 0) TT.ret = trFeatV := by kernel_rfl
theorem trFeatV_low : trFeatV.low 1000 = true := by kernel_rfl
end Go.Proofs.YtbbjlleaofgddaaGreat
/- Chapter 38: feature.Valid. -/
namespace Go.Proofs.YtbbjlleaofgddaaGreat
open Go.RowKit
def featP (id kind x y rad : Int) (area : Rows) (depth sym : Int) (sc : Rows) : Prop :=
  (1 ≤ id ∧ id ≤ 100000) ∧ (0 ≤ sym ∧ sym ≤ 999) ∧ (0 ≤ depth ∧ depth ≤ 100000) ∧ (0 ≤ rad ∧ rad ≤ 100000) ∧
  (((kind = 1 ∨ kind = 2 ∨ kind = 5) ∧ placeB x y = true ∧ placeB (x - rad) (y - rad) = true ∧ placeB (x + rad) (y + rad) = true ∧ (area.length : Int) = 0 ∧ (sc.length : Int) = 0) ∨
   ((kind = 3 ∨ (kind = 6 ∧ depth = 0)) ∧ polyB area = true ∧ x = 0 ∧ y = 0 ∧ rad = 0 ∧ (sc.length : Int) = 0) ∨
   (kind = 4 ∧ placeB x y = true ∧ secsB sc = true ∧ rad = 0 ∧ depth = 0 ∧ (area.length : Int) = 0))
instance (id kind x y rad : Int) (area : Rows) (depth sym : Int) (sc : Rows) : Decidable (featP id kind x y rad area depth sym sc) := by unfold featP; infer_instance
def featB (id kind x y rad : Int) (area : Rows) (depth sym : Int) (sc : Rows) : Bool := decide (featP id kind x y rad area depth sym sc)
def featL (ds : List D) : Bool := featB (iAt ds 0) (iAt ds 1) (iAt ds 2) (iAt ds 3) (iAt ds 4) (rAt ds 5) (iAt ds 6) (iAt ds 7) (rAt ds 8)
theorem KEb3 (W : World) (ds l : List D) : (envOf KE W ds).fb 3 l = placeL l := by simp only [envOf, KE, KD, KC, KB, KA, K9, K8, K7, K6, K5, K]
theorem KEb69 (W : World) (ds l : List D) : (envOf KE W ds).fb 69 l = polyL l := by simp only [envOf, KE, KD, KC, KB]
theorem KEb75 (W : World) (ds l : List D) : (envOf KE W ds).fb 75 l = secsL l := by simp only [envOf, KE]
theorem secs_one (r : Rows) : secsL [.l r] = secsB r := rfl
set_option maxHeartbeats 2000000 in
theorem gFeatV : Gives Tryz.prog 125 [feat] (fun ds => .bool (featL ds)) := by
  refine GivesIf.all (fn_gives KE (by kernel_rfl) (fun ρ h => ctE_ok (Sees.of h 76)) (by kernel_rfl) trFeatV_is trFeatV_low (by decide) (fun W vals ds hr _ => ?_))
  simp only [trFeatV, TT.sat_ret, TT.sat_ite, TT.sat_ob, TT.sat_next, TT.sat_stuck, put_i, put_b, put_d, put_fi, put_fb, put_fd, Ob.ok, B.ev, E.ev, X.ev, AL.ev, cmp_t, cmp_f, arEv, V.plain, V2.plain, S.plain, S0.plain, V.val, V2.val, S.val, S0.val, bV, iV, List.all_cons, List.all_nil, Bool.and_true, Bool.and_self, envOf_i, envOf_b, envOf_d, List.map_cons, List.map_nil, true_and, Bool.not_eq_true', Bool.not_eq_false', Bool.not_not, Bool.and_eq_true, and_f, cell_lg, cell_lb, cell_lr, cmpP, val_i, val_b, val_d, aget, Nat.reduceBEq, beq_self_eq_true, Bool.false_eq_true, if_true, if_false, Nat.reduceLT, Nat.reduceSub, Nat.sub_self, Nat.lt_irrefl, KEb3, KEb69, KEb75, place_two, poly_one, secs_one]
  simp only [featL, featB]
  generalize iAt ds 0 = id
  generalize iAt ds 1 = kind
  generalize iAt ds 2 = x
  generalize iAt ds 3 = y
  generalize iAt ds 4 = rad
  generalize rAt ds 5 = area
  generalize iAt ds 6 = depth
  generalize iAt ds 7 = sym
  generalize rAt ds 8 = sc
  have W1 : placeB x y = true → 0 ≤ rad → rad ≤ 100000 → placeB (IntKind.i64.wrap (x - rad)) (IntKind.i64.wrap (y - rad)) = placeB (x - rad) (y - rad) := fun h _ _ => by
    rw [placeB_iff] at h; rw [wrap_in (x - rad) (by omega) (by omega), wrap_in (y - rad) (by omega) (by omega)]
  have W2 : placeB x y = true → 0 ≤ rad → rad ≤ 100000 → placeB (IntKind.i64.wrap (x + rad)) (IntKind.i64.wrap (y + rad)) = placeB (x + rad) (y + rad) := fun h _ _ => by
    rw [placeB_iff] at h; rw [wrap_in (x + rad) (by omega) (by omega), wrap_in (y + rad) (by omega) (by omega)]
  repeat' (first | (intro h; skip) | (refine And.intro ?_ ?_))
  all_goals (refine congrArg Value.bool ?_; rw [Bool.eq_iff_iff]; simp only [cmp_t, cmpP, decide_eq_true_eq, Bool.false_eq_true, false_iff, featP])
  all_goals clear hr
  all_goals grind
def KF : Interp where
  fi n l := KE.fi n l
  fb n l := match n with | 76 => featL l | n => KE.fb n l
  fd _ _ := []
theorem KF_KE {ρ : Env} (h : Sees ρ KF 77) : Sees ρ KE 76 := h.trans (by decide) fun n l hn => by
  refine ⟨?_, ?_⟩
  ·
    rfl
  ·
    simp only [KF]
    split <;> first | omega | rfl
def cFeatV := ctD [feat] fun al => .ret (bV (bF 76 featL al))
theorem cFeatV_ok {ρ : Env} (h : Sees ρ KF 77) : CtOne Tryz.prog ρ 125 cFeatV :=
  ctD_ok gFeatV (fun _ => rfl) (fun al => by simp only [iV, bV, V.s0, V.val, V2.val, S.val, S0.val, bF_ev (s := 76) (f := featL) (fun l => by rw [(h 76 l (by decide)).2]; simp only [KF])]; try rfl)
theorem KF_K {ρ : Env} (h : Sees ρ KF 77) : Sees ρ K 30 := h.trans (by decide) fun n l hn => by
  have e : n < 30 := hn
  refine ⟨?_, ?_⟩
  · simp only [KF, KE, KD, KC, KB, KA, K9, K8, K7, K6, K5]
    (repeat' split) <;> first | omega | rfl
  · simp only [KF, KE, KD, KC, KB, KA, K9, K8, K7, K6, K5]
    (repeat' split) <;> first | omega | rfl
def ctF : Ct := (125, cFeatV) :: ctE
theorem ctF_ok {ρ : Env} (h : Sees ρ KF 77) : CtOk Tryz.prog ρ ctF := .cons (cFeatV_ok h) <| (ctE_ok (KF_KE h))
end Go.Proofs.YtbbjlleaofgddaaGreat
/- Chapter 38: the trees of passage.Near, poly.Rect, feature.Covers. -/
namespace Go.Proofs.YtbbjlleaofgddaaGreat
open Go.RowKit
end Go.Proofs.YtbbjlleaofgddaaGreat
/- Chapter 38: passage.Near, feature.Covers. -/
namespace Go.Proofs.YtbbjlleaofgddaaGreat
open Go.RowKit
def besN (r a : Rows) (k off : Int) : Nat → Nat → Bool
  | 0, _ => false
  | f + 1, i => closeR [.i (lg r k 0), .i (lg r k 1), .i (lg r k 2), .i (lg r k 3), .i (lg a (prv a.length i) 0), .i (lg a (prv a.length i) 1), .i (lg a i 0), .i (lg a i 1), .i off] || besN r a k off f (i + 1)
def nearPO (ds : List D) : Bool := psgB (iAt ds 0) (iAt ds 1) (iAt ds 2) (rAt ds 3) && (decide (0 ≤ iAt ds 4 ∧ iAt ds 4 < (rAt ds 3).length) && featB (iAt ds 5) (iAt ds 6) (iAt ds 7) (iAt ds 8) (iAt ds 9) (rAt ds 10) (iAt ds 11) (iAt ds 12) (rAt ds 13))
def nearX (r : Rows) (k off kind x y rad : Int) (area : Rows) : Bool :=
  if kind = 4 then false else if kind = 3 ∨ kind = 6 then decide (0 ≤ pinR [.i (lg r k 0), .i (lg r k 1), .l area]) || besN r area k off area.length 0
  else nearR [.i x, .i y, .i (lg r k 0), .i (lg r k 1), .i (lg r k 2), .i (lg r k 3), .i (rad + off)]
def nearXE (r : Rows) (k off kind x y rad : Int) : Int :=
  if kind = 4 ∨ kind = 3 ∨ kind = 6 then 0 else nearE [.i x, .i y, .i (lg r k 0), .i (lg r k 1), .i (lg r k 2), .i (lg r k 3), .i (rad + off)]
def nearPR (ds : List D) : Bool := nearPO ds && nearX (rAt ds 3) (iAt ds 4) (iAt ds 2) (iAt ds 6) (iAt ds 7) (iAt ds 8) (iAt ds 9) (rAt ds 10)
def nearPE (ds : List D) : Int := if nearPO ds then nearXE (rAt ds 3) (iAt ds 4) (iAt ds 2) (iAt ds 6) (iAt ds 7) (iAt ds 8) (iAt ds 9) else 1
theorem KFb20 (W : World) (ds l : List D) : (envOf KF W ds).fb 20 l = psgL l := by simp only [envOf, KF, KE, KD, KC, KB, KA, K9, K8, K7, K6, K5, K]
theorem KFb76 (W : World) (ds l : List D) : (envOf KF W ds).fb 76 l = featL l := by simp only [envOf, KF]
theorem KFi70 (W : World) (ds l : List D) : (envOf KF W ds).fi 70 l = pinR l := by simp only [envOf, KF, KE, KD, KC]
theorem KFi71 (W : World) (ds l : List D) : (envOf KF W ds).fi 71 l = pinE l := by simp only [envOf, KF, KE, KD, KC]
theorem KFb8 (W : World) (ds l : List D) : (envOf KF W ds).fb 8 l = closeR l := by simp only [envOf, KF, KE, KD, KC, KB, KA, K9, K8, K7, K6, K5, K]
theorem KFb7 (W : World) (ds l : List D) : (envOf KF W ds).fb 7 l = nearR l := by simp only [envOf, KF, KE, KD, KC, KB, KA, K9, K8, K7, K6, K5, K]
theorem KFi13 (W : World) (ds l : List D) : (envOf KF W ds).fi 13 l = nearE l := by simp only [envOf, KF, KE, KD, KC, KB, KA, K9, K8, K7, K6, K5, K]
theorem KFb3 (W : World) (ds l : List D) : (envOf KF W ds).fb 3 l = placeL l := by simp only [envOf, KF, KE, KD, KC, KB, KA, K9, K8, K7, K6, K5, K]
theorem psg_four (a b c : Int) (r : Rows) : psgL [.i a, .i b, .i c, .l r] = psgB a b c r := rfl
theorem feat_nine (a b c d e f g : Int) (r s : Rows) : featL [.i a, .i b, .i c, .i d, .i e, .l r, .i f, .i g, .l s] = featB a b c d e r f g s := rfl
theorem psgB_off {lo hi off : Int} {r : Rows} (h : psgB lo hi off r = true) : (0 ≤ off ∧ off ≤ 100000) ∧ 1 ≤ r.length ∧ r.length ≤ 40 := by
  simp only [psgB, Bool.and_eq_true, decide_eq_true_eq] at h
  omega
theorem featB_iff {id kind x y rad depth sym : Int} {area sc : Rows} : featB id kind x y rad area depth sym sc = true ↔ featP id kind x y rad area depth sym sc := by
  unfold featB; exact decide_eq_true_iff
theorem polyB_len {r : Rows} (h : polyB r = true) : 3 ≤ r.length ∧ r.length ≤ 24 := by
  simp only [polyB, Bool.and_eq_true, decide_eq_true_eq] at h
  exact h.1
def covO (ds : List D) : Bool := featB (iAt ds 0) (iAt ds 1) (iAt ds 2) (iAt ds 3) (iAt ds 4) (rAt ds 5) (iAt ds 6) (iAt ds 7) (rAt ds 8) && placeB (iAt ds 9) (iAt ds 10)
def covX (kind x y rad : Int) (area : Rows) (px py : Int) : Bool :=
  if kind = 4 then false else if kind = 3 ∨ kind = 6 then decide (pinE [.i px, .i py, .l area] = 0 ∧ 0 ≤ pinR [.i px, .i py, .l area])
  else decide (nearE [.i px, .i py, .i x, .i y, .i x, .i y, .i rad] = 0) && nearR [.i px, .i py, .i x, .i y, .i x, .i y, .i rad]
def covR (ds : List D) : Bool := covO ds && covX (iAt ds 1) (iAt ds 2) (iAt ds 3) (iAt ds 4) (rAt ds 5) (iAt ds 9) (iAt ds 10)
def covE (ds : List D) : Int := if covO ds then 0 else 1
def KG : Interp where
  fi n l := match n with | 77 => nearPE l | 78 => covE l | n => KF.fi n l
  fb n l := match n with | 77 => nearPR l | 78 => covR l | n => KF.fb n l
  fd _ _ := []
theorem KG_KF {ρ : Env} (h : Sees ρ KG 80) : Sees ρ KF 77 := h.trans (by decide) fun n l hn => by
  refine ⟨?_, ?_⟩
  ·
    simp only [KG]
    split <;> first | omega | rfl
  ·
    simp only [KG]
    split <;> first | omega | rfl
def cNearP := ctD [psg, it, feat] fun al => .ret (.tup [.one (sBF 77 nearPR al), .one (sIF 77 nearPE al)])
def cCovers := ctD [feat, pt] fun al => .ret (.tup [.one (sBF 78 covR al), .one (sIF 78 covE al)])
end Go.Proofs.YtbbjlleaofgddaaGreat
