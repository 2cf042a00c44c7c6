/- NM, merged: TI0, I0, TI1, I1, I2, TIz, I3, I4, I5, I6. -/
import Derived.Test.YtcjaembdcfppfaaGreatNH
set_option linter.unusedSimpArgs false
set_option linter.unusedVariables false
/- Chapter 11: the tree of grid.frame. -/
namespace Go.Proofs.YtcjaembdcfppfaaGreat
open Go.RowKit
-- term trFrame: call Tryz.prog ctGb (Lt.of []) 200 28 (symArgs 0 [gridS]) [] 0
def trFrame : TT OpR :=
(.ite (.cmp .lss (.var 2) (.lit 1))
 (.ret ((.tup [(.agg [(.z (.int .i64 (.lit 0))), (.z (.int .i64 (.lit 0))), (.z (.int .i64 (.lit 0))), (.z (.int .i64 (.lit 0)))]), (.one (.z (.bool (.lit false))))]), [], 2))
 (.ite (.cmp .gtr (.var 2) (.lit 100000))
 (.ret ((.tup [(.agg [(.z (.int .i64 (.lit 0))), (.z (.int .i64 (.lit 0))), (.z (.int .i64 (.lit 0))), (.z (.int .i64 (.lit 0)))]), (.one (.z (.bool (.lit false))))]), [], 2))
 (.ite (.cmp .lss (.var 3) (.lit 1))
 (.ret ((.tup [(.agg [(.z (.int .i64 (.lit 0))), (.z (.int .i64 (.lit 0))), (.z (.int .i64 (.lit 0))), (.z (.int .i64 (.lit 0)))]), (.one (.z (.bool (.lit false))))]), [], 2))
 (.ite (.cmp .gtr (.var 3) (.lit 64))
 (.ret ((.tup [(.agg [(.z (.int .i64 (.lit 0))), (.z (.int .i64 (.lit 0))), (.z (.int .i64 (.lit 0))), (.z (.int .i64 (.lit 0)))]), (.one (.z (.bool (.lit false))))]), [], 2))
 (.ite (.cmp .lss (.var 4) (.lit 1))
 (.ret ((.tup [(.agg [(.z (.int .i64 (.lit 0))), (.z (.int .i64 (.lit 0))), (.z (.int .i64 (.lit 0))), (.z (.int .i64 (.lit 0)))]), (.one (.z (.bool (.lit false))))]), [], 2))
 (.ite (.cmp .gtr (.var 4) (.lit 64))
 (.ret ((.tup [(.agg [(.z (.int .i64 (.lit 0))), (.z (.int .i64 (.lit 0))), (.z (.int .i64 (.lit 0))), (.z (.int .i64 (.lit 0)))]), (.one (.z (.bool (.lit false))))]), [], 2))
 (.ite (.not (.fn 31 (.i (.var 0) (.i (.var 0) (.i (.var 1) (.i (.var 1) .nil))))))
 (.ret ((.tup [(.agg [(.z (.int .i64 (.lit 0))), (.z (.int .i64 (.lit 0))), (.z (.int .i64 (.lit 0))), (.z (.int .i64 (.lit 0)))]), (.one (.z (.bool (.lit false))))]), [], 3))
 (.ret ((.tup [(.agg [(.z (.int .i64 (.var 0))), (.z (.int .i64 (.ar .add .i64 (.var 0) (.ar .mul .i64 (.var 3) (.var 2))))), (.z (.int .i64 (.var 1))), (.z (.int .i64 (.ar .add .i64 (.var 1) (.ar .mul .i64 (.var 4) (.var 2)))))]), (.one (.z (.bool (.fn 31 (.i (.var 0) (.i (.ar .add .i64 (.var 0) (.ar .mul .i64 (.var 3) (.var 2))) (.i (.var 1) (.i (.ar .add .i64 (.var 1) (.ar .mul .i64 (.var 4) (.var 2))) .nil))))))))]), [], 3)))))))))
-- end trFrame
set_option maxRecDepth 100000 in
theorem trFrame_is : T.norm 0 (call Tryz.prog ctGb (Lt.of []) 200 28 (symArgs 0 [gridS]) [] 0) TT.ret = trFrame := by kernel_rfl
theorem trFrame_low : trFrame.low 1000 = true := by kernel_rfl
end Go.Proofs.YtcjaembdcfppfaaGreat
/- Chapter 11: grid.frame. -/
namespace Go.Proofs.YtcjaembdcfppfaaGreat
open Go.RowKit
def frL (ds : List D) : Bool := decide (frP (iAt ds 0) (iAt ds 1) (iAt ds 2) (iAt ds 3) (iAt ds 4))
def frC (x y s w h : Int) : Prop := ((1 ≤ s ∧ s ≤ 100000) ∧ (1 ≤ w ∧ w ≤ 64) ∧ 1 ≤ h ∧ h ≤ 64) ∧ (-1000000 ≤ x ∧ x ≤ 1000000) ∧ -1000000 ≤ y ∧ y ≤ 1000000
instance (x y s w h : Int) : Decidable (frC x y s w h) := by unfold frC; infer_instance
def frK (ds : List D) : Bool := decide (frC (iAt ds 0) (iAt ds 1) (iAt ds 2) (iAt ds 3) (iAt ds 4))
def frX (ds : List D) : Int := if frK ds = true then iAt ds 0 else 0
def frX2 (ds : List D) : Int := if frK ds = true then iAt ds 0 + iAt ds 3 * iAt ds 2 else 0
def frY (ds : List D) : Int := if frK ds = true then iAt ds 1 else 0
def frY2 (ds : List D) : Int := if frK ds = true then iAt ds 1 + iAt ds 4 * iAt ds 2 else 0
theorem KGbb31 (W : World) (ds l : List D) : (envOf KGb W ds).fb 31 l = boxL l := by simp only [envOf, KGb, KGa, K80, K79, K78, K77, K76, K75, K74, K73, K72, K71, KI, KH, KG, KF, KE, KD, KC, KB, KA, K9, K8, K7, K6, K5, K]
theorem gFrame : Gives Tryz.prog 28 [gridS] (fun ds => .tuple #[.agg #[.int .i64 (frX ds), .int .i64 (frX2 ds), .int .i64 (frY ds), .int .i64 (frY2 ds)], .bool (frL ds)]) := by
  refine GivesIf.all (fn_gives KGb (by kernel_rfl) (fun ρ h => ctGb_ok (Sees.of h 160) (SeesD.of h 2)) (by kernel_rfl) trFrame_is trFrame_low (by decide) (fun W vals ds hr _ => ?_))
  have e1 : frX ds = if frK ds = true then iAt ds 0 else 0 := rfl
  have e2 : frX2 ds = if frK ds = true then iAt ds 0 + iAt ds 3 * iAt ds 2 else 0 := rfl
  have e3 : frY ds = if frK ds = true then iAt ds 1 else 0 := rfl
  have e4 : frY2 ds = if frK ds = true then iAt ds 1 + iAt ds 4 * iAt ds 2 else 0 := rfl
  have e5 : frL ds = decide (frP (iAt ds 0) (iAt ds 1) (iAt ds 2) (iAt ds 3) (iAt ds 4)) := rfl
  have e6 : frK ds = decide (frC (iAt ds 0) (iAt ds 1) (iAt ds 2) (iAt ds 3) (iAt ds 4)) := rfl
  clear hr
  simp only [trFrame, TT.sat_ret, TT.sat_ite, TT.sat_ob, TT.sat_next, TT.sat_stuck, put_i, put_b, put_d, put_fi, put_fb, put_fd, Ob.ok, B.ev, E.ev, X.ev, AL.ev, cmp_t, cmp_f, arEv, V.plain, V2.plain, S.plain, S0.plain, V.val, V2.val, S.val, S0.val, bV, iV, List.all_cons, List.all_nil, Bool.and_true, Bool.and_self, envOf_i, envOf_b, envOf_d, List.map_cons, List.map_nil, true_and, Bool.not_eq_true', Bool.not_eq_false', Bool.not_not, Bool.and_eq_true, and_f, cell_lg, cell_lb, cell_lr, cmpP, val_i, val_b, val_d, aget, Nat.reduceBEq, beq_self_eq_true, Bool.false_eq_true, if_true, if_false, Nat.reduceLT, Nat.reduceSub, Nat.sub_self, Nat.lt_irrefl, KGbb31, box_five]
  generalize iAt ds 0 = x at *
  generalize iAt ds 1 = y at *
  generalize iAt ds 2 = s at *
  generalize iAt ds 3 = w at *
  generalize iAt ds 4 = h at *
  have N : ¬ frC x y s w h → Value.tuple #[.agg #[.int .i64 0, .int .i64 0, .int .i64 0, .int .i64 0], .bool false] = .tuple #[.agg #[.int .i64 (frX ds), .int .i64 (frX2 ds), .int .i64 (frY ds), .int .i64 (frY2 ds)], .bool (frL ds)] := fun q => by
    rw [decide_eq_false q] at e6
    rw [e6, if_neg (by decide)] at e1 e2 e3 e4
    have : ¬ frP x y s w h := fun k => by
      unfold frP at k
      unfold frC at q
      have p1 := prod_in (a := w) (b := s) (m := 64) (n := 100000) (by omega) (by omega) (by omega) (by omega)
      have p2 := prod_in (a := h) (b := s) (m := 64) (n := 100000) (by omega) (by omega) (by omega) (by omega)
      omega
    rw [decide_eq_false this] at e5
    rw [e1, e2, e3, e4, e5]
  refine ⟨fun q => N (fun k => by unfold frC at k; omega), fun q1 => ⟨fun q => N (fun k => by unfold frC at k; omega), fun q2 => ⟨fun q => N (fun k => by unfold frC at k; omega), fun q3 => ⟨fun q => N (fun k => by unfold frC at k; omega), fun q4 => ⟨fun q => N (fun k => by unfold frC at k; omega), fun q5 => ⟨fun q => N (fun k => by unfold frC at k; omega), fun q6 => ⟨fun q => N (fun k => ?_), fun q => ?_⟩⟩⟩⟩⟩⟩⟩
  · unfold frC at k
    unfold boxB at q
    exact absurd (of_decide_eq_false q) (fun k' => k' (by omega))
  · unfold boxB at q ⊢
    have q := of_decide_eq_true q
    have p1 := prod_in (a := w) (b := s) (m := 64) (n := 100000) (by omega) (by omega) (by omega) (by omega)
    have p2 := prod_in (a := h) (b := s) (m := 64) (n := 100000) (by omega) (by omega) (by omega) (by omega)
    rw [wrap_in (w * s) (by omega) (by omega), wrap_in (h * s) (by omega) (by omega), wrap_in (x + w * s) (by omega) (by omega), wrap_in (y + h * s) (by omega) (by omega)]
    have hc : frC x y s w h := by unfold frC; omega
    rw [decide_eq_true hc] at e6
    rw [e6, if_pos rfl] at e1 e2 e3 e4
    rw [e1, e2, e3, e4, e5]
    congr 4
    refine congrArg Value.bool (decide_eq_decide.2 ?_)
    unfold frP
    constructor <;> intro k <;> omega
def KGf : Interp where
  fi n l := match n with | 181 => frX l | 182 => frX2 l | 183 => frY l | 184 => frY2 l | n => KGc.fi n l
  fb n l := match n with | 180 => frL l | n => KGc.fb n l
  fd n l := KGc.fd n l
theorem KGf_KGc {ρ : Env} (h : Sees ρ KGf 190) : Sees ρ KGc 170 := h.trans (by decide) fun n l hn => by
  refine ⟨?_, ?_⟩
  ·
    simp only [KGf]
    split <;> first | omega | rfl
  ·
    simp only [KGf]
    split <;> first | omega | rfl
def cFrame := ctD [gridS] fun al => .ret (.tup [.agg [sIF 181 frX al, sIF 182 frX2 al, sIF 183 frY al, sIF 184 frY2 al], .one (.z (.bool (bF 180 frL al)))])
theorem cFrame_ok {ρ : Env} (h : Sees ρ KGf 190) : CtOne Tryz.prog ρ 28 cFrame := by
  refine ctD_ok gFrame (fun _ => rfl) (fun al => ?_)
  have h1 : (iF 181 frX al).ev ρ = frX (al.ev ρ) := iF_ev (s := 181) (f := frX) (fun l => by rw [(h 181 l (by decide)).1]; simp only [KGf]) al
  have h2 : (iF 182 frX2 al).ev ρ = frX2 (al.ev ρ) := iF_ev (s := 182) (f := frX2) (fun l => by rw [(h 182 l (by decide)).1]; simp only [KGf]) al
  have h3 : (iF 183 frY al).ev ρ = frY (al.ev ρ) := iF_ev (s := 183) (f := frY) (fun l => by rw [(h 183 l (by decide)).1]; simp only [KGf]) al
  have h4 : (iF 184 frY2 al).ev ρ = frY2 (al.ev ρ) := iF_ev (s := 184) (f := frY2) (fun l => by rw [(h 184 l (by decide)).1]; simp only [KGf]) al
  have h5 : (bF 180 frL al).ev ρ = frL (al.ev ρ) := bF_ev (s := 180) (f := frL) (fun l => by rw [(h 180 l (by decide)).2]; simp only [KGf]) al
  simp only [V.val, V2.val, S.val, S0.val, sIF, List.map_cons, List.map_nil, h1, h2, h3, h4, h5]
def ctGf : Ct := (28, cFrame) :: ctGd
theorem ctGf_ok {ρ : Env} (h : Sees ρ KGf 190) (hd : SeesD ρ KGf 5) : CtOk Tryz.prog ρ ctGf := .cons (cFrame_ok h) (ctGd_ok (KGf_KGc h) (fun n l hn => (hd n l hn).trans rfl))
end Go.Proofs.YtcjaembdcfppfaaGreat
/- Chapter 11: trees of Coarse, Least. -/
namespace Go.Proofs.YtcjaembdcfppfaaGreat
open Go.RowKit
-- term trCoarse: call Tryz.prog ctGf (Lt.of []) 200 13 (symArgs 0 [gridS, it]) [] 0
def trCoarse : TT OpR :=
(.ite (.not (.fn 150 (.i (.var 0) (.i (.var 1) (.i (.var 2) (.i (.var 3) (.i (.var 4) (.x (.var 5) .nil))))))))
 (.ret ((.tup [(.agg [(.z (.int .i64 (.lit 0))), (.z (.int .i64 (.lit 0))), (.z (.int .i64 (.lit 0))), (.z (.int .i64 (.lit 0))), (.z (.int .i64 (.lit 0))), (.z (.const (.slice none 0 0)))]), (.one (.z (.int .i64 (.lit 1))))]), [], 2))
 (.ite (.cmp .lss (.var 6) (.lit 1))
 (.ret ((.tup [(.agg [(.z (.int .i64 (.lit 0))), (.z (.int .i64 (.lit 0))), (.z (.int .i64 (.lit 0))), (.z (.int .i64 (.lit 0))), (.z (.int .i64 (.lit 0))), (.z (.const (.slice none 0 0)))]), (.one (.z (.int .i64 (.lit 1))))]), [], 2))
 (.ite (.cmp .gtr (.var 6) (.lit 64))
 (.ret ((.tup [(.agg [(.z (.int .i64 (.lit 0))), (.z (.int .i64 (.lit 0))), (.z (.int .i64 (.lit 0))), (.z (.int .i64 (.lit 0))), (.z (.int .i64 (.lit 0))), (.z (.const (.slice none 0 0)))]), (.one (.z (.int .i64 (.lit 1))))]), [], 2))
 (.ob (.tru (.cmp .neq (.var 6) (.lit 0)))
 (.ite (.cmp .neq (.ar .rem .i64 (.var 3) (.var 6)) (.lit 0))
 (.ret ((.tup [(.agg [(.z (.int .i64 (.lit 0))), (.z (.int .i64 (.lit 0))), (.z (.int .i64 (.lit 0))), (.z (.int .i64 (.lit 0))), (.z (.int .i64 (.lit 0))), (.z (.const (.slice none 0 0)))]), (.one (.z (.int .i64 (.lit 1))))]), [], 2))
 (.ob (.tru (.cmp .neq (.var 6) (.lit 0)))
 (.ite (.cmp .neq (.ar .rem .i64 (.var 4) (.var 6)) (.lit 0))
 (.ret ((.tup [(.agg [(.z (.int .i64 (.lit 0))), (.z (.int .i64 (.lit 0))), (.z (.int .i64 (.lit 0))), (.z (.int .i64 (.lit 0))), (.z (.int .i64 (.lit 0))), (.z (.const (.slice none 0 0)))]), (.one (.z (.int .i64 (.lit 1))))]), [], 2))
 (.ite (.cmp .gtr (.ar .mul .i64 (.var 6) (.var 2)) (.lit 100000))
 (.ret ((.tup [(.agg [(.z (.int .i64 (.lit 0))), (.z (.int .i64 (.lit 0))), (.z (.int .i64 (.lit 0))), (.z (.int .i64 (.lit 0))), (.z (.int .i64 (.lit 0))), (.z (.const (.slice none 0 0)))]), (.one (.z (.int .i64 (.lit 1))))]), [], 2))
 (.ob (.tru (.cmp .neq (.var 6) (.lit 0)))
 (.ob (.tru (.cmp .neq (.var 6) (.lit 0)))
 (.ob (.tru (.cmp .leq (.lit 0) (.ar .mul .i64 (.ar .quo .i64 (.var 3) (.var 6)) (.ar .quo .i64 (.var 4) (.var 6)))))
 (.ob (.tru (.cmp .leq (.ar .mul .i64 (.ar .quo .i64 (.var 3) (.var 6)) (.ar .quo .i64 (.var 4) (.var 6))) (.lit 1000000)))
 (.loop 0 6000 ⟨[(0, (.lit 0))], [], [(1, (.rep (.ar .mul .i64 (.ar .quo .i64 (.var 3) (.var 6)) (.ar .quo .i64 (.var 4) (.var 6))) (.i (.lit 100000) .nil)))]⟩
 (.ite (.cmp .lss (.var 6000) (.len (.var 5)))
 (.ob (.tru (.cmp .leq (.lit 0) (.var 6000)))
 (.ob (.tru (.cmp .lss (.var 6000) (.len (.var 5))))
 (.ob (.tru (.cmp .neq (.var 3) (.lit 0)))
 (.ob (.tru (.cmp .neq (.var 6) (.lit 0)))
 (.ob (.tru (.cmp .neq (.var 3) (.lit 0)))
 (.ob (.tru (.cmp .neq (.var 6) (.lit 0)))
 (.ob (.tru (.cmp .leq (.lit 0) (.ar .add .i64 (.ar .quo .i64 (.ar .rem .i64 (.var 6000) (.var 3)) (.var 6)) (.ar .mul .i64 (.ar .quo .i64 (.ar .quo .i64 (.var 6000) (.var 3)) (.var 6)) (.ar .quo .i64 (.var 3) (.var 6))))))
 (.ob (.tru (.cmp .lss (.ar .add .i64 (.ar .quo .i64 (.ar .rem .i64 (.var 6000) (.var 3)) (.var 6)) (.ar .mul .i64 (.ar .quo .i64 (.ar .quo .i64 (.var 6000) (.var 3)) (.var 6)) (.ar .quo .i64 (.var 3) (.var 6)))) (.len (.var 6001))))
 (.next 0 ⟨[(0, (.ar .add .i64 (.var 6000) (.lit 1)))], [], [(1, (.upd (.var 6001) (.ar .add .i64 (.ar .quo .i64 (.ar .rem .i64 (.var 6000) (.var 3)) (.var 6)) (.ar .mul .i64 (.ar .quo .i64 (.ar .quo .i64 (.var 6000) (.var 3)) (.var 6)) (.ar .quo .i64 (.var 3) (.var 6)))) 0 (.i (.mn (.rd (.var 6001) (.ar .add .i64 (.ar .quo .i64 (.ar .rem .i64 (.var 6000) (.var 3)) (.var 6)) (.ar .mul .i64 (.ar .quo .i64 (.ar .quo .i64 (.var 6000) (.var 3)) (.var 6)) (.ar .quo .i64 (.var 3) (.var 6)))) 0) (.rd (.var 5) (.var 6000) 0)) .nil)))]⟩)))))))))
 (.ret ((.tup [(.agg [(.z (.int .i64 (.var 0))), (.z (.int .i64 (.var 1))), (.z (.int .i64 (.ar .mul .i64 (.var 6) (.var 2)))), (.z (.int .i64 (.ar .quo .i64 (.var 3) (.var 6)))), (.z (.int .i64 (.ar .quo .i64 (.var 4) (.var 6)))), (.z (.own 4 (.lit 0)))]), (.one (.z (.int .i64 (.lit 0))))]), [(4, (.own 3 [(.int .i64)] (.var 6001) (.lit 0))), (4, (.own 3 [(.int .i64)] (.rep (.ar .mul .i64 (.ar .quo .i64 (.var 3) (.var 6)) (.ar .quo .i64 (.var 4) (.var 6))) (.i (.lit 100000) .nil)) (.lit 0)))], 6))))))))))))))))
-- end trCoarse
set_option maxRecDepth 100000 in
theorem trCoarse_is : T.norm 0 (call Tryz.prog ctGf (Lt.of []) 200 13 (symArgs 0 [gridS, it]) [] 0) TT.ret = trCoarse := by kernel_rfl
theorem trCoarse_low : trCoarse.low 1000 = true := by kernel_rfl
-- term trLeast: call Tryz.prog ctGf (Lt.of []) 200 15 (symArgs 0 [gridS, bx]) [] 0
def trLeast : TT OpR :=
(.ite (.not (.fn 150 (.i (.var 0) (.i (.var 1) (.i (.var 2) (.i (.var 3) (.i (.var 4) (.x (.var 5) .nil))))))))
 (.ret ((.tup [(.one (.z (.int .i64 (.lit 0)))), (.one (.z (.int .i64 (.lit 1))))]), [], 2))
 (.ite (.not (.fn 31 (.i (.var 6) (.i (.var 7) (.i (.var 8) (.i (.var 9) .nil))))))
 (.ret ((.tup [(.one (.z (.int .i64 (.lit 0)))), (.one (.z (.int .i64 (.lit 1))))]), [], 2))
 (.ite (.not (.fn 51 (.i (.var 6) (.i (.var 7) (.i (.var 8) (.i (.var 9) (.i (.fn 181 (.i (.var 0) (.i (.var 1) (.i (.var 2) (.i (.var 3) (.i (.var 4) (.x (.var 5) .nil))))))) (.i (.fn 182 (.i (.var 0) (.i (.var 1) (.i (.var 2) (.i (.var 3) (.i (.var 4) (.x (.var 5) .nil))))))) (.i (.fn 183 (.i (.var 0) (.i (.var 1) (.i (.var 2) (.i (.var 3) (.i (.var 4) (.x (.var 5) .nil))))))) (.i (.fn 184 (.i (.var 0) (.i (.var 1) (.i (.var 2) (.i (.var 3) (.i (.var 4) (.x (.var 5) .nil))))))) .nil))))))))))
 (.ret ((.tup [(.one (.z (.int .i64 (.lit 0)))), (.one (.z (.int .i64 (.lit 3))))]), [], 3))
 (.loop 0 9000 ⟨[(0, (.lit 0)), (1, (.lit 0)), (2, (.lit 100000))], [], []⟩
 (.ite (.cmp .lss (.var 9000) (.var 4))
 (.loop 1 10000 ⟨[(0, (.lit 0)), (1, (.var 9001)), (2, (.var 9002))], [], []⟩
 (.ite (.cmp .lss (.var 10000) (.var 3))
 (.ite (.cmp .eql (.fn 41 (.i (.ar .add .i64 (.var 0) (.ar .mul .i64 (.var 10000) (.var 2))) (.i (.ar .add .i64 (.ar .add .i64 (.var 0) (.ar .mul .i64 (.var 10000) (.var 2))) (.var 2)) (.i (.ar .add .i64 (.var 1) (.ar .mul .i64 (.var 9000) (.var 2))) (.i (.ar .add .i64 (.ar .add .i64 (.var 1) (.ar .mul .i64 (.var 9000) (.var 2))) (.var 2)) (.i (.var 6) (.i (.var 7) (.i (.var 8) (.i (.var 9) .nil))))))))) (.lit 0))
 (.ob (.tru (.cmp .leq (.lit 0) (.var 10001)))
 (.ob (.tru (.cmp .lss (.var 10001) (.len (.var 5))))
 (.next 1 ⟨[(0, (.ar .add .i64 (.var 10000) (.lit 1))), (1, (.ar .add .i64 (.var 10001) (.lit 1))), (2, (.mn (.var 10002) (.rd (.var 5) (.var 10001) 0)))], [], []⟩)))
 (.next 1 ⟨[(0, (.ar .add .i64 (.var 10000) (.lit 1))), (1, (.ar .add .i64 (.var 10001) (.lit 1))), (2, (.var 10002))], [], []⟩))
 (.next 0 ⟨[(0, (.ar .add .i64 (.var 9000) (.lit 1))), (1, (.var 10001)), (2, (.var 10002))], [], []⟩)))
 (.ret ((.tup [(.one (.z (.int .i64 (.var 9002)))), (.one (.z (.int .i64 (.lit 0))))]), [], 12)))))))
-- end trLeast
set_option maxRecDepth 100000 in
theorem trLeast_is : T.norm 0 (call Tryz.prog ctGf (Lt.of []) 200 15 (symArgs 0 [gridS, bx]) [] 0) TT.ret = trLeast := by kernel_rfl
theorem trLeast_low : trLeast.low 1000 = true := by kernel_rfl
end Go.Proofs.YtcjaembdcfppfaaGreat
/- Chapter 11: contracts with two kinds of answers; Coarse. -/
namespace Go.Proofs.YtcjaembdcfppfaaGreat
open Go.RowKit
def cNewI (sh : List Sh) (l : NL) (c : AL → B) (out : AL → Nat → Option (V × V)) (args : List V) (mem : Mem) (nx : Nat) : T OpR := match argsA mem sh args with
  | some al => match out al nx with
    | some (a, b) => .iteS (c al) (.ret (a, [(nx, .own l.e l.ks (dF l.s l.rows al) (.lit 0))], nx + 1)) (.ret (b, [(nx, .own l.e l.ks (dF l.s l.rows al) (.lit 0))], nx + 1))
    | none => .stuck "new list"
  | none => .stuck "new list"
theorem cNewI_ok {P : Program} {ρ : Env} {f : FuncId} {sh : List Sh} {l : NL} {res : List D → Value → Value} (hg : GivesN P f sh [l] (fun _ => True) (fun _ ds vs u => ∃ v, vs = [v] ∧ u = res ds v)) (hf : l.ks.all CK.flat = true)
    (hs : ∀ a, ρ.fd l.s a = l.rows a) {c : AL → B} {out : AL → Nat → Option (V × V)}
    (hA : ∀ (al : AL) (nx : Nat) (a b : V) (σ' : As) (v : Value), out al nx = some (a, b) → (S0.own nx (.lit 0)).den ρ σ' v → ((c al).ev ρ = true → a.den ρ σ' (res (al.ev ρ) v)) ∧ ((c al).ev ρ = false → b.den ρ σ' (res (al.ev ρ) v))) : CtOne P ρ f (cNewI sh l c out) := by
  intro args mem nx q hq hle σ W vals hr hfr hd
  unfold cNewI at hq
  split at hq
  · rename_i al ha
    split at hq
    · rename_i oa ob hop
      have h0 : ∃ o : V, q = (o, [(nx, .own l.e l.ks (dF l.s l.rows al) (.lit 0))], nx + 1) ∧ ∀ (σ' : As) (v : Value), (S0.own nx (.lit 0)).den ρ σ' v → o.den ρ σ' (res (al.ev ρ) v) := by
        rcases T.res_iteS hq with ⟨hb, hq⟩ | ⟨hb, hq⟩
        · exact ⟨oa, res_ret hq, fun σ' v h => (hA al nx oa ob σ' v hop h).1 hb⟩
        · exact ⟨ob, res_ret hq, fun σ' v h => (hA al nx oa ob σ' v hop h).2 hb⟩
      obtain ⟨o, rfl, hout⟩ := h0
      have hc := hg W W vals (al.ev ρ) (Below.refl _ _) (argsA_ok hr sh args al ha vals hd) trivial
      have hw : CallsIn Fence.wide 0 P f vals.toArray W _ := callsIn_wide.2 hc
      refine CallsIn.mono (F := FR none) hw ?_
      rintro en W' ⟨vs, u, rfl, ⟨v, rfl, rfl⟩, hb, hn⟩
      obtain ⟨xs, h1, h2, h3, ⟨a, c, rfl⟩, h5⟩ := hn.each 0 l _ rfl rfl
      have hnx := hfr nx (Nat.le_refl _) (Nat.lt_succ_self _)
      have hnone : ∀ k, σ.h nx k = .none := fun k => by
        cases hk : σ.h nx k with
        | none => rfl
        | some y => exact absurd (.inr ⟨k, y, hk⟩) hnx
      have hx := dF_ev (ρ := ρ) (s := l.s) (f := l.rows) hs al
      have hstep := step_say (ρ := ρ) (σ := σ) (W := W) (id := nx) (t := l.e) (ks := l.ks) (x := dF l.s l.rows al) (ver := .lit 0) (v := .slice .none 0 0) (W' := W') (xs := xs) (fun i a hi => hr.lt i a hi) (hnone _) (fun u _ => hnone u) hr.inj (fun k hk => by cases hk)
        (by
          rw [hx]
          exact ⟨h1.base hr.base.size, hb.os, hb.tape, hb.output, hb.size, fun k hk _ => hb.block k hk, fun k hk => .inr (h5 k hk), Keep.of_eq (fun k hk => hb.block k hk), a, c, rfl⟩)
        (by rw [hx]; exact fun i row hi => reps_flat hf (h2.2 i row hi)) (by rw [hx]; exact h3)
      exact ⟨_, _, rfl, hout _ _ ⟨⟨a, _, c, rfl⟩, As.say_self⟩, hstep, fun i hi => (say_has hi).imp (fun h => h) (fun h => ⟨by omega, by show i < nx + 1; omega⟩)⟩
    · exact hq.elim
  · exact hq.elim
def gvV (x y s w h : Int) (v : Value) (e : Int) : Value := .tuple #[.agg #[.int .i64 x, .int .i64 y, .int .i64 s, .int .i64 w, .int .i64 h, v], .int .i64 e]
theorem leaf_grid {ρ : Env} {l : NL} {ds : List D} {w0 : World} {ws : Mem} {s : S0} {x : X} {e1 e2 e3 e4 e5 e : E} {U : Value → Value} (h1 : lrowsP ws l.e l.ks s = some x) (h2 : x.ev ρ = l.rows ds) (h3 : ∀ v, U v = gvV (e1.ev ρ) (e2.ev ρ) (e3.ev ρ) (e4.ev ρ) (e5.ev ρ) v (e.ev ρ)) :
    ∃ s' x', lrowsP ws l.e l.ks s' = some x' ∧ x'.ev ρ = l.rows ds ∧ ∀ (σ : As) u, ρ.w = w0 → (V.tup [.agg [.z (.int .i64 e1), .z (.int .i64 e2), .z (.int .i64 e3), .z (.int .i64 e4), .z (.int .i64 e5), .z s], .one (.z (.int .i64 e))]).den ρ σ u → ∃ v, s'.den ρ σ v ∧ u = U v := by
  refine ⟨s, x, h1, h2, fun σ u _ hd => ?_⟩
  obtain ⟨vs, hv, rfl⟩ := hd
  obtain ⟨v1, r1, rfl, k1, k2⟩ := DL.cons_inv hv
  obtain ⟨v2, r2, rfl, k3, k4⟩ := DL.cons_inv k2
  obtain rfl := DL.nil_inv k4
  obtain ⟨us, k5, rfl⟩ := k1
  obtain ⟨a1, s1, rfl, f1, k5⟩ := DL.cons_inv k5
  obtain ⟨a2, s2, rfl, f2, k5⟩ := DL.cons_inv k5
  obtain ⟨a3, s3, rfl, f3, k5⟩ := DL.cons_inv k5
  obtain ⟨a4, s4, rfl, f4, k5⟩ := DL.cons_inv k5
  obtain ⟨a5, s5, rfl, f5, k5⟩ := DL.cons_inv k5
  obtain ⟨a6, s6, rfl, f6, k5⟩ := DL.cons_inv k5
  obtain rfl := DL.nil_inv k5
  have f1 : a1 = .int .i64 (e1.ev ρ) := f1
  have f2 : a2 = .int .i64 (e2.ev ρ) := f2
  have f3 : a3 = .int .i64 (e3.ev ρ) := f3
  have f4 : a4 = .int .i64 (e4.ev ρ) := f4
  have f5 : a5 = .int .i64 (e5.ev ρ) := f5
  have k3 : v2 = .int .i64 (e.ev ρ) := k3
  exact ⟨a6, f6, by rw [h3, f1, f2, f3, f4, f5, k3]; rfl⟩
theorem wrap_nat {n : Nat} (h : n ≤ 1000000) : IntKind.i64.wrap (n : Int) = n := wrap_in _ (by omega) (by omega)
/-! ### Coarse -/
def coIdx (W k c : Nat) : Nat := c % W / k + c / W / k * (W / k)
def coN (W H k : Nat) (D : List Int) : Nat → List Int
  | 0 => List.replicate (W / k * (H / k)) 100000
  | c + 1 => (coN W H k D c).set (coIdx W k c) (min (Grid.at_ (coN W H k D c) (coIdx W k c)) (Grid.at_ D c))
theorem coN_len (W H k : Nat) (D : List Int) : ∀ c, (coN W H k D c).length = W / k * (H / k)
  | 0 => by simp [coN]
  | c + 1 => by simp [coN, coN_len W H k D c]
def coO (ds : List D) : Bool := gvL ds && decide (1 ≤ iAt ds 6 ∧ iAt ds 6 ≤ 64 ∧ (iAt ds 3).tmod (iAt ds 6) = 0 ∧ (iAt ds 4).tmod (iAt ds 6) = 0 ∧ iAt ds 6 * iAt ds 2 ≤ 100000)
def coR (ds : List D) : Rows := if coO ds = true then rowsI (coN (iAt ds 3).toNat (iAt ds 4).toNat (iAt ds 6).toNat (cellsI (rAt ds 5)) ((iAt ds 3).toNat * (iAt ds 4).toNat)) else []
def coV (ds : List D) (v : Value) : Value := if coO ds = true then gvV (iAt ds 0) (iAt ds 1) (iAt ds 6 * iAt ds 2) ((iAt ds 3).tdiv (iAt ds 6)) ((iAt ds 4).tdiv (iAt ds 6)) v 0 else gvV 0 0 0 0 0 v 1
def nlCoarse : NL := ⟨3, [.int .i64], 5, coR⟩
theorem coIdx_lt {W H k c : Nat} (hk : 0 < k) (hW : k ∣ W) (hH : k ∣ H) (hw : 0 < W) (hc : c < W * H) : coIdx W k c < W / k * (H / k) := by
  obtain ⟨a, rfl⟩ := hW
  obtain ⟨b, rfl⟩ := hH
  unfold coIdx
  rw [Nat.mul_div_cancel_left a hk, Nat.mul_div_cancel_left b hk]
  have h1 : c % (k * a) / k < a := by
    rw [Nat.div_lt_iff_lt_mul hk, Nat.mul_comm a k]
    exact Nat.mod_lt _ hw
  have h2 : c / (k * a) / k < b := by
    rw [Nat.div_lt_iff_lt_mul hk, Nat.div_lt_iff_lt_mul hw]
    have e : b * k * (k * a) = k * a * (k * b) := by rw [Nat.mul_comm b k, Nat.mul_comm]
    omega
  have h3 : c / (k * a) / k * a + a ≤ b * a := by
    have := Nat.mul_le_mul_right a (show c / (k * a) / k + 1 ≤ b by omega)
    rw [Nat.add_mul, Nat.one_mul] at this
    exact this
  rw [Nat.mul_comm a b]
  omega
theorem KGfb150 (W : World) (ds l : List D) : (envOf KGf W ds).fb 150 l = gvL l := by simp only [envOf, KGf, KGc, KGb]
theorem KGfb31 (W : World) (ds l : List D) : (envOf KGf W ds).fb 31 l = boxL l := by simp only [envOf, KGf, KGc, KGb, KGa, K80, K79, K78, K77, K76, K75, K74, K73, K72, K71, KI, KH, KG, KF, KE, KD, KC, KB, KA, K9, K8, K7, K6, K5, K]
theorem KGfb180 (W : World) (ds l : List D) : (envOf KGf W ds).fb 180 l = frL l := by simp only [envOf, KGf]
set_option maxHeartbeats 2000000 in
theorem gCoarse : GivesN Tryz.prog 13 [gridS, it] [nlCoarse] (fun _ => True) (fun _ ds vs u => ∃ v, vs = [v] ∧ u = coV ds v) := by
  refine fn_givesN1 KGf (by kernel_rfl) (fun ρ h => ctGf_ok (Sees.of h 190) (SeesD.of h 5)) (by kernel_rfl) trCoarse_is trCoarse_low (by decide) (fun w0 vals ds hr _ => ?_)
  have hwf := rAt_wf (rep_args hr) (j := 5) rfl
  have hR : nlCoarse.rows ds = if coO ds = true then rowsI (coN (iAt ds 3).toNat (iAt ds 4).toNat (iAt ds 6).toNat (cellsI (rAt ds 5)) ((iAt ds 3).toNat * (iAt ds 4).toNat)) else [] := rfl
  have hV : ∀ v, coV ds v = if coO ds = true then gvV (iAt ds 0) (iAt ds 1) (iAt ds 6 * iAt ds 2) ((iAt ds 3).tdiv (iAt ds 6)) ((iAt ds 4).tdiv (iAt ds 6)) v 0 else gvV 0 0 0 0 0 v 1 := fun _ => rfl
  have hO : coO ds = (gvB (iAt ds 0) (iAt ds 1) (iAt ds 2) (iAt ds 3) (iAt ds 4) (rAt ds 5) && decide (1 ≤ iAt ds 6 ∧ iAt ds 6 ≤ 64 ∧ (iAt ds 3).tmod (iAt ds 6) = 0 ∧ (iAt ds 4).tmod (iAt ds 6) = 0 ∧ iAt ds 6 * iAt ds 2 ≤ 100000)) := rfl
  have bad : ∀ {ρ : Env} {ws : Mem}, coO ds = false → ∃ s' x', lrowsP ws nlCoarse.e nlCoarse.ks s' = some x' ∧ x'.ev ρ = nlCoarse.rows ds ∧ ∀ (σ : As) u, ρ.w = w0 → (V.tup [.agg [.z (.int .i64 (.lit 0)), .z (.int .i64 (.lit 0)), .z (.int .i64 (.lit 0)), .z (.int .i64 (.lit 0)), .z (.int .i64 (.lit 0)), .z (.const (.slice none 0 0))], .one (.z (.int .i64 (.lit 1)))]).den ρ σ u → ∃ v, s'.den ρ σ v ∧ u = coV ds v := fun h => by
    rw [h] at hR
    exact leaf_grid (x := .nil) rfl (by rw [hR]; rfl) (fun v => by rw [hV, h]; rfl)
  clear hr
  simp only [trCoarse, TT.sat_ret, TT.sat_ite, TT.sat_ob, TT.sat_next, TT.sat_stuck, put_i, put_b, put_d, put_fi, put_fb, put_fd, Ob.ok, B.ev, E.ev, X.ev, AL.ev, cmp_t, cmp_f, arEv, V.plain, V2.plain, S.plain, S0.plain, V.val, V2.val, S.val, S0.val, bV, iV, List.all_cons, List.all_nil, Bool.and_true, Bool.and_self, envOf_i, envOf_b, envOf_d, List.map_cons, List.map_nil, true_and, Bool.not_eq_true', Bool.not_eq_false', Bool.not_not, Bool.and_eq_true, and_f, cell_lg, cell_lb, cell_lr, cmpP, val_i, val_b, val_d, aget, Nat.reduceBEq, beq_self_eq_true, Bool.false_eq_true, if_true, if_false, Nat.reduceLT, Nat.reduceSub, Nat.sub_self, Nat.lt_irrefl, KGfb150, gv_six]
  generalize e0 : iAt ds 0 = x at *
  generalize e1 : iAt ds 1 = y at *
  generalize e2 : iAt ds 2 = s at *
  generalize e3 : iAt ds 3 = w at *
  generalize e4 : iAt ds 4 = h at *
  generalize e5 : rAt ds 5 = r at *
  generalize e6 : iAt ds 6 = k at *
  refine ⟨fun hg => bad (by rw [hO, hg, Bool.false_and]), fun hg => ⟨fun q => bad (by rw [hO, decide_eq_false (by omega), Bool.and_false]), fun q1 => ⟨fun q => bad (by rw [hO, decide_eq_false (by omega), Bool.and_false]), fun q2 => ⟨by omega, fun q => bad (by rw [hO, decide_eq_false (fun z => q z.2.2.1), Bool.and_false]), fun q3 => ⟨by omega, fun q => bad (by rw [hO, decide_eq_false (fun z => q z.2.2.2.1), Bool.and_false]), fun q4 => ⟨fun q => bad ?_, fun q5 => ?_⟩⟩⟩⟩⟩⟩
  · have p1 := prod_in (a := k) (b := s) (m := 64) (n := 100000) (by omega) (by have := (gv_facts hg).1; unfold frP at this; omega) (by omega) (by have := (gv_facts hg).1; unfold frP at this; omega)
    rw [wrap_in (k * s) (by omega) (by omega)] at q
    rw [hO, decide_eq_false (by omega), Bool.and_false]
  · obtain ⟨hf, hl, hcell⟩ := gv_facts hg
    unfold frP at hf
    obtain ⟨⟨hs, hw, hh⟩, _⟩ := hf
    have p1 := prod_in (a := k) (b := s) (m := 64) (n := 100000) (by omega) (by omega) (by omega) (by omega)
    have ews : IntKind.i64.wrap (k * s) = k * s := wrap_in (k * s) (by omega) (by omega)
    rw [ews] at q5
    have hok : coO ds = true := by rw [hO, hg, decide_eq_true (by omega)]; rfl
    rw [hok] at hR hV
    simp only [if_true] at hR hV
    obtain ⟨W, rfl⟩ := Int.eq_ofNat_of_zero_le (a := w) (by omega)
    obtain ⟨H, rfl⟩ := Int.eq_ofNat_of_zero_le (a := h) (by omega)
    obtain ⟨K, rfl⟩ := Int.eq_ofNat_of_zero_le (a := k) (by omega)
    have hn : r.length = W * H := by
      have : (r.length : Int) = ((W * H : Nat) : Int) := by rw [hl]; simp
      omega
    have hWH : W * H ≤ 64 * 64 := Nat.mul_le_mul (by omega) (by omega)
    have hW : 0 < W := by omega
    have hK : 0 < K := by omega
    have dW : K ∣ W := by
      have e : (W : Int).tmod K = ((W % K : Nat) : Int) := rfl
      have := Classical.not_not.1 q3
      rw [e] at this
      exact Nat.dvd_of_mod_eq_zero (by omega)
    have dH : K ∣ H := by
      have e : (H : Int).tmod K = ((H % K : Nat) : Int) := rfl
      have := Classical.not_not.1 q4
      rw [e] at this
      exact Nat.dvd_of_mod_eq_zero (by omega)
    have hWK : W / K ≤ 64 := Nat.le_trans (Nat.div_le_self _ _) (by omega)
    have hHK : H / K ≤ 64 := Nat.le_trans (Nat.div_le_self _ _) (by omega)
    have hP : W / K * (H / K) ≤ 64 * 64 := Nat.mul_le_mul hWK hHK
    have eW : IntKind.i64.wrap ((W : Int).tdiv K) = ((W / K : Nat) : Int) := by
      exact wrap_nat (Nat.le_trans hWK (by decide))
    have eH : IntKind.i64.wrap ((H : Int).tdiv K) = ((H / K : Nat) : Int) := by
      exact wrap_nat (Nat.le_trans hHK (by decide))
    have eP : IntKind.i64.wrap (((W / K : Nat) : Int) * ((H / K : Nat) : Int)) = ((W / K * (H / K) : Nat) : Int) := by
      rw [← Int.natCast_mul]
      exact wrap_nat (Nat.le_trans hP (by decide))
    rw [eW, eH, eP]
    refine ⟨by omega, by omega, by omega, by omega, ?_⟩
    simp only [Int.toNat_natCast] at hR
    refine TT.sat_loop (fun v => ∃ c : Nat, v.i 0 = c ∧ c ≤ W * H ∧ v.d 1 = rowsI (coN W H K (cellsI r) c)) (fun v => W * H - (v.i 0).toNat)
      ⟨0, by simp [val_i, aget, E.ev], by omega, ?_⟩ (fun v hv => ?_)
    · simp only [val_d, aget, beq_self_eq_true, if_true, X.ev, AL.ev, E.ev, arEv, envOf_i, e3, e4, e6, eW, eH, eP, Int.toNat_natCast]
      exact rowsI_rep _ _
    obtain ⟨c, c0, c1, c2⟩ := hv
    have hcl := coN_len W H K (cellsI r) c
    simp only [TT.sat_ret, TT.sat_ite, TT.sat_ob, TT.sat_next, TT.sat_stuck, put_i, put_b, put_d, put_fi, put_fb, put_fd, Ob.ok, B.ev, E.ev, X.ev, AL.ev, cmp_t, cmp_f, arEv, V.plain, V2.plain, S.plain, S0.plain, V.val, V2.val, S.val, S0.val, bV, iV, List.all_cons, List.all_nil, Bool.and_true, Bool.and_self, envOf_i, envOf_b, envOf_d, List.map_cons, List.map_nil, true_and, Bool.not_eq_true', Bool.not_eq_false', Bool.not_not, Bool.and_eq_true, and_f, cell_lg, cell_lb, cell_lr, cmpP, val_i, val_b, val_d, aget, Nat.reduceBEq, beq_self_eq_true, Bool.false_eq_true, if_true, if_false, Nat.reduceLT, Nat.reduceSub, Nat.sub_self, Nat.lt_irrefl, c0, c2, e0, e1, e2, e3, e4, e5, e6, hn, rowsI_len, hcl]
    refine ⟨fun hc => ?_, fun hc => ?_⟩
    · have hcc : c < W * H := by omega
      have hix := coIdx_lt hK dW dH hW hcc
      have a1 : c % W < W := Nat.mod_lt _ hW
      have a2 : c % W / K ≤ c % W := Nat.div_le_self _ _
      have a3 : c / W ≤ c := Nat.div_le_self _ _
      have a4 : c / W / K ≤ c / W := Nat.div_le_self _ _
      have x1 : IntKind.i64.wrap (((c : Int).tmod W).tdiv K) = ((c % W / K : Nat) : Int) := by
        exact wrap_nat (Nat.le_trans a2 (by omega))
      have x2 : IntKind.i64.wrap ((c : Int).tdiv W) = ((c / W : Nat) : Int) := by
        exact wrap_nat (Nat.le_trans a3 (by omega))
      have x3 : IntKind.i64.wrap (((c / W : Nat) : Int).tdiv K) = ((c / W / K : Nat) : Int) := by
        exact wrap_nat (Nat.le_trans a4 (Nat.le_trans a3 (by omega)))
      have x4 : IntKind.i64.wrap (((c / W / K : Nat) : Int) * ((W / K : Nat) : Int)) = ((c / W / K * (W / K) : Nat) : Int) := by
        have : c / W / K * (W / K) ≤ 4096 * 64 := Nat.mul_le_mul (Nat.le_trans a4 (Nat.le_trans a3 (by omega))) hWK
        rw [← Int.natCast_mul]
        exact wrap_nat (Nat.le_trans this (by decide))
      have x5 : IntKind.i64.wrap (((c % W / K : Nat) : Int) + ((c / W / K * (W / K) : Nat) : Int)) = ((coIdx W K c : Nat) : Int) := by
        rw [← Int.natCast_add]
        exact wrap_nat (Nat.le_trans (Nat.le_of_lt hix) (Nat.le_trans hP (by decide)))
      have x6 : IntKind.i64.wrap ((c : Int) + 1) = ((c + 1 : Nat) : Int) := by rw [wrap_in _ (by omega) (by omega)]; omega
      rw [x1, x2, x3, eW, x4, x5, x6, lg_rowsI (by omega), lg_cells (by omega), rowsI_set]
      exact ⟨by omega, by omega, by omega, by omega, by omega, by omega, by omega, by omega, ⟨c + 1, rfl, by omega, rfl⟩, by rw [Int.toNat_natCast, Int.toNat_natCast]; omega⟩
    · have hcn : c = W * H := by omega
      refine leaf_grid (x := .var 6001) (by kernel_rfl) ?_ (fun v => ?_)
      · rw [hR]
        simp only [X.ev, put_d, TT.sat_ret, TT.sat_ite, TT.sat_ob, TT.sat_next, TT.sat_stuck, put_i, put_b, put_d, put_fi, put_fb, put_fd, Ob.ok, B.ev, E.ev, X.ev, AL.ev, cmp_t, cmp_f, arEv, V.plain, V2.plain, S.plain, S0.plain, V.val, V2.val, S.val, S0.val, bV, iV, List.all_cons, List.all_nil, Bool.and_true, Bool.and_self, envOf_i, envOf_b, envOf_d, List.map_cons, List.map_nil, true_and, Bool.not_eq_true', Bool.not_eq_false', Bool.not_not, Bool.and_eq_true, and_f, cell_lg, cell_lb, cell_lr, cmpP, val_i, val_b, val_d, aget, Nat.reduceBEq, beq_self_eq_true, Bool.false_eq_true, if_true, if_false, Nat.reduceLT, Nat.reduceSub, Nat.sub_self, Nat.lt_irrefl, c2]
        rw [hcn]
      · rw [hV]
        simp only [TT.sat_ret, TT.sat_ite, TT.sat_ob, TT.sat_next, TT.sat_stuck, put_i, put_b, put_d, put_fi, put_fb, put_fd, Ob.ok, B.ev, E.ev, X.ev, AL.ev, cmp_t, cmp_f, arEv, V.plain, V2.plain, S.plain, S0.plain, V.val, V2.val, S.val, S0.val, bV, iV, List.all_cons, List.all_nil, Bool.and_true, Bool.and_self, envOf_i, envOf_b, envOf_d, List.map_cons, List.map_nil, true_and, Bool.not_eq_true', Bool.not_eq_false', Bool.not_not, Bool.and_eq_true, and_f, cell_lg, cell_lb, cell_lr, cmpP, val_i, val_b, val_d, aget, Nat.reduceBEq, beq_self_eq_true, Bool.false_eq_true, if_true, if_false, Nat.reduceLT, Nat.reduceSub, Nat.sub_self, Nat.lt_irrefl, e0, e1, e2, e3, e4, e6, ews, eW, eH]
        rfl
end Go.Proofs.YtcjaembdcfppfaaGreat
/- Chapter 11: Least. -/
namespace Go.Proofs.YtcjaembdcfppfaaGreat
open Go.RowKit
def cX (x s : Int) (W c : Nat) : Int := x + ((c % W : Nat) : Int) * s
def cY (y s : Int) (W c : Nat) : Int := y + ((c / W : Nat) : Int) * s
def mtC (x y s : Int) (W c : Nat) (b1 b2 b3 b4 : Int) : Bool := decide (max (cX x s W c) b1 ≤ min (cX x s W c + s) b2 ∧ max (cY y s W c) b3 ≤ min (cY y s W c + s) b4)
def lsN (x y s : Int) (W : Nat) (D : List Int) (b1 b2 b3 b4 : Int) : Nat → Int
  | 0 => 100000
  | c + 1 => if mtC x y s W c b1 b2 b3 b4 = true then min (lsN x y s W D b1 b2 b3 b4 c) (Grid.at_ D c) else lsN x y s W D b1 b2 b3 b4 c
def lsO (ds : List D) : Bool := gvL ds && boxB (iAt ds 6) (iAt ds 7) (iAt ds 8) (iAt ds 9)
def lsW (ds : List D) : Bool := decide (iAt ds 0 ≤ iAt ds 6 ∧ iAt ds 7 ≤ iAt ds 0 + iAt ds 3 * iAt ds 2 ∧ iAt ds 1 ≤ iAt ds 8 ∧ iAt ds 9 ≤ iAt ds 1 + iAt ds 4 * iAt ds 2)
def lsE (ds : List D) : Int := if lsO ds = true then (if lsW ds = true then 0 else 3) else 1
def lsR (ds : List D) : Int := if lsE ds = 0 then lsN (iAt ds 0) (iAt ds 1) (iAt ds 2) (iAt ds 3).toNat (cellsI (rAt ds 5)) (iAt ds 6) (iAt ds 7) (iAt ds 8) (iAt ds 9) ((iAt ds 3).toNat * (iAt ds 4).toNat) else 0
theorem le_within (a b c d e f g h : Int) : withinR [.i a, .i b, .i c, .i d, .i e, .i f, .i g, .i h] = (boxB a b c d && boxB e f g h && decide (e ≤ a ∧ b ≤ f ∧ g ≤ c ∧ d ≤ h)) := rfl
theorem le_meet (a b c d e f g h : Int) : meetE [.i a, .i b, .i c, .i d, .i e, .i f, .i g, .i h] = if (boxB a b c d && boxB e f g h && decide (max a e ≤ min b f ∧ max c g ≤ min d h)) = true then 0 else if (boxB a b c d && boxB e f g h) = true then 4 else 1 := rfl
theorem mt_iff {x y s : Int} {W c : Nat} {b1 b2 b3 b4 : Int} (hc : boxB (cX x s W c) (cX x s W c + s) (cY y s W c) (cY y s W c + s) = true) (hb : boxB b1 b2 b3 b4 = true) :
    meetE [.i (cX x s W c), .i (cX x s W c + s), .i (cY y s W c), .i (cY y s W c + s), .i b1, .i b2, .i b3, .i b4] = 0 ↔ mtC x y s W c b1 b2 b3 b4 = true := by
  rw [le_meet, hc, hb]
  unfold mtC
  simp only [Bool.true_and]
  by_cases q : (max (cX x s W c) b1 ≤ min (cX x s W c + s) b2 ∧ max (cY y s W c) b3 ≤ min (cY y s W c + s) b4)
  · rw [decide_eq_true q]; simp
  · rw [decide_eq_false q]; simp
theorem fr_k {x y s w h : Int} (hf : frP x y s w h) : frC x y s w h := by
  unfold frP at hf
  have p1 := prod_in (a := w) (b := s) (m := 64) (n := 100000) (by omega) (by omega) (by omega) (by omega)
  have p2 := prod_in (a := h) (b := s) (m := 64) (n := 100000) (by omega) (by omega) (by omega) (by omega)
  unfold frC
  omega
theorem fr_four {x y s w h : Int} {r : Rows} (hf : frP x y s w h) : frX [.i x, .i y, .i s, .i w, .i h, .l r] = x ∧ frX2 [.i x, .i y, .i s, .i w, .i h, .l r] = x + w * s ∧ frY [.i x, .i y, .i s, .i w, .i h, .l r] = y ∧ frY2 [.i x, .i y, .i s, .i w, .i h, .l r] = y + h * s := by
  have hk : frK [.i x, .i y, .i s, .i w, .i h, .l r] = true := decide_eq_true (fr_k hf)
  exact ⟨if_pos hk, if_pos hk, if_pos hk, if_pos hk⟩
theorem rc_of {W i j : Nat} (hi : i < W) : (j * W + i) % W = i ∧ (j * W + i) / W = j := by
  constructor
  · rw [Nat.add_comm, Nat.add_mul_mod_self_right, Nat.mod_eq_of_lt hi]
  · rw [Nat.add_comm, Nat.add_mul_div_right _ _ (by omega), Nat.div_eq_of_lt hi, Nat.zero_add]
theorem step_in {s : Int} {i W : Nat} (hs : 1 ≤ s) (hi : i < W) : 0 ≤ (i : Int) * s ∧ (i : Int) * s + s ≤ (W : Int) * s := by
  refine ⟨Int.mul_nonneg (by omega) (by omega), ?_⟩
  have := Int.mul_le_mul_of_nonneg_right (show ((i : Int) + 1) ≤ (W : Int) by omega) (show 0 ≤ s by omega)
  rw [Int.add_mul, Int.one_mul] at this
  exact this
theorem gcell_lt {W H i j : Nat} (hi : i < W) (hj : j < H) : j * W + i < W * H := by
  have := Nat.mul_le_mul_right W (show j + 1 ≤ H by omega)
  rw [Nat.add_mul, Nat.one_mul, Nat.mul_comm H W] at this
  omega
theorem KGfb51 (W : World) (ds l : List D) : (envOf KGf W ds).fb 51 l = withinR l := by simp only [envOf, KGf, KGc, KGb, KGa, K80, K79, K78, K77, K76, K75, K74, K73, K72, K71, KI, KH, KG, KF, KE, KD, KC, KB, KA, K9, K8, K7, K6, K5, K]
theorem KGfi41 (W : World) (ds l : List D) : (envOf KGf W ds).fi 41 l = meetE l := by simp only [envOf, KGf, KGc, KGb, KGa, K80, K79, K78, K77, K76, K75, K74, K73, K72, K71, KI, KH, KG, KF, KE, KD, KC, KB, KA, K9, K8, K7, K6, K5, K]
theorem KGfi181 (W : World) (ds l : List D) : (envOf KGf W ds).fi 181 l = frX l := by simp only [envOf, KGf]
theorem KGfi182 (W : World) (ds l : List D) : (envOf KGf W ds).fi 182 l = frX2 l := by simp only [envOf, KGf]
theorem KGfi183 (W : World) (ds l : List D) : (envOf KGf W ds).fi 183 l = frY l := by simp only [envOf, KGf]
theorem KGfi184 (W : World) (ds l : List D) : (envOf KGf W ds).fi 184 l = frY2 l := by simp only [envOf, KGf]
set_option maxHeartbeats 2000000 in
theorem gLeast : Gives Tryz.prog 15 [gridS, bx] (fun ds => .tuple #[.int .i64 (lsR ds), .int .i64 (lsE ds)]) := by
  refine GivesIf.all (fn_gives KGf (by kernel_rfl) (fun ρ h => ctGf_ok (Sees.of h 190) (SeesD.of h 5)) (by kernel_rfl) trLeast_is trLeast_low (by decide) (fun W0 vals ds hr _ => ?_))
  have hR : lsR ds = if lsE ds = 0 then lsN (iAt ds 0) (iAt ds 1) (iAt ds 2) (iAt ds 3).toNat (cellsI (rAt ds 5)) (iAt ds 6) (iAt ds 7) (iAt ds 8) (iAt ds 9) ((iAt ds 3).toNat * (iAt ds 4).toNat) else 0 := rfl
  have hE : lsE ds = if lsO ds = true then (if lsW ds = true then 0 else 3) else 1 := rfl
  have hO : lsO ds = (gvB (iAt ds 0) (iAt ds 1) (iAt ds 2) (iAt ds 3) (iAt ds 4) (rAt ds 5) && boxB (iAt ds 6) (iAt ds 7) (iAt ds 8) (iAt ds 9)) := rfl
  have hW : lsW ds = decide (iAt ds 0 ≤ iAt ds 6 ∧ iAt ds 7 ≤ iAt ds 0 + iAt ds 3 * iAt ds 2 ∧ iAt ds 1 ≤ iAt ds 8 ∧ iAt ds 9 ≤ iAt ds 1 + iAt ds 4 * iAt ds 2) := rfl
  clear hr
  simp only [trLeast, TT.sat_ret, TT.sat_ite, TT.sat_ob, TT.sat_next, TT.sat_stuck, put_i, put_b, put_d, put_fi, put_fb, put_fd, Ob.ok, B.ev, E.ev, X.ev, AL.ev, cmp_t, cmp_f, arEv, V.plain, V2.plain, S.plain, S0.plain, V.val, V2.val, S.val, S0.val, bV, iV, List.all_cons, List.all_nil, Bool.and_true, Bool.and_self, envOf_i, envOf_b, envOf_d, List.map_cons, List.map_nil, true_and, Bool.not_eq_true', Bool.not_eq_false', Bool.not_not, Bool.and_eq_true, and_f, cell_lg, cell_lb, cell_lr, cmpP, val_i, val_b, val_d, aget, Nat.reduceBEq, beq_self_eq_true, Bool.false_eq_true, if_true, if_false, Nat.reduceLT, Nat.reduceSub, Nat.sub_self, Nat.lt_irrefl, KGfb150, KGfb31, KGfb51, KGfi41, KGfi181, KGfi182, KGfi183, KGfi184, gv_six, box_five, le_within]
  generalize e0 : iAt ds 0 = x at *
  generalize e1 : iAt ds 1 = y at *
  generalize e2 : iAt ds 2 = s at *
  generalize e3 : iAt ds 3 = w at *
  generalize e4 : iAt ds 4 = h at *
  generalize e5 : rAt ds 5 = r at *
  generalize e6 : iAt ds 6 = b1 at *
  generalize e7 : iAt ds 7 = b2 at *
  generalize e8 : iAt ds 8 = b3 at *
  generalize e9 : iAt ds 9 = b4 at *
  have no : lsO ds = false → Value.tuple #[.int .i64 0, .int .i64 1] = .tuple #[.int .i64 (lsR ds), .int .i64 (lsE ds)] := fun q => by
    rw [q] at hE
    have hE : lsE ds = 1 := hE
    rw [hE, if_neg (by decide)] at hR
    rw [hE, hR]
  refine ⟨fun hg => no (by rw [hO, hg, Bool.false_and]), fun hg => ⟨fun hb => no (by rw [hO, hb, Bool.and_false]), fun hb => ?_⟩⟩
  obtain ⟨hf, hl, hcell⟩ := gv_facts hg
  obtain ⟨f1, f2, f3, f4⟩ := fr_four (r := r) hf
  rw [f1, f2, f3, f4, hb]
  have hok : lsO ds = true := by rw [hO, hg, hb]; rfl
  rw [if_pos hok] at hE
  have hf' := hf
  unfold frP at hf
  have p1 := prod_in (a := w) (b := s) (m := 64) (n := 100000) (by omega) (by omega) (by omega) (by omega)
  have p2 := prod_in (a := h) (b := s) (m := 64) (n := 100000) (by omega) (by omega) (by omega) (by omega)
  have hfb : boxB x (x + w * s) y (y + h * s) = true := by unfold boxB; exact decide_eq_true (by omega)
  rw [hfb]
  refine ⟨fun q => ?_, fun q => ?_⟩
  · have : lsW ds = false := by rw [hW]; simpa using q
    rw [this] at hE
    have hE : lsE ds = 3 := hE
    rw [hE, if_neg (by decide)] at hR
    rw [hE, hR]
  have hwt : lsW ds = true := by rw [hW]; simpa using q
  rw [if_pos hwt] at hE
  rw [if_pos hE] at hR
  obtain ⟨W, rfl⟩ := Int.eq_ofNat_of_zero_le (a := w) (by omega)
  obtain ⟨H, rfl⟩ := Int.eq_ofNat_of_zero_le (a := h) (by omega)
  have hn : r.length = W * H := by
    have : (r.length : Int) = ((W * H : Nat) : Int) := by rw [hl]; simp
    omega
  simp only [Int.toNat_natCast] at hR
  have hWH : W * H ≤ 64 * 64 := Nat.mul_le_mul (by omega) (by omega)
  have hbb := hb
  unfold boxB at hbb
  have hbb := of_decide_eq_true hbb
  refine TT.sat_loop (fun v => ∃ j : Nat, v.i 0 = j ∧ j ≤ H ∧ v.i 1 = (j * W : Nat) ∧ v.i 2 = lsN x y s W (cellsI r) b1 b2 b3 b4 (j * W)) (fun v => H - (v.i 0).toNat)
    ⟨0, by simp [val_i, aget, E.ev], by omega, by simp [val_i, aget, E.ev], by simp [val_i, aget, E.ev, lsN]⟩ (fun v hv => ?_)
  obtain ⟨j, j0, j1, j2, j3⟩ := hv
  simp only [TT.sat_ret, TT.sat_ite, TT.sat_ob, TT.sat_next, TT.sat_stuck, put_i, put_b, put_d, put_fi, put_fb, put_fd, Ob.ok, B.ev, E.ev, X.ev, AL.ev, cmp_t, cmp_f, arEv, V.plain, V2.plain, S.plain, S0.plain, V.val, V2.val, S.val, S0.val, bV, iV, List.all_cons, List.all_nil, Bool.and_true, Bool.and_self, envOf_i, envOf_b, envOf_d, List.map_cons, List.map_nil, true_and, Bool.not_eq_true', Bool.not_eq_false', Bool.not_not, Bool.and_eq_true, and_f, cell_lg, cell_lb, cell_lr, cmpP, val_i, val_b, val_d, aget, Nat.reduceBEq, beq_self_eq_true, Bool.false_eq_true, if_true, if_false, Nat.reduceLT, Nat.reduceSub, Nat.sub_self, Nat.lt_irrefl, j0, j2, j3, e0, e1, e2, e3, e4, e5, e6, e7, e8, e9]
  refine ⟨fun hj => ?_, fun hj => ?_⟩
  · have hjH : j < H := by omega
    refine TT.sat_loop (fun u => ∃ i : Nat, u.i 0 = i ∧ i ≤ W ∧ u.i 1 = (j * W + i : Nat) ∧ u.i 2 = lsN x y s W (cellsI r) b1 b2 b3 b4 (j * W + i)) (fun u => W - (u.i 0).toNat)
      ⟨0, by simp [val_i, aget, E.ev], by omega, by simp [val_i, aget, E.ev, put_i, j2], by simp [val_i, aget, E.ev, put_i, j3]⟩ (fun u hu => ?_)
    obtain ⟨i, i0, i1, i2, i3⟩ := hu
    simp only [TT.sat_ret, TT.sat_ite, TT.sat_ob, TT.sat_next, TT.sat_stuck, put_i, put_b, put_d, put_fi, put_fb, put_fd, Ob.ok, B.ev, E.ev, X.ev, AL.ev, cmp_t, cmp_f, arEv, V.plain, V2.plain, S.plain, S0.plain, V.val, V2.val, S.val, S0.val, bV, iV, List.all_cons, List.all_nil, Bool.and_true, Bool.and_self, envOf_i, envOf_b, envOf_d, List.map_cons, List.map_nil, true_and, Bool.not_eq_true', Bool.not_eq_false', Bool.not_not, Bool.and_eq_true, and_f, cell_lg, cell_lb, cell_lr, cmpP, val_i, val_b, val_d, aget, Nat.reduceBEq, beq_self_eq_true, Bool.false_eq_true, if_true, if_false, Nat.reduceLT, Nat.reduceSub, Nat.sub_self, Nat.lt_irrefl, j0, j2, j3, i0, i2, i3, e0, e1, e2, e3, e4, e5, e6, e7, e8, e9, KGfi41, show ((0 : Nat) = 1) = False from by simp, if_false]
    refine ⟨fun hi => ?_, fun hi => ?_⟩
    · have hiW : i < W := by omega
      obtain ⟨c1, c2⟩ := rc_of (j := j) hiW
      have hcl := gcell_lt hiW hjH
      obtain ⟨s1, s2⟩ := step_in (s := s) (by omega) hiW
      obtain ⟨s3, s4⟩ := step_in (s := s) (by omega) hjH
      have ex : cX x s W (j * W + i) = x + (i : Int) * s := by unfold cX; rw [c1]
      have ey : cY y s W (j * W + i) = y + (j : Int) * s := by unfold cY; rw [c2]
      have hcb : boxB (cX x s W (j * W + i)) (cX x s W (j * W + i) + s) (cY y s W (j * W + i)) (cY y s W (j * W + i) + s) = true := by
        rw [ex, ey]; unfold boxB; exact decide_eq_true (by omega)
      have hm := mt_iff hcb hb
      rw [ex, ey] at hm
      have x1 : IntKind.i64.wrap ((i : Int) + 1) = ((i + 1 : Nat) : Int) := by rw [wrap_in _ (by omega) (by omega)]; omega
      have x2 : IntKind.i64.wrap (((j * W + i : Nat) : Int) + 1) = ((j * W + (i + 1) : Nat) : Int) := by rw [wrap_in _ (by omega) (by omega)]; omega
      rw [wrap_in ((i : Int) * s) (by omega) (by omega), wrap_in ((j : Int) * s) (by omega) (by omega), wrap_in (x + (i : Int) * s) (by omega) (by omega), wrap_in (y + (j : Int) * s) (by omega) (by omega), wrap_in (x + (i : Int) * s + s) (by omega) (by omega), wrap_in (y + (j : Int) * s + s) (by omega) (by omega), hm, x1, x2, lg_cells (by omega)]
      have hs : lsN x y s W (cellsI r) b1 b2 b3 b4 (j * W + (i + 1)) = if mtC x y s W (j * W + i) b1 b2 b3 b4 = true then min (lsN x y s W (cellsI r) b1 b2 b3 b4 (j * W + i)) (Grid.at_ (cellsI r) (j * W + i)) else lsN x y s W (cellsI r) b1 b2 b3 b4 (j * W + i) := rfl
      refine ⟨fun q => ⟨by omega, by omega, ⟨i + 1, rfl, by omega, rfl, by rw [hs, if_pos q]⟩, by rw [Int.toNat_natCast, Int.toNat_natCast]; omega⟩, fun q => ⟨⟨i + 1, rfl, by omega, rfl, by rw [hs, if_neg q]⟩, by rw [Int.toNat_natCast, Int.toNat_natCast]; omega⟩⟩
    · have hiW : i = W := by omega
      subst hiW
      have x1 : IntKind.i64.wrap ((j : Int) + 1) = ((j + 1 : Nat) : Int) := by rw [wrap_in _ (by omega) (by omega)]; omega
      have x2 : (j + 1) * i = j * i + i := by rw [Nat.add_mul, Nat.one_mul]
      rw [x1]
      exact ⟨⟨j + 1, rfl, by omega, by rw [x2], by rw [x2]⟩, by rw [Int.toNat_natCast, Int.toNat_natCast]; omega⟩
  · have hjj : j = H := by omega
    subst hjj
    rw [hR, hE, Nat.mul_comm W j]
end Go.Proofs.YtcjaembdcfppfaaGreat
/- Chapter 11: the tree of Make. -/
namespace Go.Proofs.YtcjaembdcfppfaaGreat
open Go.RowKit
-- term trMake: call Tryz.prog ctGf (Lt.of []) 200 10 (symArgs 0 [feats, pt, it, it, it]) [] 0
def trMake : TT OpR :=
(.ite (.not (.fn 180 (.i (.var 1) (.i (.var 2) (.i (.var 3) (.i (.var 4) (.i (.var 5) (.x .nil .nil))))))))
 (.ret ((.tup [(.agg [(.z (.int .i64 (.lit 0))), (.z (.int .i64 (.lit 0))), (.z (.int .i64 (.lit 0))), (.z (.int .i64 (.lit 0))), (.z (.int .i64 (.lit 0))), (.z (.const (.slice none 0 0)))]), (.one (.z (.int .i64 (.lit 1))))]), [], 5))
 (.ite (.not (.fn 140 (.x (.var 0) .nil)))
 (.ret ((.tup [(.agg [(.z (.int .i64 (.lit 0))), (.z (.int .i64 (.lit 0))), (.z (.int .i64 (.lit 0))), (.z (.int .i64 (.lit 0))), (.z (.int .i64 (.lit 0))), (.z (.const (.slice none 0 0)))]), (.one (.z (.int .i64 (.lit 1))))]), [], 5))
 (.loop 0 9000 ⟨[(0, (.lit 0)), (1, (.lit 0)), (1, (.lit 0))], [], [(2, .nil)]⟩
 (.ite (.cmp .lss (.var 9000) (.var 5))
 (.loop 1 11000 ⟨[(0, (.lit 0)), (2, (.var 9001)), (2, (.var 9001))], [], [(1, (.var 9002))]⟩
 (.ite (.cmp .lss (.var 11000) (.var 4))
 (.ite (.not (.fn 31 (.i (.ar .add .i64 (.var 1) (.ar .mul .i64 (.var 11000) (.var 3))) (.i (.ar .add .i64 (.ar .add .i64 (.var 1) (.ar .mul .i64 (.var 11000) (.var 3))) (.var 3)) (.i (.ar .add .i64 (.var 2) (.ar .mul .i64 (.var 9000) (.var 3))) (.i (.ar .add .i64 (.ar .add .i64 (.var 2) (.ar .mul .i64 (.var 9000) (.var 3))) (.var 3)) .nil))))))
 (.loop 2 15000 ⟨[(1, (.lit 100000)), (0, (.lit 0))], [], []⟩
 (.ite (.cmp .lss (.var 15000) (.len (.var 0)))
 (.ob (.tru (.cmp .leq (.lit 0) (.var 15000)))
 (.ob (.tru (.cmp .lss (.var 15000) (.len (.var 0))))
 (.ite (.cmp .geq (.rd (.var 0) (.var 15000) 6) (.var 15001))
 (.next 2 ⟨[(1, (.var 15001)), (0, (.ar .add .i64 (.var 15000) (.lit 1)))], [], []⟩)
 (.ite (.cmp .eql (.fn 119 (.i (.rd (.var 0) (.var 15000) 0) (.i (.rd (.var 0) (.var 15000) 1) (.i (.rd (.var 0) (.var 15000) 2) (.i (.rd (.var 0) (.var 15000) 3) (.i (.rd (.var 0) (.var 15000) 4) (.x (.rd (.var 0) (.var 15000) 5) (.i (.rd (.var 0) (.var 15000) 6) (.i (.rd (.var 0) (.var 15000) 7) (.x (.rd (.var 0) (.var 15000) 8) (.i (.lit 1) (.i (.lit 3) (.i (.lit 0) (.i (.lit 0) (.i (.lit 0) (.x .nil (.i (.lit 0) (.i (.lit 0) (.x .nil .nil))))))))))))))))))) (.lit 0))
 (.ite (.fn 120 (.i (.rd (.var 0) (.var 15000) 0) (.i (.rd (.var 0) (.var 15000) 1) (.i (.rd (.var 0) (.var 15000) 2) (.i (.rd (.var 0) (.var 15000) 3) (.i (.rd (.var 0) (.var 15000) 4) (.x (.rd (.var 0) (.var 15000) 5) (.i (.rd (.var 0) (.var 15000) 6) (.i (.rd (.var 0) (.var 15000) 7) (.x (.rd (.var 0) (.var 15000) 8) (.i (.lit 1) (.i (.lit 3) (.i (.lit 0) (.i (.lit 0) (.i (.lit 0) (.x .nil (.i (.lit 0) (.i (.lit 0) (.x .nil .nil)))))))))))))))))))
 (.next 2 ⟨[(1, (.rd (.var 0) (.var 15000) 6)), (0, (.ar .add .i64 (.var 15000) (.lit 1)))], [], []⟩)
 (.next 2 ⟨[(1, (.var 15001)), (0, (.ar .add .i64 (.var 15000) (.lit 1)))], [], []⟩))
 (.next 2 ⟨[(1, (.var 15001)), (0, (.ar .add .i64 (.var 15000) (.lit 1)))], [], []⟩)))))
 (.ob (.tru (.cmp .leq (.len (.app (.var 11001) (.app (.row (.i (.var 15001) .nil)) .nil))) (.lit 1000000)))
 (.next 1 ⟨[(0, (.ar .add .i64 (.var 11000) (.lit 1))), (2, (.plus (.var 11002) (.lit 1))), (2, (.plus (.var 11002) (.lit 1)))], [], [(1, (.app (.var 11001) (.app (.row (.i (.var 15001) .nil)) .nil)))]⟩))))
 (.ite (.cmp .eql (.ar .add .i64 (.var 1) (.ar .mul .i64 (.var 11000) (.var 3))) (.ar .add .i64 (.ar .add .i64 (.var 1) (.ar .mul .i64 (.var 11000) (.var 3))) (.var 3)))
 (.loop 2 15000 ⟨[(1, (.lit 100000)), (0, (.lit 0))], [], []⟩
 (.ite (.cmp .lss (.var 15000) (.len (.var 0)))
 (.ob (.tru (.cmp .leq (.lit 0) (.var 15000)))
 (.ob (.tru (.cmp .lss (.var 15000) (.len (.var 0))))
 (.ite (.cmp .geq (.rd (.var 0) (.var 15000) 6) (.var 15001))
 (.next 2 ⟨[(1, (.var 15001)), (0, (.ar .add .i64 (.var 15000) (.lit 1)))], [], []⟩)
 (.ite (.cmp .eql (.fn 119 (.i (.rd (.var 0) (.var 15000) 0) (.i (.rd (.var 0) (.var 15000) 1) (.i (.rd (.var 0) (.var 15000) 2) (.i (.rd (.var 0) (.var 15000) 3) (.i (.rd (.var 0) (.var 15000) 4) (.x (.rd (.var 0) (.var 15000) 5) (.i (.rd (.var 0) (.var 15000) 6) (.i (.rd (.var 0) (.var 15000) 7) (.x (.rd (.var 0) (.var 15000) 8) (.i (.lit 1) (.i (.lit 3) (.i (.lit 0) (.i (.lit 0) (.i (.lit 0) (.x .nil (.i (.lit 0) (.i (.lit 0) (.x .nil .nil))))))))))))))))))) (.lit 0))
 (.ite (.fn 120 (.i (.rd (.var 0) (.var 15000) 0) (.i (.rd (.var 0) (.var 15000) 1) (.i (.rd (.var 0) (.var 15000) 2) (.i (.rd (.var 0) (.var 15000) 3) (.i (.rd (.var 0) (.var 15000) 4) (.x (.rd (.var 0) (.var 15000) 5) (.i (.rd (.var 0) (.var 15000) 6) (.i (.rd (.var 0) (.var 15000) 7) (.x (.rd (.var 0) (.var 15000) 8) (.i (.lit 1) (.i (.lit 3) (.i (.lit 0) (.i (.lit 0) (.i (.lit 0) (.x .nil (.i (.lit 0) (.i (.lit 0) (.x .nil .nil)))))))))))))))))))
 (.next 2 ⟨[(1, (.rd (.var 0) (.var 15000) 6)), (0, (.ar .add .i64 (.var 15000) (.lit 1)))], [], []⟩)
 (.next 2 ⟨[(1, (.var 15001)), (0, (.ar .add .i64 (.var 15000) (.lit 1)))], [], []⟩))
 (.next 2 ⟨[(1, (.var 15001)), (0, (.ar .add .i64 (.var 15000) (.lit 1)))], [], []⟩)))))
 (.ob (.tru (.cmp .leq (.len (.app (.var 11001) (.app (.row (.i (.var 15001) .nil)) .nil))) (.lit 1000000)))
 (.next 1 ⟨[(0, (.ar .add .i64 (.var 11000) (.lit 1))), (2, (.plus (.var 11002) (.lit 1))), (2, (.plus (.var 11002) (.lit 1)))], [], [(1, (.app (.var 11001) (.app (.row (.i (.var 15001) .nil)) .nil)))]⟩))))
 (.ite (.cmp .eql (.ar .add .i64 (.var 2) (.ar .mul .i64 (.var 9000) (.var 3))) (.ar .add .i64 (.ar .add .i64 (.var 2) (.ar .mul .i64 (.var 9000) (.var 3))) (.var 3)))
 (.loop 2 15000 ⟨[(1, (.lit 100000)), (0, (.lit 0))], [], []⟩
 (.ite (.cmp .lss (.var 15000) (.len (.var 0)))
 (.ob (.tru (.cmp .leq (.lit 0) (.var 15000)))
 (.ob (.tru (.cmp .lss (.var 15000) (.len (.var 0))))
 (.ite (.cmp .geq (.rd (.var 0) (.var 15000) 6) (.var 15001))
 (.next 2 ⟨[(1, (.var 15001)), (0, (.ar .add .i64 (.var 15000) (.lit 1)))], [], []⟩)
 (.ite (.cmp .eql (.fn 119 (.i (.rd (.var 0) (.var 15000) 0) (.i (.rd (.var 0) (.var 15000) 1) (.i (.rd (.var 0) (.var 15000) 2) (.i (.rd (.var 0) (.var 15000) 3) (.i (.rd (.var 0) (.var 15000) 4) (.x (.rd (.var 0) (.var 15000) 5) (.i (.rd (.var 0) (.var 15000) 6) (.i (.rd (.var 0) (.var 15000) 7) (.x (.rd (.var 0) (.var 15000) 8) (.i (.lit 1) (.i (.lit 3) (.i (.lit 0) (.i (.lit 0) (.i (.lit 0) (.x .nil (.i (.lit 0) (.i (.lit 0) (.x .nil .nil))))))))))))))))))) (.lit 0))
 (.ite (.fn 120 (.i (.rd (.var 0) (.var 15000) 0) (.i (.rd (.var 0) (.var 15000) 1) (.i (.rd (.var 0) (.var 15000) 2) (.i (.rd (.var 0) (.var 15000) 3) (.i (.rd (.var 0) (.var 15000) 4) (.x (.rd (.var 0) (.var 15000) 5) (.i (.rd (.var 0) (.var 15000) 6) (.i (.rd (.var 0) (.var 15000) 7) (.x (.rd (.var 0) (.var 15000) 8) (.i (.lit 1) (.i (.lit 3) (.i (.lit 0) (.i (.lit 0) (.i (.lit 0) (.x .nil (.i (.lit 0) (.i (.lit 0) (.x .nil .nil)))))))))))))))))))
 (.next 2 ⟨[(1, (.rd (.var 0) (.var 15000) 6)), (0, (.ar .add .i64 (.var 15000) (.lit 1)))], [], []⟩)
 (.next 2 ⟨[(1, (.var 15001)), (0, (.ar .add .i64 (.var 15000) (.lit 1)))], [], []⟩))
 (.next 2 ⟨[(1, (.var 15001)), (0, (.ar .add .i64 (.var 15000) (.lit 1)))], [], []⟩)))))
 (.ob (.tru (.cmp .leq (.len (.app (.var 11001) (.app (.row (.i (.var 15001) .nil)) .nil))) (.lit 1000000)))
 (.next 1 ⟨[(0, (.ar .add .i64 (.var 11000) (.lit 1))), (2, (.plus (.var 11002) (.lit 1))), (2, (.plus (.var 11002) (.lit 1)))], [], [(1, (.app (.var 11001) (.app (.row (.i (.var 15001) .nil)) .nil)))]⟩))))
 (.loop 2 16000 ⟨[(1, (.lit 100000)), (0, (.lit 0))], [], []⟩
 (.ite (.cmp .lss (.var 16000) (.len (.var 0)))
 (.ob (.tru (.cmp .leq (.lit 0) (.var 16000)))
 (.ob (.tru (.cmp .lss (.var 16000) (.len (.var 0))))
 (.ite (.cmp .geq (.rd (.var 0) (.var 16000) 6) (.var 16001))
 (.next 2 ⟨[(1, (.var 16001)), (0, (.ar .add .i64 (.var 16000) (.lit 1)))], [], []⟩)
 (.ite (.cmp .eql (.fn 119 (.i (.rd (.var 0) (.var 16000) 0) (.i (.rd (.var 0) (.var 16000) 1) (.i (.rd (.var 0) (.var 16000) 2) (.i (.rd (.var 0) (.var 16000) 3) (.i (.rd (.var 0) (.var 16000) 4) (.x (.rd (.var 0) (.var 16000) 5) (.i (.rd (.var 0) (.var 16000) 6) (.i (.rd (.var 0) (.var 16000) 7) (.x (.rd (.var 0) (.var 16000) 8) (.i (.lit 1) (.i (.lit 3) (.i (.lit 0) (.i (.lit 0) (.i (.lit 0) (.x (.app (.row (.i (.ar .add .i64 (.var 1) (.ar .mul .i64 (.var 11000) (.var 3))) (.i (.ar .add .i64 (.var 2) (.ar .mul .i64 (.var 9000) (.var 3))) .nil))) (.app (.row (.i (.ar .add .i64 (.ar .add .i64 (.var 1) (.ar .mul .i64 (.var 11000) (.var 3))) (.var 3)) (.i (.ar .add .i64 (.var 2) (.ar .mul .i64 (.var 9000) (.var 3))) .nil))) (.app (.row (.i (.ar .add .i64 (.ar .add .i64 (.var 1) (.ar .mul .i64 (.var 11000) (.var 3))) (.var 3)) (.i (.ar .add .i64 (.ar .add .i64 (.var 2) (.ar .mul .i64 (.var 9000) (.var 3))) (.var 3)) .nil))) (.app (.row (.i (.ar .add .i64 (.var 1) (.ar .mul .i64 (.var 11000) (.var 3))) (.i (.ar .add .i64 (.ar .add .i64 (.var 2) (.ar .mul .i64 (.var 9000) (.var 3))) (.var 3)) .nil))) .nil)))) (.i (.lit 0) (.i (.lit 0) (.x .nil .nil))))))))))))))))))) (.lit 0))
 (.ite (.fn 120 (.i (.rd (.var 0) (.var 16000) 0) (.i (.rd (.var 0) (.var 16000) 1) (.i (.rd (.var 0) (.var 16000) 2) (.i (.rd (.var 0) (.var 16000) 3) (.i (.rd (.var 0) (.var 16000) 4) (.x (.rd (.var 0) (.var 16000) 5) (.i (.rd (.var 0) (.var 16000) 6) (.i (.rd (.var 0) (.var 16000) 7) (.x (.rd (.var 0) (.var 16000) 8) (.i (.lit 1) (.i (.lit 3) (.i (.lit 0) (.i (.lit 0) (.i (.lit 0) (.x (.app (.row (.i (.ar .add .i64 (.var 1) (.ar .mul .i64 (.var 11000) (.var 3))) (.i (.ar .add .i64 (.var 2) (.ar .mul .i64 (.var 9000) (.var 3))) .nil))) (.app (.row (.i (.ar .add .i64 (.ar .add .i64 (.var 1) (.ar .mul .i64 (.var 11000) (.var 3))) (.var 3)) (.i (.ar .add .i64 (.var 2) (.ar .mul .i64 (.var 9000) (.var 3))) .nil))) (.app (.row (.i (.ar .add .i64 (.ar .add .i64 (.var 1) (.ar .mul .i64 (.var 11000) (.var 3))) (.var 3)) (.i (.ar .add .i64 (.ar .add .i64 (.var 2) (.ar .mul .i64 (.var 9000) (.var 3))) (.var 3)) .nil))) (.app (.row (.i (.ar .add .i64 (.var 1) (.ar .mul .i64 (.var 11000) (.var 3))) (.i (.ar .add .i64 (.ar .add .i64 (.var 2) (.ar .mul .i64 (.var 9000) (.var 3))) (.var 3)) .nil))) .nil)))) (.i (.lit 0) (.i (.lit 0) (.x .nil .nil)))))))))))))))))))
 (.next 2 ⟨[(1, (.rd (.var 0) (.var 16000) 6)), (0, (.ar .add .i64 (.var 16000) (.lit 1)))], [], []⟩)
 (.next 2 ⟨[(1, (.var 16001)), (0, (.ar .add .i64 (.var 16000) (.lit 1)))], [], []⟩))
 (.next 2 ⟨[(1, (.var 16001)), (0, (.ar .add .i64 (.var 16000) (.lit 1)))], [], []⟩)))))
 (.ob (.tru (.cmp .leq (.len (.app (.var 11001) (.app (.row (.i (.var 16001) .nil)) .nil))) (.lit 1000000)))
 (.next 1 ⟨[(0, (.ar .add .i64 (.var 11000) (.lit 1))), (2, (.plus (.var 11002) (.lit 1))), (2, (.plus (.var 11002) (.lit 1)))], [], [(1, (.app (.var 11001) (.app (.row (.i (.var 16001) .nil)) .nil)))]⟩)))))))
 (.next 0 ⟨[(0, (.ar .add .i64 (.var 9000) (.lit 1))), (1, (.var 11002)), (1, (.var 11002))], [], [(2, (.var 11001))]⟩)))
 (.ret ((.tup [(.agg [(.z (.int .i64 (.var 1))), (.z (.int .i64 (.var 2))), (.z (.int .i64 (.var 3))), (.z (.int .i64 (.var 4))), (.z (.int .i64 (.var 5))), (.z (.own 9 (.var 9001)))]), (.one (.z (.int .i64 (.lit 0))))]), [(9, (.own 3 [(.int .i64)] (.var 9002) (.var 9001)))], 18))))))
-- end trMake
def trMake_h : List (Nat × St) := [
(8, ⟨(List.append [(.v (.one (.z (.yl 7)))), (.v (.one (.z (.ptr 5 0))))] (List.append (List.replicate 5 V.any) (List.append [(.v (.one (.z (.ptr 5 4)))), (.v (.one (.z (.int .i64 (.var 5))))), (.v (.one (.z (.int .i64 (.var 9000)))))] (List.replicate 41 V.any)))), [(9, (.own 3 [(.int .i64)] (.var 9002) (.var 9001))), (7, (.loop .ready none (List.append [(.v (.one (.z (.ext [(.int .i64), (.int .i64), (.int .i64), (.int .i64), (.int .i64), (.sl [(.int .i64), (.int .i64)]), (.int .i64), (.int .i64), (.sl [(.int .i64), (.int .i64), (.int .i64), (.int .i64), (.int .i64), (.int .i64)])] (.var 0) false)))), (.v (.agg [(.z (.int .i64 (.var 1))), (.z (.int .i64 (.var 2)))])), (.v (.one (.z (.int .i64 (.var 3))))), (.v (.one (.z (.int .i64 (.var 4))))), (.v (.one (.z (.int .i64 (.var 5))))), (.v (.one (.z (.ptr 0 0)))), (.v (.one (.z (.ptr 1 0)))), (.v (.one (.z .any))), (.v (.one (.z .any))), (.v (.one (.z .any))), (.v (.one (.z (.ptr 2 0)))), (.v (.one (.z (.int .i64 (.lit 0))))), (.v (.one (.z (.ptr 3 0)))), (.v (.one (.z (.ptr 4 0)))), (.v (.one (.z (.bool (.fn 180 (.i (.var 1) (.i (.var 2) (.i (.var 3) (.i (.var 4) (.i (.var 5) (.x .nil .nil)))))))))))] (List.append (List.replicate 9 V.any) (List.append [(.v (.agg [(.z (.int .i64 (.var 1))), (.z (.int .i64 (.var 2)))])), (.v (.one (.z (.int .i64 (.var 3))))), (.v (.one (.z (.int .i64 (.var 4))))), (.v (.one (.z (.int .i64 (.var 5))))), (.v (.agg [(.z (.int .i64 (.var 1))), (.z (.int .i64 (.var 2))), (.z (.int .i64 (.var 3))), (.z (.int .i64 (.var 4))), (.z (.int .i64 (.var 5))), (.z (.const (.slice none 0 0)))])), (.v (.one (.z .any))), (.v (.agg [(.z (.int .i64 (.var 1))), (.z (.int .i64 (.var 2))), (.z (.int .i64 (.var 3))), (.z (.int .i64 (.var 4))), (.z (.int .i64 (.var 5))), (.z (.const (.slice none 0 0)))])), (.v (.one (.z .any))), (.v (.agg [(.z (.int .i64 (.fn 181 (.i (.var 1) (.i (.var 2) (.i (.var 3) (.i (.var 4) (.i (.var 5) (.x .nil .nil))))))))), (.z (.int .i64 (.fn 182 (.i (.var 1) (.i (.var 2) (.i (.var 3) (.i (.var 4) (.i (.var 5) (.x .nil .nil))))))))), (.z (.int .i64 (.fn 183 (.i (.var 1) (.i (.var 2) (.i (.var 3) (.i (.var 4) (.i (.var 5) (.x .nil .nil))))))))), (.z (.int .i64 (.fn 184 (.i (.var 1) (.i (.var 2) (.i (.var 3) (.i (.var 4) (.i (.var 5) (.x .nil .nil)))))))))])), (.v (.one (.z (.bool (.fn 180 (.i (.var 1) (.i (.var 2) (.i (.var 3) (.i (.var 4) (.i (.var 5) (.x .nil .nil))))))))))), (.v (.one (.z (.bool (.fn 180 (.i (.var 1) (.i (.var 2) (.i (.var 3) (.i (.var 4) (.i (.var 5) (.x .nil .nil))))))))))), (.v (.one (.z (.bool (.not (.fn 180 (.i (.var 1) (.i (.var 2) (.i (.var 3) (.i (.var 4) (.i (.var 5) (.x .nil .nil)))))))))))), (.v (.one (.z (.bool (.lit false))))), (.v (.one (.z (.ext [(.int .i64), (.int .i64), (.int .i64), (.int .i64), (.int .i64), (.sl [(.int .i64), (.int .i64)]), (.int .i64), (.int .i64), (.sl [(.int .i64), (.int .i64), (.int .i64), (.int .i64), (.int .i64), (.int .i64)])] (.var 0) false)))), (.v (.one (.z (.bool (.fn 140 (.x (.var 0) .nil)))))), (.v (.one (.z (.bool (.not (.fn 140 (.x (.var 0) .nil))))))), (.v (.one (.z (.bool (.not (.fn 140 (.x (.var 0) .nil))))))), (.v (.one (.z .any))), (.v (.agg [(.z (.int .i64 (.var 1))), (.z (.int .i64 (.var 2))), (.z (.int .i64 (.var 3))), (.z (.int .i64 (.var 4))), (.z (.int .i64 (.var 5))), (.z (.const (.slice none 0 0)))])), (.v (.one (.z (.clo 58 [(5, 0)]))))] (List.replicate 39 V.any)))) [] .skip .skip 6)), (6, (.dfd false)), (5, (.cells 27 [(.z (.int .i64 (.var 1))), (.z (.int .i64 (.var 2))), (.z (.int .i64 (.var 3))), (.z (.int .i64 (.var 4))), (.z (.int .i64 (.var 5))), (.z (.const (.slice none 0 0)))])), (4, (.cells 31 [(.z (.int .i64 (.fn 181 (.i (.var 1) (.i (.var 2) (.i (.var 3) (.i (.var 4) (.i (.var 5) (.x .nil .nil))))))))), (.z (.int .i64 (.fn 182 (.i (.var 1) (.i (.var 2) (.i (.var 3) (.i (.var 4) (.i (.var 5) (.x .nil .nil))))))))), (.z (.int .i64 (.fn 183 (.i (.var 1) (.i (.var 2) (.i (.var 3) (.i (.var 4) (.i (.var 5) (.x .nil .nil))))))))), (.z (.int .i64 (.fn 184 (.i (.var 1) (.i (.var 2) (.i (.var 3) (.i (.var 4) (.i (.var 5) (.x .nil .nil)))))))))])), (3, (.cells 27 [(.z (.int .i64 (.var 1))), (.z (.int .i64 (.var 2))), (.z (.int .i64 (.var 3))), (.z (.int .i64 (.var 4))), (.z (.int .i64 (.var 5))), (.z (.own 9 (.var 9001)))])), (2, (.cells 27 [(.z (.int .i64 (.lit 0))), (.z (.int .i64 (.lit 0))), (.z (.int .i64 (.lit 0))), (.z (.int .i64 (.lit 0))), (.z (.int .i64 (.lit 0))), (.z (.const (.slice none 0 0)))])), (1, (.cells 24 [(.z (.int .i64 (.var 1))), (.z (.int .i64 (.var 2)))])), (0, (.cells 22 [(.z (.ext [(.int .i64), (.int .i64), (.int .i64), (.int .i64), (.int .i64), (.sl [(.int .i64), (.int .i64)]), (.int .i64), (.int .i64), (.sl [(.int .i64), (.int .i64), (.int .i64), (.int .i64), (.int .i64), (.int .i64)])] (.var 0) false))]))], 10, []⟩),
(10, ⟨(List.append [(.v (.one (.z (.yl 7)))), (.v (.one (.z (.ptr 5 0)))), (.v (.one (.z .any))), (.v (.one (.z (.int .i64 (.var 9000))))), (.v (.one (.z .any))), (.v (.one (.z .any))), (.v (.one (.z .any))), (.v (.one (.z (.ptr 5 4)))), (.v (.one (.z (.int .i64 (.var 5))))), (.v (.one (.z (.int .i64 (.var 9000))))), (.v (.one (.z (.bool (.cmp .lss (.var 9000) (.var 5)))))), (.v (.one (.z (.int .i64 (.var 9000))))), (.v (.one (.z (.ptr 5 3)))), (.v (.one (.z (.int .i64 (.var 4))))), (.v (.one (.z (.int .i64 (.var 11000)))))] (List.replicate 36 V.any)), [(9, (.own 3 [(.int .i64)] (.var 11001) (.var 11002))), (7, (.loop .ready none (List.append [(.v (.one (.z (.ext [(.int .i64), (.int .i64), (.int .i64), (.int .i64), (.int .i64), (.sl [(.int .i64), (.int .i64)]), (.int .i64), (.int .i64), (.sl [(.int .i64), (.int .i64), (.int .i64), (.int .i64), (.int .i64), (.int .i64)])] (.var 0) false)))), (.v (.agg [(.z (.int .i64 (.var 1))), (.z (.int .i64 (.var 2)))])), (.v (.one (.z (.int .i64 (.var 3))))), (.v (.one (.z (.int .i64 (.var 4))))), (.v (.one (.z (.int .i64 (.var 5))))), (.v (.one (.z (.ptr 0 0)))), (.v (.one (.z (.ptr 1 0)))), (.v (.one (.z .any))), (.v (.one (.z .any))), (.v (.one (.z .any))), (.v (.one (.z (.ptr 2 0)))), (.v (.one (.z (.int .i64 (.lit 0))))), (.v (.one (.z (.ptr 3 0)))), (.v (.one (.z (.ptr 4 0)))), (.v (.one (.z (.bool (.fn 180 (.i (.var 1) (.i (.var 2) (.i (.var 3) (.i (.var 4) (.i (.var 5) (.x .nil .nil)))))))))))] (List.append (List.replicate 9 V.any) (List.append [(.v (.agg [(.z (.int .i64 (.var 1))), (.z (.int .i64 (.var 2)))])), (.v (.one (.z (.int .i64 (.var 3))))), (.v (.one (.z (.int .i64 (.var 4))))), (.v (.one (.z (.int .i64 (.var 5))))), (.v (.agg [(.z (.int .i64 (.var 1))), (.z (.int .i64 (.var 2))), (.z (.int .i64 (.var 3))), (.z (.int .i64 (.var 4))), (.z (.int .i64 (.var 5))), (.z (.const (.slice none 0 0)))])), (.v (.one (.z .any))), (.v (.agg [(.z (.int .i64 (.var 1))), (.z (.int .i64 (.var 2))), (.z (.int .i64 (.var 3))), (.z (.int .i64 (.var 4))), (.z (.int .i64 (.var 5))), (.z (.const (.slice none 0 0)))])), (.v (.one (.z .any))), (.v (.agg [(.z (.int .i64 (.fn 181 (.i (.var 1) (.i (.var 2) (.i (.var 3) (.i (.var 4) (.i (.var 5) (.x .nil .nil))))))))), (.z (.int .i64 (.fn 182 (.i (.var 1) (.i (.var 2) (.i (.var 3) (.i (.var 4) (.i (.var 5) (.x .nil .nil))))))))), (.z (.int .i64 (.fn 183 (.i (.var 1) (.i (.var 2) (.i (.var 3) (.i (.var 4) (.i (.var 5) (.x .nil .nil))))))))), (.z (.int .i64 (.fn 184 (.i (.var 1) (.i (.var 2) (.i (.var 3) (.i (.var 4) (.i (.var 5) (.x .nil .nil)))))))))])), (.v (.one (.z (.bool (.fn 180 (.i (.var 1) (.i (.var 2) (.i (.var 3) (.i (.var 4) (.i (.var 5) (.x .nil .nil))))))))))), (.v (.one (.z (.bool (.fn 180 (.i (.var 1) (.i (.var 2) (.i (.var 3) (.i (.var 4) (.i (.var 5) (.x .nil .nil))))))))))), (.v (.one (.z (.bool (.not (.fn 180 (.i (.var 1) (.i (.var 2) (.i (.var 3) (.i (.var 4) (.i (.var 5) (.x .nil .nil)))))))))))), (.v (.one (.z (.bool (.lit false))))), (.v (.one (.z (.ext [(.int .i64), (.int .i64), (.int .i64), (.int .i64), (.int .i64), (.sl [(.int .i64), (.int .i64)]), (.int .i64), (.int .i64), (.sl [(.int .i64), (.int .i64), (.int .i64), (.int .i64), (.int .i64), (.int .i64)])] (.var 0) false)))), (.v (.one (.z (.bool (.fn 140 (.x (.var 0) .nil)))))), (.v (.one (.z (.bool (.not (.fn 140 (.x (.var 0) .nil))))))), (.v (.one (.z (.bool (.not (.fn 140 (.x (.var 0) .nil))))))), (.v (.one (.z .any))), (.v (.agg [(.z (.int .i64 (.var 1))), (.z (.int .i64 (.var 2))), (.z (.int .i64 (.var 3))), (.z (.int .i64 (.var 4))), (.z (.int .i64 (.var 5))), (.z (.const (.slice none 0 0)))])), (.v (.one (.z (.clo 58 [(5, 0)]))))] (List.replicate 39 V.any)))) [] .skip .skip 6)), (6, (.dfd false)), (5, (.cells 27 [(.z (.int .i64 (.var 1))), (.z (.int .i64 (.var 2))), (.z (.int .i64 (.var 3))), (.z (.int .i64 (.var 4))), (.z (.int .i64 (.var 5))), (.z (.const (.slice none 0 0)))])), (4, (.cells 31 [(.z (.int .i64 (.fn 181 (.i (.var 1) (.i (.var 2) (.i (.var 3) (.i (.var 4) (.i (.var 5) (.x .nil .nil))))))))), (.z (.int .i64 (.fn 182 (.i (.var 1) (.i (.var 2) (.i (.var 3) (.i (.var 4) (.i (.var 5) (.x .nil .nil))))))))), (.z (.int .i64 (.fn 183 (.i (.var 1) (.i (.var 2) (.i (.var 3) (.i (.var 4) (.i (.var 5) (.x .nil .nil))))))))), (.z (.int .i64 (.fn 184 (.i (.var 1) (.i (.var 2) (.i (.var 3) (.i (.var 4) (.i (.var 5) (.x .nil .nil)))))))))])), (3, (.cells 27 [(.z (.int .i64 (.var 1))), (.z (.int .i64 (.var 2))), (.z (.int .i64 (.var 3))), (.z (.int .i64 (.var 4))), (.z (.int .i64 (.var 5))), (.z (.own 9 (.var 11002)))])), (2, (.cells 27 [(.z (.int .i64 (.lit 0))), (.z (.int .i64 (.lit 0))), (.z (.int .i64 (.lit 0))), (.z (.int .i64 (.lit 0))), (.z (.int .i64 (.lit 0))), (.z (.const (.slice none 0 0)))])), (1, (.cells 24 [(.z (.int .i64 (.var 1))), (.z (.int .i64 (.var 2)))])), (0, (.cells 22 [(.z (.ext [(.int .i64), (.int .i64), (.int .i64), (.int .i64), (.int .i64), (.sl [(.int .i64), (.int .i64)]), (.int .i64), (.int .i64), (.sl [(.int .i64), (.int .i64), (.int .i64), (.int .i64), (.int .i64), (.int .i64)])] (.var 0) false))]))], 11, []⟩),
(14, ⟨(List.append [(.v (.one (.z (.ext [(.int .i64), (.int .i64), (.int .i64), (.int .i64), (.int .i64), (.sl [(.int .i64), (.int .i64)]), (.int .i64), (.int .i64), (.sl [(.int .i64), (.int .i64), (.int .i64), (.int .i64), (.int .i64), (.int .i64)])] (.var 0) false)))), (.v (.agg [(.z (.int .i64 (.var 1))), (.z (.int .i64 (.var 2)))])), (.v (.one (.z (.int .i64 (.var 3))))), (.v (.one (.z (.int .i64 (.var 4))))), (.v (.one (.z (.int .i64 (.var 5))))), (.v (.one (.z (.ptr 0 0)))), (.v (.one (.z (.ptr 1 0)))), (.v (.one (.z .any))), (.v (.one (.z .any))), (.v (.one (.z .any))), (.v (.one (.z (.ptr 2 0)))), (.v (.one (.z (.int .i64 (.lit 0))))), (.v (.one (.z (.ptr 3 0)))), (.v (.one (.z (.ptr 4 0)))), (.v (.one (.z (.bool (.fn 180 (.i (.var 1) (.i (.var 2) (.i (.var 3) (.i (.var 4) (.i (.var 5) (.x .nil .nil))))))))))), (.v (.one (.z (.ptr 11 0)))), (.v (.one (.z (.const (.slice none 0 0))))), (.v (.one (.z (.int .i64 (.lit 1))))), (.v (.one (.z (.ptr 13 0)))), (.v (.one (.z (.int .i64 (.var 15001)))))] (List.append (List.replicate 4 V.any) (List.append [(.v (.agg [(.z (.int .i64 (.var 1))), (.z (.int .i64 (.var 2)))])), (.v (.one (.z (.int .i64 (.var 3))))), (.v (.one (.z (.int .i64 (.var 4))))), (.v (.one (.z (.int .i64 (.var 5))))), (.v (.agg [(.z (.int .i64 (.var 1))), (.z (.int .i64 (.var 2))), (.z (.int .i64 (.var 3))), (.z (.int .i64 (.var 4))), (.z (.int .i64 (.var 5))), (.z (.const (.slice none 0 0)))])), (.v (.one (.z .any))), (.v (.agg [(.z (.int .i64 (.var 1))), (.z (.int .i64 (.var 2))), (.z (.int .i64 (.var 3))), (.z (.int .i64 (.var 4))), (.z (.int .i64 (.var 5))), (.z (.const (.slice none 0 0)))])), (.v (.one (.z .any))), (.v (.agg [(.z (.int .i64 (.fn 181 (.i (.var 1) (.i (.var 2) (.i (.var 3) (.i (.var 4) (.i (.var 5) (.x .nil .nil))))))))), (.z (.int .i64 (.fn 182 (.i (.var 1) (.i (.var 2) (.i (.var 3) (.i (.var 4) (.i (.var 5) (.x .nil .nil))))))))), (.z (.int .i64 (.fn 183 (.i (.var 1) (.i (.var 2) (.i (.var 3) (.i (.var 4) (.i (.var 5) (.x .nil .nil))))))))), (.z (.int .i64 (.fn 184 (.i (.var 1) (.i (.var 2) (.i (.var 3) (.i (.var 4) (.i (.var 5) (.x .nil .nil)))))))))])), (.v (.one (.z (.bool (.fn 180 (.i (.var 1) (.i (.var 2) (.i (.var 3) (.i (.var 4) (.i (.var 5) (.x .nil .nil))))))))))), (.v (.one (.z (.bool (.fn 180 (.i (.var 1) (.i (.var 2) (.i (.var 3) (.i (.var 4) (.i (.var 5) (.x .nil .nil))))))))))), (.v (.one (.z (.bool (.not (.fn 180 (.i (.var 1) (.i (.var 2) (.i (.var 3) (.i (.var 4) (.i (.var 5) (.x .nil .nil)))))))))))), (.v (.one (.z (.bool (.lit false))))), (.v (.one (.z (.ext [(.int .i64), (.int .i64), (.int .i64), (.int .i64), (.int .i64), (.sl [(.int .i64), (.int .i64)]), (.int .i64), (.int .i64), (.sl [(.int .i64), (.int .i64), (.int .i64), (.int .i64), (.int .i64), (.int .i64)])] (.var 0) false)))), (.v (.one (.z (.bool (.fn 140 (.x (.var 0) .nil)))))), (.v (.one (.z (.bool (.not (.fn 140 (.x (.var 0) .nil))))))), (.v (.one (.z (.bool (.not (.fn 140 (.x (.var 0) .nil))))))), (.v (.one (.z .any))), (.v (.agg [(.z (.int .i64 (.var 1))), (.z (.int .i64 (.var 2))), (.z (.int .i64 (.var 3))), (.z (.int .i64 (.var 4))), (.z (.int .i64 (.var 5))), (.z (.const (.slice none 0 0)))])), (.v (.one (.z (.clo 58 [(5, 0)])))), (.v (.agg [(.z (.int .i64 (.ar .add .i64 (.var 1) (.ar .mul .i64 (.var 11000) (.var 3))))), (.z (.int .i64 (.ar .add .i64 (.ar .add .i64 (.var 1) (.ar .mul .i64 (.var 11000) (.var 3))) (.var 3)))), (.z (.int .i64 (.ar .add .i64 (.var 2) (.ar .mul .i64 (.var 9000) (.var 3))))), (.z (.int .i64 (.ar .add .i64 (.ar .add .i64 (.var 2) (.ar .mul .i64 (.var 9000) (.var 3))) (.var 3))))])), (.v (.one (.z .any))), (.v (.agg [(.z (.int .i64 (.ar .add .i64 (.var 1) (.ar .mul .i64 (.var 11000) (.var 3))))), (.z (.int .i64 (.ar .add .i64 (.ar .add .i64 (.var 1) (.ar .mul .i64 (.var 11000) (.var 3))) (.var 3)))), (.z (.int .i64 (.ar .add .i64 (.var 2) (.ar .mul .i64 (.var 9000) (.var 3))))), (.z (.int .i64 (.ar .add .i64 (.ar .add .i64 (.var 2) (.ar .mul .i64 (.var 9000) (.var 3))) (.var 3))))])), (.v (.one (.z .any))), (.v (.one (.z (.const (.slice none 0 0))))), (.v (.one (.z (.int .i64 (.lit 1))))), (.v (.one (.z (.const (.slice none 0 0))))), (.v (.agg [(.z (.int .i64 (.lit 1))), (.z (.int .i64 (.lit 3))), (.z (.int .i64 (.lit 0))), (.z (.int .i64 (.lit 0))), (.z (.int .i64 (.lit 0))), (.z (.const (.slice none 0 0))), (.z (.int .i64 (.lit 0))), (.z (.int .i64 (.lit 0))), (.z (.const (.slice none 0 0)))])), (.v (.one (.z (.ext [(.int .i64), (.int .i64), (.int .i64), (.int .i64), (.int .i64), (.sl [(.int .i64), (.int .i64)]), (.int .i64), (.int .i64), (.sl [(.int .i64), (.int .i64), (.int .i64), (.int .i64), (.int .i64), (.int .i64)])] (.var 0) false)))), (.v (.one (.z (.int .i64 (.len (.var 0)))))), (.v (.one (.z (.int .i64 (.var 15000)))))] (List.replicate 28 V.any)))), [(13, (.cells 67 [(.z (.int .i64 (.lit 1))), (.z (.int .i64 (.lit 3))), (.z (.int .i64 (.lit 0))), (.z (.int .i64 (.lit 0))), (.z (.int .i64 (.lit 0))), (.z (.const (.slice none 0 0))), (.z (.int .i64 (.lit 0))), (.z (.int .i64 (.lit 0))), (.z (.const (.slice none 0 0)))])), (7, (.loop .busy none (List.append [(.v (.one (.z (.ext [(.int .i64), (.int .i64), (.int .i64), (.int .i64), (.int .i64), (.sl [(.int .i64), (.int .i64)]), (.int .i64), (.int .i64), (.sl [(.int .i64), (.int .i64), (.int .i64), (.int .i64), (.int .i64), (.int .i64)])] (.var 0) false)))), (.v (.agg [(.z (.int .i64 (.var 1))), (.z (.int .i64 (.var 2)))])), (.v (.one (.z (.int .i64 (.var 3))))), (.v (.one (.z (.int .i64 (.var 4))))), (.v (.one (.z (.int .i64 (.var 5))))), (.v (.one (.z (.ptr 0 0)))), (.v (.one (.z (.ptr 1 0)))), (.v (.one (.z .any))), (.v (.one (.z .any))), (.v (.one (.z .any))), (.v (.one (.z (.ptr 2 0)))), (.v (.one (.z (.int .i64 (.lit 0))))), (.v (.one (.z (.ptr 3 0)))), (.v (.one (.z (.ptr 4 0)))), (.v (.one (.z (.bool (.fn 180 (.i (.var 1) (.i (.var 2) (.i (.var 3) (.i (.var 4) (.i (.var 5) (.x .nil .nil)))))))))))] (List.append (List.replicate 9 V.any) (List.append [(.v (.agg [(.z (.int .i64 (.var 1))), (.z (.int .i64 (.var 2)))])), (.v (.one (.z (.int .i64 (.var 3))))), (.v (.one (.z (.int .i64 (.var 4))))), (.v (.one (.z (.int .i64 (.var 5))))), (.v (.agg [(.z (.int .i64 (.var 1))), (.z (.int .i64 (.var 2))), (.z (.int .i64 (.var 3))), (.z (.int .i64 (.var 4))), (.z (.int .i64 (.var 5))), (.z (.const (.slice none 0 0)))])), (.v (.one (.z .any))), (.v (.agg [(.z (.int .i64 (.var 1))), (.z (.int .i64 (.var 2))), (.z (.int .i64 (.var 3))), (.z (.int .i64 (.var 4))), (.z (.int .i64 (.var 5))), (.z (.const (.slice none 0 0)))])), (.v (.one (.z .any))), (.v (.agg [(.z (.int .i64 (.fn 181 (.i (.var 1) (.i (.var 2) (.i (.var 3) (.i (.var 4) (.i (.var 5) (.x .nil .nil))))))))), (.z (.int .i64 (.fn 182 (.i (.var 1) (.i (.var 2) (.i (.var 3) (.i (.var 4) (.i (.var 5) (.x .nil .nil))))))))), (.z (.int .i64 (.fn 183 (.i (.var 1) (.i (.var 2) (.i (.var 3) (.i (.var 4) (.i (.var 5) (.x .nil .nil))))))))), (.z (.int .i64 (.fn 184 (.i (.var 1) (.i (.var 2) (.i (.var 3) (.i (.var 4) (.i (.var 5) (.x .nil .nil)))))))))])), (.v (.one (.z (.bool (.fn 180 (.i (.var 1) (.i (.var 2) (.i (.var 3) (.i (.var 4) (.i (.var 5) (.x .nil .nil))))))))))), (.v (.one (.z (.bool (.fn 180 (.i (.var 1) (.i (.var 2) (.i (.var 3) (.i (.var 4) (.i (.var 5) (.x .nil .nil))))))))))), (.v (.one (.z (.bool (.not (.fn 180 (.i (.var 1) (.i (.var 2) (.i (.var 3) (.i (.var 4) (.i (.var 5) (.x .nil .nil)))))))))))), (.v (.one (.z (.bool (.lit false))))), (.v (.one (.z (.ext [(.int .i64), (.int .i64), (.int .i64), (.int .i64), (.int .i64), (.sl [(.int .i64), (.int .i64)]), (.int .i64), (.int .i64), (.sl [(.int .i64), (.int .i64), (.int .i64), (.int .i64), (.int .i64), (.int .i64)])] (.var 0) false)))), (.v (.one (.z (.bool (.fn 140 (.x (.var 0) .nil)))))), (.v (.one (.z (.bool (.not (.fn 140 (.x (.var 0) .nil))))))), (.v (.one (.z (.bool (.not (.fn 140 (.x (.var 0) .nil))))))), (.v (.one (.z .any))), (.v (.agg [(.z (.int .i64 (.var 1))), (.z (.int .i64 (.var 2))), (.z (.int .i64 (.var 3))), (.z (.int .i64 (.var 4))), (.z (.int .i64 (.var 5))), (.z (.const (.slice none 0 0)))])), (.v (.one (.z (.clo 58 [(5, 0)]))))] (List.replicate 39 V.any)))) [] .skip .skip 6)), (11, (.cells 31 [(.z (.int .i64 (.ar .add .i64 (.var 1) (.ar .mul .i64 (.var 11000) (.var 3))))), (.z (.int .i64 (.ar .add .i64 (.ar .add .i64 (.var 1) (.ar .mul .i64 (.var 11000) (.var 3))) (.var 3)))), (.z (.int .i64 (.ar .add .i64 (.var 2) (.ar .mul .i64 (.var 9000) (.var 3))))), (.z (.int .i64 (.ar .add .i64 (.ar .add .i64 (.var 2) (.ar .mul .i64 (.var 9000) (.var 3))) (.var 3))))])), (9, (.own 3 [(.int .i64)] (.var 11001) (.var 11002))), (6, (.dfd false)), (5, (.cells 27 [(.z (.int .i64 (.var 1))), (.z (.int .i64 (.var 2))), (.z (.int .i64 (.var 3))), (.z (.int .i64 (.var 4))), (.z (.int .i64 (.var 5))), (.z (.const (.slice none 0 0)))])), (4, (.cells 31 [(.z (.int .i64 (.fn 181 (.i (.var 1) (.i (.var 2) (.i (.var 3) (.i (.var 4) (.i (.var 5) (.x .nil .nil))))))))), (.z (.int .i64 (.fn 182 (.i (.var 1) (.i (.var 2) (.i (.var 3) (.i (.var 4) (.i (.var 5) (.x .nil .nil))))))))), (.z (.int .i64 (.fn 183 (.i (.var 1) (.i (.var 2) (.i (.var 3) (.i (.var 4) (.i (.var 5) (.x .nil .nil))))))))), (.z (.int .i64 (.fn 184 (.i (.var 1) (.i (.var 2) (.i (.var 3) (.i (.var 4) (.i (.var 5) (.x .nil .nil)))))))))])), (3, (.cells 27 [(.z (.int .i64 (.var 1))), (.z (.int .i64 (.var 2))), (.z (.int .i64 (.var 3))), (.z (.int .i64 (.var 4))), (.z (.int .i64 (.var 5))), (.z (.own 9 (.var 11002)))])), (2, (.cells 27 [(.z (.int .i64 (.lit 0))), (.z (.int .i64 (.lit 0))), (.z (.int .i64 (.lit 0))), (.z (.int .i64 (.lit 0))), (.z (.int .i64 (.lit 0))), (.z (.const (.slice none 0 0)))])), (1, (.cells 24 [(.z (.int .i64 (.var 1))), (.z (.int .i64 (.var 2)))])), (0, (.cells 22 [(.z (.ext [(.int .i64), (.int .i64), (.int .i64), (.int .i64), (.int .i64), (.sl [(.int .i64), (.int .i64)]), (.int .i64), (.int .i64), (.sl [(.int .i64), (.int .i64), (.int .i64), (.int .i64), (.int .i64), (.int .i64)])] (.var 0) false))]))], 15, []⟩),
(14, ⟨(List.append [(.v (.one (.z (.ext [(.int .i64), (.int .i64), (.int .i64), (.int .i64), (.int .i64), (.sl [(.int .i64), (.int .i64)]), (.int .i64), (.int .i64), (.sl [(.int .i64), (.int .i64), (.int .i64), (.int .i64), (.int .i64), (.int .i64)])] (.var 0) false)))), (.v (.agg [(.z (.int .i64 (.var 1))), (.z (.int .i64 (.var 2)))])), (.v (.one (.z (.int .i64 (.var 3))))), (.v (.one (.z (.int .i64 (.var 4))))), (.v (.one (.z (.int .i64 (.var 5))))), (.v (.one (.z (.ptr 0 0)))), (.v (.one (.z (.ptr 1 0)))), (.v (.one (.z .any))), (.v (.one (.z .any))), (.v (.one (.z .any))), (.v (.one (.z (.ptr 2 0)))), (.v (.one (.z (.int .i64 (.lit 0))))), (.v (.one (.z (.ptr 3 0)))), (.v (.one (.z (.ptr 4 0)))), (.v (.one (.z (.bool (.fn 180 (.i (.var 1) (.i (.var 2) (.i (.var 3) (.i (.var 4) (.i (.var 5) (.x .nil .nil))))))))))), (.v (.one (.z (.ptr 11 0)))), (.v (.one (.z (.const (.slice none 0 0))))), (.v (.one (.z (.int .i64 (.lit 4))))), (.v (.one (.z (.ptr 13 0)))), (.v (.one (.z (.int .i64 (.var 15001)))))] (List.append (List.replicate 4 V.any) (List.append [(.v (.agg [(.z (.int .i64 (.var 1))), (.z (.int .i64 (.var 2)))])), (.v (.one (.z (.int .i64 (.var 3))))), (.v (.one (.z (.int .i64 (.var 4))))), (.v (.one (.z (.int .i64 (.var 5))))), (.v (.agg [(.z (.int .i64 (.var 1))), (.z (.int .i64 (.var 2))), (.z (.int .i64 (.var 3))), (.z (.int .i64 (.var 4))), (.z (.int .i64 (.var 5))), (.z (.const (.slice none 0 0)))])), (.v (.one (.z .any))), (.v (.agg [(.z (.int .i64 (.var 1))), (.z (.int .i64 (.var 2))), (.z (.int .i64 (.var 3))), (.z (.int .i64 (.var 4))), (.z (.int .i64 (.var 5))), (.z (.const (.slice none 0 0)))])), (.v (.one (.z .any))), (.v (.agg [(.z (.int .i64 (.fn 181 (.i (.var 1) (.i (.var 2) (.i (.var 3) (.i (.var 4) (.i (.var 5) (.x .nil .nil))))))))), (.z (.int .i64 (.fn 182 (.i (.var 1) (.i (.var 2) (.i (.var 3) (.i (.var 4) (.i (.var 5) (.x .nil .nil))))))))), (.z (.int .i64 (.fn 183 (.i (.var 1) (.i (.var 2) (.i (.var 3) (.i (.var 4) (.i (.var 5) (.x .nil .nil))))))))), (.z (.int .i64 (.fn 184 (.i (.var 1) (.i (.var 2) (.i (.var 3) (.i (.var 4) (.i (.var 5) (.x .nil .nil)))))))))])), (.v (.one (.z (.bool (.fn 180 (.i (.var 1) (.i (.var 2) (.i (.var 3) (.i (.var 4) (.i (.var 5) (.x .nil .nil))))))))))), (.v (.one (.z (.bool (.fn 180 (.i (.var 1) (.i (.var 2) (.i (.var 3) (.i (.var 4) (.i (.var 5) (.x .nil .nil))))))))))), (.v (.one (.z (.bool (.not (.fn 180 (.i (.var 1) (.i (.var 2) (.i (.var 3) (.i (.var 4) (.i (.var 5) (.x .nil .nil)))))))))))), (.v (.one (.z (.bool (.lit false))))), (.v (.one (.z (.ext [(.int .i64), (.int .i64), (.int .i64), (.int .i64), (.int .i64), (.sl [(.int .i64), (.int .i64)]), (.int .i64), (.int .i64), (.sl [(.int .i64), (.int .i64), (.int .i64), (.int .i64), (.int .i64), (.int .i64)])] (.var 0) false)))), (.v (.one (.z (.bool (.fn 140 (.x (.var 0) .nil)))))), (.v (.one (.z (.bool (.not (.fn 140 (.x (.var 0) .nil))))))), (.v (.one (.z (.bool (.not (.fn 140 (.x (.var 0) .nil))))))), (.v (.one (.z .any))), (.v (.agg [(.z (.int .i64 (.var 1))), (.z (.int .i64 (.var 2))), (.z (.int .i64 (.var 3))), (.z (.int .i64 (.var 4))), (.z (.int .i64 (.var 5))), (.z (.const (.slice none 0 0)))])), (.v (.one (.z (.clo 58 [(5, 0)])))), (.v (.agg [(.z (.int .i64 (.ar .add .i64 (.var 1) (.ar .mul .i64 (.var 11000) (.var 3))))), (.z (.int .i64 (.ar .add .i64 (.ar .add .i64 (.var 1) (.ar .mul .i64 (.var 11000) (.var 3))) (.var 3)))), (.z (.int .i64 (.ar .add .i64 (.var 2) (.ar .mul .i64 (.var 9000) (.var 3))))), (.z (.int .i64 (.ar .add .i64 (.ar .add .i64 (.var 2) (.ar .mul .i64 (.var 9000) (.var 3))) (.var 3))))])), (.v (.one (.z .any))), (.v (.agg [(.z (.int .i64 (.ar .add .i64 (.var 1) (.ar .mul .i64 (.var 11000) (.var 3))))), (.z (.int .i64 (.ar .add .i64 (.ar .add .i64 (.var 1) (.ar .mul .i64 (.var 11000) (.var 3))) (.var 3)))), (.z (.int .i64 (.ar .add .i64 (.var 2) (.ar .mul .i64 (.var 9000) (.var 3))))), (.z (.int .i64 (.ar .add .i64 (.ar .add .i64 (.var 2) (.ar .mul .i64 (.var 9000) (.var 3))) (.var 3))))])), (.v (.one (.z .any))), (.v (.one (.z (.const (.slice none 0 0))))), (.v (.one (.z (.int .i64 (.lit 4))))), (.v (.one (.z (.const (.slice none 0 0))))), (.v (.agg [(.z (.int .i64 (.lit 1))), (.z (.int .i64 (.lit 3))), (.z (.int .i64 (.lit 0))), (.z (.int .i64 (.lit 0))), (.z (.int .i64 (.lit 0))), (.z (.const (.slice none 0 0))), (.z (.int .i64 (.lit 0))), (.z (.int .i64 (.lit 0))), (.z (.const (.slice none 0 0)))])), (.v (.one (.z (.ext [(.int .i64), (.int .i64), (.int .i64), (.int .i64), (.int .i64), (.sl [(.int .i64), (.int .i64)]), (.int .i64), (.int .i64), (.sl [(.int .i64), (.int .i64), (.int .i64), (.int .i64), (.int .i64), (.int .i64)])] (.var 0) false)))), (.v (.one (.z (.int .i64 (.len (.var 0)))))), (.v (.one (.z (.int .i64 (.var 15000)))))] (List.replicate 28 V.any)))), [(13, (.cells 67 [(.z (.int .i64 (.lit 1))), (.z (.int .i64 (.lit 3))), (.z (.int .i64 (.lit 0))), (.z (.int .i64 (.lit 0))), (.z (.int .i64 (.lit 0))), (.z (.const (.slice none 0 0))), (.z (.int .i64 (.lit 0))), (.z (.int .i64 (.lit 0))), (.z (.const (.slice none 0 0)))])), (7, (.loop .busy none (List.append [(.v (.one (.z (.ext [(.int .i64), (.int .i64), (.int .i64), (.int .i64), (.int .i64), (.sl [(.int .i64), (.int .i64)]), (.int .i64), (.int .i64), (.sl [(.int .i64), (.int .i64), (.int .i64), (.int .i64), (.int .i64), (.int .i64)])] (.var 0) false)))), (.v (.agg [(.z (.int .i64 (.var 1))), (.z (.int .i64 (.var 2)))])), (.v (.one (.z (.int .i64 (.var 3))))), (.v (.one (.z (.int .i64 (.var 4))))), (.v (.one (.z (.int .i64 (.var 5))))), (.v (.one (.z (.ptr 0 0)))), (.v (.one (.z (.ptr 1 0)))), (.v (.one (.z .any))), (.v (.one (.z .any))), (.v (.one (.z .any))), (.v (.one (.z (.ptr 2 0)))), (.v (.one (.z (.int .i64 (.lit 0))))), (.v (.one (.z (.ptr 3 0)))), (.v (.one (.z (.ptr 4 0)))), (.v (.one (.z (.bool (.fn 180 (.i (.var 1) (.i (.var 2) (.i (.var 3) (.i (.var 4) (.i (.var 5) (.x .nil .nil)))))))))))] (List.append (List.replicate 9 V.any) (List.append [(.v (.agg [(.z (.int .i64 (.var 1))), (.z (.int .i64 (.var 2)))])), (.v (.one (.z (.int .i64 (.var 3))))), (.v (.one (.z (.int .i64 (.var 4))))), (.v (.one (.z (.int .i64 (.var 5))))), (.v (.agg [(.z (.int .i64 (.var 1))), (.z (.int .i64 (.var 2))), (.z (.int .i64 (.var 3))), (.z (.int .i64 (.var 4))), (.z (.int .i64 (.var 5))), (.z (.const (.slice none 0 0)))])), (.v (.one (.z .any))), (.v (.agg [(.z (.int .i64 (.var 1))), (.z (.int .i64 (.var 2))), (.z (.int .i64 (.var 3))), (.z (.int .i64 (.var 4))), (.z (.int .i64 (.var 5))), (.z (.const (.slice none 0 0)))])), (.v (.one (.z .any))), (.v (.agg [(.z (.int .i64 (.fn 181 (.i (.var 1) (.i (.var 2) (.i (.var 3) (.i (.var 4) (.i (.var 5) (.x .nil .nil))))))))), (.z (.int .i64 (.fn 182 (.i (.var 1) (.i (.var 2) (.i (.var 3) (.i (.var 4) (.i (.var 5) (.x .nil .nil))))))))), (.z (.int .i64 (.fn 183 (.i (.var 1) (.i (.var 2) (.i (.var 3) (.i (.var 4) (.i (.var 5) (.x .nil .nil))))))))), (.z (.int .i64 (.fn 184 (.i (.var 1) (.i (.var 2) (.i (.var 3) (.i (.var 4) (.i (.var 5) (.x .nil .nil)))))))))])), (.v (.one (.z (.bool (.fn 180 (.i (.var 1) (.i (.var 2) (.i (.var 3) (.i (.var 4) (.i (.var 5) (.x .nil .nil))))))))))), (.v (.one (.z (.bool (.fn 180 (.i (.var 1) (.i (.var 2) (.i (.var 3) (.i (.var 4) (.i (.var 5) (.x .nil .nil))))))))))), (.v (.one (.z (.bool (.not (.fn 180 (.i (.var 1) (.i (.var 2) (.i (.var 3) (.i (.var 4) (.i (.var 5) (.x .nil .nil)))))))))))), (.v (.one (.z (.bool (.lit false))))), (.v (.one (.z (.ext [(.int .i64), (.int .i64), (.int .i64), (.int .i64), (.int .i64), (.sl [(.int .i64), (.int .i64)]), (.int .i64), (.int .i64), (.sl [(.int .i64), (.int .i64), (.int .i64), (.int .i64), (.int .i64), (.int .i64)])] (.var 0) false)))), (.v (.one (.z (.bool (.fn 140 (.x (.var 0) .nil)))))), (.v (.one (.z (.bool (.not (.fn 140 (.x (.var 0) .nil))))))), (.v (.one (.z (.bool (.not (.fn 140 (.x (.var 0) .nil))))))), (.v (.one (.z .any))), (.v (.agg [(.z (.int .i64 (.var 1))), (.z (.int .i64 (.var 2))), (.z (.int .i64 (.var 3))), (.z (.int .i64 (.var 4))), (.z (.int .i64 (.var 5))), (.z (.const (.slice none 0 0)))])), (.v (.one (.z (.clo 58 [(5, 0)]))))] (List.replicate 39 V.any)))) [] .skip .skip 6)), (11, (.cells 31 [(.z (.int .i64 (.ar .add .i64 (.var 1) (.ar .mul .i64 (.var 11000) (.var 3))))), (.z (.int .i64 (.ar .add .i64 (.ar .add .i64 (.var 1) (.ar .mul .i64 (.var 11000) (.var 3))) (.var 3)))), (.z (.int .i64 (.ar .add .i64 (.var 2) (.ar .mul .i64 (.var 9000) (.var 3))))), (.z (.int .i64 (.ar .add .i64 (.ar .add .i64 (.var 2) (.ar .mul .i64 (.var 9000) (.var 3))) (.var 3))))])), (9, (.own 3 [(.int .i64)] (.var 11001) (.var 11002))), (6, (.dfd false)), (5, (.cells 27 [(.z (.int .i64 (.var 1))), (.z (.int .i64 (.var 2))), (.z (.int .i64 (.var 3))), (.z (.int .i64 (.var 4))), (.z (.int .i64 (.var 5))), (.z (.const (.slice none 0 0)))])), (4, (.cells 31 [(.z (.int .i64 (.fn 181 (.i (.var 1) (.i (.var 2) (.i (.var 3) (.i (.var 4) (.i (.var 5) (.x .nil .nil))))))))), (.z (.int .i64 (.fn 182 (.i (.var 1) (.i (.var 2) (.i (.var 3) (.i (.var 4) (.i (.var 5) (.x .nil .nil))))))))), (.z (.int .i64 (.fn 183 (.i (.var 1) (.i (.var 2) (.i (.var 3) (.i (.var 4) (.i (.var 5) (.x .nil .nil))))))))), (.z (.int .i64 (.fn 184 (.i (.var 1) (.i (.var 2) (.i (.var 3) (.i (.var 4) (.i (.var 5) (.x .nil .nil)))))))))])), (3, (.cells 27 [(.z (.int .i64 (.var 1))), (.z (.int .i64 (.var 2))), (.z (.int .i64 (.var 3))), (.z (.int .i64 (.var 4))), (.z (.int .i64 (.var 5))), (.z (.own 9 (.var 11002)))])), (2, (.cells 27 [(.z (.int .i64 (.lit 0))), (.z (.int .i64 (.lit 0))), (.z (.int .i64 (.lit 0))), (.z (.int .i64 (.lit 0))), (.z (.int .i64 (.lit 0))), (.z (.const (.slice none 0 0)))])), (1, (.cells 24 [(.z (.int .i64 (.var 1))), (.z (.int .i64 (.var 2)))])), (0, (.cells 22 [(.z (.ext [(.int .i64), (.int .i64), (.int .i64), (.int .i64), (.int .i64), (.sl [(.int .i64), (.int .i64)]), (.int .i64), (.int .i64), (.sl [(.int .i64), (.int .i64), (.int .i64), (.int .i64), (.int .i64), (.int .i64)])] (.var 0) false))]))], 15, []⟩),
(15, ⟨(List.append [(.v (.one (.z (.ext [(.int .i64), (.int .i64), (.int .i64), (.int .i64), (.int .i64), (.sl [(.int .i64), (.int .i64)]), (.int .i64), (.int .i64), (.sl [(.int .i64), (.int .i64), (.int .i64), (.int .i64), (.int .i64), (.int .i64)])] (.var 0) false)))), (.v (.agg [(.z (.int .i64 (.var 1))), (.z (.int .i64 (.var 2)))])), (.v (.one (.z (.int .i64 (.var 3))))), (.v (.one (.z (.int .i64 (.var 4))))), (.v (.one (.z (.int .i64 (.var 5))))), (.v (.one (.z (.ptr 0 0)))), (.v (.one (.z (.ptr 1 0)))), (.v (.one (.z .any))), (.v (.one (.z .any))), (.v (.one (.z .any))), (.v (.one (.z (.ptr 2 0)))), (.v (.one (.z (.int .i64 (.lit 0))))), (.v (.one (.z (.ptr 3 0)))), (.v (.one (.z (.ptr 4 0)))), (.v (.one (.z (.bool (.fn 180 (.i (.var 1) (.i (.var 2) (.i (.var 3) (.i (.var 4) (.i (.var 5) (.x .nil .nil))))))))))), (.v (.one (.z (.ptr 11 0)))), (.v (.one (.z (.sl 13 0 4 (some 4))))), (.v (.one (.z (.int .i64 (.lit 0))))), (.v (.one (.z (.ptr 14 0)))), (.v (.one (.z (.int .i64 (.var 16001)))))] (List.append (List.replicate 4 V.any) (List.append [(.v (.agg [(.z (.int .i64 (.var 1))), (.z (.int .i64 (.var 2)))])), (.v (.one (.z (.int .i64 (.var 3))))), (.v (.one (.z (.int .i64 (.var 4))))), (.v (.one (.z (.int .i64 (.var 5))))), (.v (.agg [(.z (.int .i64 (.var 1))), (.z (.int .i64 (.var 2))), (.z (.int .i64 (.var 3))), (.z (.int .i64 (.var 4))), (.z (.int .i64 (.var 5))), (.z (.const (.slice none 0 0)))])), (.v (.one (.z .any))), (.v (.agg [(.z (.int .i64 (.var 1))), (.z (.int .i64 (.var 2))), (.z (.int .i64 (.var 3))), (.z (.int .i64 (.var 4))), (.z (.int .i64 (.var 5))), (.z (.const (.slice none 0 0)))])), (.v (.one (.z .any))), (.v (.agg [(.z (.int .i64 (.fn 181 (.i (.var 1) (.i (.var 2) (.i (.var 3) (.i (.var 4) (.i (.var 5) (.x .nil .nil))))))))), (.z (.int .i64 (.fn 182 (.i (.var 1) (.i (.var 2) (.i (.var 3) (.i (.var 4) (.i (.var 5) (.x .nil .nil))))))))), (.z (.int .i64 (.fn 183 (.i (.var 1) (.i (.var 2) (.i (.var 3) (.i (.var 4) (.i (.var 5) (.x .nil .nil))))))))), (.z (.int .i64 (.fn 184 (.i (.var 1) (.i (.var 2) (.i (.var 3) (.i (.var 4) (.i (.var 5) (.x .nil .nil)))))))))])), (.v (.one (.z (.bool (.fn 180 (.i (.var 1) (.i (.var 2) (.i (.var 3) (.i (.var 4) (.i (.var 5) (.x .nil .nil))))))))))), (.v (.one (.z (.bool (.fn 180 (.i (.var 1) (.i (.var 2) (.i (.var 3) (.i (.var 4) (.i (.var 5) (.x .nil .nil))))))))))), (.v (.one (.z (.bool (.not (.fn 180 (.i (.var 1) (.i (.var 2) (.i (.var 3) (.i (.var 4) (.i (.var 5) (.x .nil .nil)))))))))))), (.v (.one (.z (.bool (.lit false))))), (.v (.one (.z (.ext [(.int .i64), (.int .i64), (.int .i64), (.int .i64), (.int .i64), (.sl [(.int .i64), (.int .i64)]), (.int .i64), (.int .i64), (.sl [(.int .i64), (.int .i64), (.int .i64), (.int .i64), (.int .i64), (.int .i64)])] (.var 0) false)))), (.v (.one (.z (.bool (.fn 140 (.x (.var 0) .nil)))))), (.v (.one (.z (.bool (.not (.fn 140 (.x (.var 0) .nil))))))), (.v (.one (.z (.bool (.not (.fn 140 (.x (.var 0) .nil))))))), (.v (.one (.z .any))), (.v (.agg [(.z (.int .i64 (.var 1))), (.z (.int .i64 (.var 2))), (.z (.int .i64 (.var 3))), (.z (.int .i64 (.var 4))), (.z (.int .i64 (.var 5))), (.z (.const (.slice none 0 0)))])), (.v (.one (.z (.clo 58 [(5, 0)])))), (.v (.agg [(.z (.int .i64 (.ar .add .i64 (.var 1) (.ar .mul .i64 (.var 11000) (.var 3))))), (.z (.int .i64 (.ar .add .i64 (.ar .add .i64 (.var 1) (.ar .mul .i64 (.var 11000) (.var 3))) (.var 3)))), (.z (.int .i64 (.ar .add .i64 (.var 2) (.ar .mul .i64 (.var 9000) (.var 3))))), (.z (.int .i64 (.ar .add .i64 (.ar .add .i64 (.var 2) (.ar .mul .i64 (.var 9000) (.var 3))) (.var 3))))])), (.v (.one (.z .any))), (.v (.agg [(.z (.int .i64 (.ar .add .i64 (.var 1) (.ar .mul .i64 (.var 11000) (.var 3))))), (.z (.int .i64 (.ar .add .i64 (.ar .add .i64 (.var 1) (.ar .mul .i64 (.var 11000) (.var 3))) (.var 3)))), (.z (.int .i64 (.ar .add .i64 (.var 2) (.ar .mul .i64 (.var 9000) (.var 3))))), (.z (.int .i64 (.ar .add .i64 (.ar .add .i64 (.var 2) (.ar .mul .i64 (.var 9000) (.var 3))) (.var 3))))])), (.v (.one (.z .any))), (.v (.one (.z (.sl 13 0 4 (some 4))))), (.v (.one (.z (.int .i64 (.lit 0))))), (.v (.one (.z (.sl 13 0 4 (some 4))))), (.v (.agg [(.z (.int .i64 (.lit 1))), (.z (.int .i64 (.lit 3))), (.z (.int .i64 (.lit 0))), (.z (.int .i64 (.lit 0))), (.z (.int .i64 (.lit 0))), (.z (.sl 13 0 4 (some 4))), (.z (.int .i64 (.lit 0))), (.z (.int .i64 (.lit 0))), (.z (.const (.slice none 0 0)))])), (.v (.one (.z (.ext [(.int .i64), (.int .i64), (.int .i64), (.int .i64), (.int .i64), (.sl [(.int .i64), (.int .i64)]), (.int .i64), (.int .i64), (.sl [(.int .i64), (.int .i64), (.int .i64), (.int .i64), (.int .i64), (.int .i64)])] (.var 0) false)))), (.v (.one (.z (.int .i64 (.len (.var 0)))))), (.v (.one (.z (.int .i64 (.var 16000)))))] (List.replicate 28 V.any)))), [(14, (.cells 67 [(.z (.int .i64 (.lit 1))), (.z (.int .i64 (.lit 3))), (.z (.int .i64 (.lit 0))), (.z (.int .i64 (.lit 0))), (.z (.int .i64 (.lit 0))), (.z (.sl 13 0 4 (some 4))), (.z (.int .i64 (.lit 0))), (.z (.int .i64 (.lit 0))), (.z (.const (.slice none 0 0)))])), (13, (.cells 24 [(.z (.int .i64 (.ar .add .i64 (.var 1) (.ar .mul .i64 (.var 11000) (.var 3))))), (.z (.int .i64 (.ar .add .i64 (.var 2) (.ar .mul .i64 (.var 9000) (.var 3))))), (.z (.int .i64 (.ar .add .i64 (.ar .add .i64 (.var 1) (.ar .mul .i64 (.var 11000) (.var 3))) (.var 3)))), (.z (.int .i64 (.ar .add .i64 (.var 2) (.ar .mul .i64 (.var 9000) (.var 3))))), (.z (.int .i64 (.ar .add .i64 (.ar .add .i64 (.var 1) (.ar .mul .i64 (.var 11000) (.var 3))) (.var 3)))), (.z (.int .i64 (.ar .add .i64 (.ar .add .i64 (.var 2) (.ar .mul .i64 (.var 9000) (.var 3))) (.var 3)))), (.z (.int .i64 (.ar .add .i64 (.var 1) (.ar .mul .i64 (.var 11000) (.var 3))))), (.z (.int .i64 (.ar .add .i64 (.ar .add .i64 (.var 2) (.ar .mul .i64 (.var 9000) (.var 3))) (.var 3))))])), (7, (.loop .busy none (List.append [(.v (.one (.z (.ext [(.int .i64), (.int .i64), (.int .i64), (.int .i64), (.int .i64), (.sl [(.int .i64), (.int .i64)]), (.int .i64), (.int .i64), (.sl [(.int .i64), (.int .i64), (.int .i64), (.int .i64), (.int .i64), (.int .i64)])] (.var 0) false)))), (.v (.agg [(.z (.int .i64 (.var 1))), (.z (.int .i64 (.var 2)))])), (.v (.one (.z (.int .i64 (.var 3))))), (.v (.one (.z (.int .i64 (.var 4))))), (.v (.one (.z (.int .i64 (.var 5))))), (.v (.one (.z (.ptr 0 0)))), (.v (.one (.z (.ptr 1 0)))), (.v (.one (.z .any))), (.v (.one (.z .any))), (.v (.one (.z .any))), (.v (.one (.z (.ptr 2 0)))), (.v (.one (.z (.int .i64 (.lit 0))))), (.v (.one (.z (.ptr 3 0)))), (.v (.one (.z (.ptr 4 0)))), (.v (.one (.z (.bool (.fn 180 (.i (.var 1) (.i (.var 2) (.i (.var 3) (.i (.var 4) (.i (.var 5) (.x .nil .nil)))))))))))] (List.append (List.replicate 9 V.any) (List.append [(.v (.agg [(.z (.int .i64 (.var 1))), (.z (.int .i64 (.var 2)))])), (.v (.one (.z (.int .i64 (.var 3))))), (.v (.one (.z (.int .i64 (.var 4))))), (.v (.one (.z (.int .i64 (.var 5))))), (.v (.agg [(.z (.int .i64 (.var 1))), (.z (.int .i64 (.var 2))), (.z (.int .i64 (.var 3))), (.z (.int .i64 (.var 4))), (.z (.int .i64 (.var 5))), (.z (.const (.slice none 0 0)))])), (.v (.one (.z .any))), (.v (.agg [(.z (.int .i64 (.var 1))), (.z (.int .i64 (.var 2))), (.z (.int .i64 (.var 3))), (.z (.int .i64 (.var 4))), (.z (.int .i64 (.var 5))), (.z (.const (.slice none 0 0)))])), (.v (.one (.z .any))), (.v (.agg [(.z (.int .i64 (.fn 181 (.i (.var 1) (.i (.var 2) (.i (.var 3) (.i (.var 4) (.i (.var 5) (.x .nil .nil))))))))), (.z (.int .i64 (.fn 182 (.i (.var 1) (.i (.var 2) (.i (.var 3) (.i (.var 4) (.i (.var 5) (.x .nil .nil))))))))), (.z (.int .i64 (.fn 183 (.i (.var 1) (.i (.var 2) (.i (.var 3) (.i (.var 4) (.i (.var 5) (.x .nil .nil))))))))), (.z (.int .i64 (.fn 184 (.i (.var 1) (.i (.var 2) (.i (.var 3) (.i (.var 4) (.i (.var 5) (.x .nil .nil)))))))))])), (.v (.one (.z (.bool (.fn 180 (.i (.var 1) (.i (.var 2) (.i (.var 3) (.i (.var 4) (.i (.var 5) (.x .nil .nil))))))))))), (.v (.one (.z (.bool (.fn 180 (.i (.var 1) (.i (.var 2) (.i (.var 3) (.i (.var 4) (.i (.var 5) (.x .nil .nil))))))))))), (.v (.one (.z (.bool (.not (.fn 180 (.i (.var 1) (.i (.var 2) (.i (.var 3) (.i (.var 4) (.i (.var 5) (.x .nil .nil)))))))))))), (.v (.one (.z (.bool (.lit false))))), (.v (.one (.z (.ext [(.int .i64), (.int .i64), (.int .i64), (.int .i64), (.int .i64), (.sl [(.int .i64), (.int .i64)]), (.int .i64), (.int .i64), (.sl [(.int .i64), (.int .i64), (.int .i64), (.int .i64), (.int .i64), (.int .i64)])] (.var 0) false)))), (.v (.one (.z (.bool (.fn 140 (.x (.var 0) .nil)))))), (.v (.one (.z (.bool (.not (.fn 140 (.x (.var 0) .nil))))))), (.v (.one (.z (.bool (.not (.fn 140 (.x (.var 0) .nil))))))), (.v (.one (.z .any))), (.v (.agg [(.z (.int .i64 (.var 1))), (.z (.int .i64 (.var 2))), (.z (.int .i64 (.var 3))), (.z (.int .i64 (.var 4))), (.z (.int .i64 (.var 5))), (.z (.const (.slice none 0 0)))])), (.v (.one (.z (.clo 58 [(5, 0)]))))] (List.replicate 39 V.any)))) [] .skip .skip 6)), (11, (.cells 31 [(.z (.int .i64 (.ar .add .i64 (.var 1) (.ar .mul .i64 (.var 11000) (.var 3))))), (.z (.int .i64 (.ar .add .i64 (.ar .add .i64 (.var 1) (.ar .mul .i64 (.var 11000) (.var 3))) (.var 3)))), (.z (.int .i64 (.ar .add .i64 (.var 2) (.ar .mul .i64 (.var 9000) (.var 3))))), (.z (.int .i64 (.ar .add .i64 (.ar .add .i64 (.var 2) (.ar .mul .i64 (.var 9000) (.var 3))) (.var 3))))])), (9, (.own 3 [(.int .i64)] (.var 11001) (.var 11002))), (6, (.dfd false)), (5, (.cells 27 [(.z (.int .i64 (.var 1))), (.z (.int .i64 (.var 2))), (.z (.int .i64 (.var 3))), (.z (.int .i64 (.var 4))), (.z (.int .i64 (.var 5))), (.z (.const (.slice none 0 0)))])), (4, (.cells 31 [(.z (.int .i64 (.fn 181 (.i (.var 1) (.i (.var 2) (.i (.var 3) (.i (.var 4) (.i (.var 5) (.x .nil .nil))))))))), (.z (.int .i64 (.fn 182 (.i (.var 1) (.i (.var 2) (.i (.var 3) (.i (.var 4) (.i (.var 5) (.x .nil .nil))))))))), (.z (.int .i64 (.fn 183 (.i (.var 1) (.i (.var 2) (.i (.var 3) (.i (.var 4) (.i (.var 5) (.x .nil .nil))))))))), (.z (.int .i64 (.fn 184 (.i (.var 1) (.i (.var 2) (.i (.var 3) (.i (.var 4) (.i (.var 5) (.x .nil .nil)))))))))])), (3, (.cells 27 [(.z (.int .i64 (.var 1))), (.z (.int .i64 (.var 2))), (.z (.int .i64 (.var 3))), (.z (.int .i64 (.var 4))), (.z (.int .i64 (.var 5))), (.z (.own 9 (.var 11002)))])), (2, (.cells 27 [(.z (.int .i64 (.lit 0))), (.z (.int .i64 (.lit 0))), (.z (.int .i64 (.lit 0))), (.z (.int .i64 (.lit 0))), (.z (.int .i64 (.lit 0))), (.z (.const (.slice none 0 0)))])), (1, (.cells 24 [(.z (.int .i64 (.var 1))), (.z (.int .i64 (.var 2)))])), (0, (.cells 22 [(.z (.ext [(.int .i64), (.int .i64), (.int .i64), (.int .i64), (.int .i64), (.sl [(.int .i64), (.int .i64)]), (.int .i64), (.int .i64), (.sl [(.int .i64), (.int .i64), (.int .i64), (.int .i64), (.int .i64), (.int .i64)])] (.var 0) false))]))], 16, []⟩)]
def trMake_j : List (FuncId × Nat × Nat × St) := [
]
set_option maxRecDepth 100000 in
theorem trMake_is : T.norm 0 (call Tryz.prog ctGf ⟨Lt.un (Lt.of []), trMake_h, trMake_j⟩ 200 10 (symArgs 0 [feats, pt, it, it, it]) [] 0) TT.ret = trMake := by kernel_rfl
theorem trMake_low : trMake.low 1000 = true := by kernel_rfl
end Go.Proofs.YtcjaembdcfppfaaGreat
/- Chapter 11: Make. -/
namespace Go.Proofs.YtcjaembdcfppfaaGreat
open Go.RowKit
def rectR (x y s : Int) : Rows := [[.i x, .i y], [.i (x + s), .i y], [.i (x + s), .i (y + s)], [.i x, .i (y + s)]]
def args18 (r : Rows) (i : Nat) (A : Rows) : List D := [.i (lg r i 0), .i (lg r i 1), .i (lg r i 2), .i (lg r i 3), .i (lg r i 4), .l (lr r i 5), .i (lg r i 6), .i (lg r i 7), .l (lr r i 8), .i 1, .i 3, .i 0, .i 0, .i 0, .l A, .i 0, .i 0, .l []]
def tchB (r : Rows) (i : Nat) (A : Rows) : Bool := decide (feE (args18 r i A) = 0) && feToR (args18 r i A)
def mkD (r A : Rows) : Nat → Int
  | 0 => 100000
  | k + 1 => if lg r k 6 < mkD r A k ∧ tchB r k A = true then lg r k 6 else mkD r A k
def mkL (r : Rows) (x y s : Int) (W n : Nat) : List Int := (List.range n).map fun c => mkD r (rectR (cX x s W c) (cY y s W c) s) r.length
theorem mkL_len (r : Rows) (x y s : Int) (W n : Nat) : (mkL r x y s W n).length = n := by simp [mkL]
theorem mkL_snoc (r : Rows) (x y s : Int) (W n : Nat) : mkL r x y s W (n + 1) = mkL r x y s W n ++ [mkD r (rectR (cX x s W n) (cY y s W n) s) r.length] := by
  simp [mkL, List.range_succ]
def mkO (ds : List D) : Bool := decide (frP (iAt ds 1) (iAt ds 2) (iAt ds 3) (iAt ds 4) (iAt ds 5)) && listB (rAt ds 0)
def mkR (ds : List D) : Rows := if mkO ds = true then rowsI (mkL (rAt ds 0) (iAt ds 1) (iAt ds 2) (iAt ds 3) (iAt ds 4).toNat ((iAt ds 4).toNat * (iAt ds 5).toNat)) else []
def mkV (ds : List D) (v : Value) : Value := if mkO ds = true then gvV (iAt ds 1) (iAt ds 2) (iAt ds 3) (iAt ds 4) (iAt ds 5) v 0 else gvV 0 0 0 0 0 v 1
def nlMake : NL := ⟨3, [.int .i64], 6, mkR⟩
theorem fr_six (x y s w h : Int) (r : Rows) : frL [.i x, .i y, .i s, .i w, .i h, .l r] = decide (frP x y s w h) := rfl
theorem list_one (r : Rows) : listL [.l r] = listB r := rfl
theorem KGfb120 (W : World) (ds l : List D) : (envOf KGf W ds).fb 120 l = feToR l := by simp only [envOf, KGf, KGc, KGb, KGa, K80, K79, K78, K77, K76]
theorem KGfi119 (W : World) (ds l : List D) : (envOf KGf W ds).fi 119 l = feE l := by simp only [envOf, KGf, KGc, KGb, KGa, K80, K79, K78, K77, K76]
theorem KGfb140 (W : World) (ds l : List D) : (envOf KGf W ds).fb 140 l = listL l := by simp only [envOf, KGf, KGc, KGb, KGa]
set_option maxHeartbeats 4000000 in
theorem gMake : GivesN Tryz.prog 10 [feats, pt, it, it, it] [nlMake] (fun _ => True) (fun _ ds vs u => ∃ v, vs = [v] ∧ u = mkV ds v) := by
  refine fn_givesN1 KGf (by kernel_rfl) (fun ρ h => ctGf_ok (Sees.of h 190) (SeesD.of h 5)) (by kernel_rfl) trMake_is trMake_low (by decide) (fun w0 vals ds hr _ => ?_)
  have hR : nlMake.rows ds = if mkO ds = true then rowsI (mkL (rAt ds 0) (iAt ds 1) (iAt ds 2) (iAt ds 3) (iAt ds 4).toNat ((iAt ds 4).toNat * (iAt ds 5).toNat)) else [] := rfl
  have hV : ∀ v, mkV ds v = if mkO ds = true then gvV (iAt ds 1) (iAt ds 2) (iAt ds 3) (iAt ds 4) (iAt ds 5) v 0 else gvV 0 0 0 0 0 v 1 := fun _ => rfl
  have hO : mkO ds = (decide (frP (iAt ds 1) (iAt ds 2) (iAt ds 3) (iAt ds 4) (iAt ds 5)) && listB (rAt ds 0)) := rfl
  have bad : ∀ {ρ : Env} {ws : Mem}, mkO ds = false → ∃ s' x', lrowsP ws nlMake.e nlMake.ks s' = some x' ∧ x'.ev ρ = nlMake.rows ds ∧ ∀ (σ : As) u, ρ.w = w0 → (V.tup [.agg [.z (.int .i64 (.lit 0)), .z (.int .i64 (.lit 0)), .z (.int .i64 (.lit 0)), .z (.int .i64 (.lit 0)), .z (.int .i64 (.lit 0)), .z (.const (.slice none 0 0))], .one (.z (.int .i64 (.lit 1)))]).den ρ σ u → ∃ v, s'.den ρ σ v ∧ u = mkV ds v := fun h => by
    rw [h] at hR
    exact leaf_grid (x := .nil) rfl (by rw [hR]; rfl) (fun v => by rw [hV, h]; rfl)
  clear hr
  simp only [trMake, TT.sat_ret, TT.sat_ite, TT.sat_ob, TT.sat_next, TT.sat_stuck, put_i, put_b, put_d, put_fi, put_fb, put_fd, Ob.ok, B.ev, E.ev, X.ev, AL.ev, cmp_t, cmp_f, arEv, V.plain, V2.plain, S.plain, S0.plain, V.val, V2.val, S.val, S0.val, bV, iV, List.all_cons, List.all_nil, Bool.and_true, Bool.and_self, envOf_i, envOf_b, envOf_d, List.map_cons, List.map_nil, true_and, Bool.not_eq_true', Bool.not_eq_false', Bool.not_not, Bool.and_eq_true, and_f, cell_lg, cell_lb, cell_lr, cmpP, val_i, val_b, val_d, aget, Nat.reduceBEq, beq_self_eq_true, Bool.false_eq_true, if_true, if_false, Nat.reduceLT, Nat.reduceSub, Nat.sub_self, Nat.lt_irrefl, KGfb180, KGfb140, fr_six, list_one]
  generalize e0 : rAt ds 0 = r at *
  generalize e1 : iAt ds 1 = x at *
  generalize e2 : iAt ds 2 = y at *
  generalize e3 : iAt ds 3 = s at *
  generalize e4 : iAt ds 4 = w at *
  generalize e5 : iAt ds 5 = h at *
  refine ⟨fun q => bad (by rw [hO, decide_eq_false (by simpa using q)]; rfl), fun hf => ⟨fun q => bad (by rw [hO, q, Bool.and_false]), fun hl => ?_⟩⟩
  have hok : mkO ds = true := by rw [hO, decide_eq_true (by simpa using hf), hl]; rfl
  have hf : frP x y s w h := by simpa using hf
  rw [hok] at hR hV
  simp only [if_true] at hR hV
  have hf' := hf
  unfold frP at hf
  have p1 := prod_in (a := w) (b := s) (m := 64) (n := 100000) (by omega) (by omega) (by omega) (by omega)
  have p2 := prod_in (a := h) (b := s) (m := 64) (n := 100000) (by omega) (by omega) (by omega) (by omega)
  obtain ⟨W, rfl⟩ := Int.eq_ofNat_of_zero_le (a := w) (by omega)
  obtain ⟨H, rfl⟩ := Int.eq_ofNat_of_zero_le (a := h) (by omega)
  simp only [Int.toNat_natCast] at hR
  have hWH : W * H ≤ 64 * 64 := Nat.mul_le_mul (by omega) (by omega)
  have h300 : r.length ≤ 300 := by
    unfold listB at hl
    simp only [Bool.and_eq_true, decide_eq_true_eq] at hl
    exact hl.2
  refine TT.sat_loop (fun v => ∃ j : Nat, v.i 0 = j ∧ j ≤ H ∧ v.d 2 = rowsI (mkL r x y s W (j * W))) (fun v => H - (v.i 0).toNat)
    ⟨0, by simp [val_i, aget, E.ev], by omega, by simp [val_d, aget, X.ev, mkL, rowsI]⟩ (fun v hv => ?_)
  obtain ⟨j, j0, j1, j2⟩ := hv
  simp only [TT.sat_ret, TT.sat_ite, TT.sat_ob, TT.sat_next, TT.sat_stuck, put_i, put_b, put_d, put_fi, put_fb, put_fd, Ob.ok, B.ev, E.ev, X.ev, AL.ev, cmp_t, cmp_f, arEv, V.plain, V2.plain, S.plain, S0.plain, V.val, V2.val, S.val, S0.val, bV, iV, List.all_cons, List.all_nil, Bool.and_true, Bool.and_self, envOf_i, envOf_b, envOf_d, List.map_cons, List.map_nil, true_and, Bool.not_eq_true', Bool.not_eq_false', Bool.not_not, Bool.and_eq_true, and_f, cell_lg, cell_lb, cell_lr, cmpP, val_i, val_b, val_d, aget, Nat.reduceBEq, beq_self_eq_true, Bool.false_eq_true, if_true, if_false, Nat.reduceLT, Nat.reduceSub, Nat.sub_self, Nat.lt_irrefl, j0, j2, e0, e1, e2, e3, e4, e5]
  refine ⟨fun hj => ?_, fun hj => ?_⟩
  · have hjH : j < H := by omega
    refine TT.sat_loop (fun u => ∃ i : Nat, u.i 0 = i ∧ i ≤ W ∧ u.d 1 = rowsI (mkL r x y s W (j * W + i))) (fun u => W - (u.i 0).toNat)
      ⟨0, by simp [val_i, aget, E.ev], by omega, by simp [val_d, aget, X.ev, put_d, j2]⟩ (fun u hu => ?_)
    obtain ⟨i, i0, i1, i2⟩ := hu
    simp only [TT.sat_ret, TT.sat_ite, TT.sat_ob, TT.sat_next, TT.sat_stuck, put_i, put_b, put_d, put_fi, put_fb, put_fd, Ob.ok, B.ev, E.ev, X.ev, AL.ev, cmp_t, cmp_f, arEv, V.plain, V2.plain, S.plain, S0.plain, V.val, V2.val, S.val, S0.val, bV, iV, List.all_cons, List.all_nil, Bool.and_true, Bool.and_self, envOf_i, envOf_b, envOf_d, List.map_cons, List.map_nil, true_and, Bool.not_eq_true', Bool.not_eq_false', Bool.not_not, Bool.and_eq_true, and_f, cell_lg, cell_lb, cell_lr, cmpP, val_i, val_b, val_d, aget, Nat.reduceBEq, beq_self_eq_true, Bool.false_eq_true, if_true, if_false, Nat.reduceLT, Nat.reduceSub, Nat.sub_self, Nat.lt_irrefl, j0, j2, i0, i2, e0, e1, e2, e3, e4, e5, KGfb31, box_five, show ((0 : Nat) = 1) = False from by simp, if_false]
    refine ⟨fun hi => ?_, fun hi => ?_⟩
    · have hiW : i < W := by omega
      obtain ⟨c1, c2⟩ := rc_of (j := j) hiW
      have hcl := gcell_lt hiW hjH
      obtain ⟨s1, s2⟩ := step_in (s := s) (by omega) hiW
      obtain ⟨s3, s4⟩ := step_in (s := s) (by omega) hjH
      have ex : cX x s W (j * W + i) = x + (i : Int) * s := by unfold cX; rw [c1]
      have ey : cY y s W (j * W + i) = y + (j : Int) * s := by unfold cY; rw [c2]
      have x1 : IntKind.i64.wrap ((i : Int) + 1) = ((i + 1 : Nat) : Int) := by rw [wrap_in _ (by omega) (by omega)]; omega
      have wa : IntKind.i64.wrap ((i : Int) * s) = (i : Int) * s := wrap_in _ (by omega) (by omega)
      have wb : IntKind.i64.wrap ((j : Int) * s) = (j : Int) * s := wrap_in _ (by omega) (by omega)
      have wc : IntKind.i64.wrap (x + (i : Int) * s) = x + (i : Int) * s := wrap_in _ (by omega) (by omega)
      have wd : IntKind.i64.wrap (y + (j : Int) * s) = y + (j : Int) * s := wrap_in _ (by omega) (by omega)
      have we : IntKind.i64.wrap (x + (i : Int) * s + s) = x + (i : Int) * s + s := wrap_in _ (by omega) (by omega)
      have wf : IntKind.i64.wrap (y + (j : Int) * s + s) = y + (j : Int) * s + s := wrap_in _ (by omega) (by omega)
      simp only [wa, wb, wc, wd, we, wf]
      have hcb : boxB (x + (i : Int) * s) (x + (i : Int) * s + s) (y + (j : Int) * s) (y + (j : Int) * s + s) = true := by unfold boxB; exact decide_eq_true (by omega)
      rw [hcb]
      refine ⟨(fun q => nomatch q), fun _ => ⟨fun q => by omega, fun _ => ⟨fun q => by omega, fun _ => ?_⟩⟩⟩
      refine TT.sat_loop (fun t => ∃ k : Nat, t.i 0 = k ∧ k ≤ r.length ∧ t.i 1 = mkD r (rectR (x + (i : Int) * s) (y + (j : Int) * s) s) k) (fun t => r.length - (t.i 0).toNat)
        ⟨0, by simp [val_i, aget, E.ev], by omega, by simp [val_i, aget, E.ev, mkD]⟩ (fun t ht => ?_)
      obtain ⟨k, k0, k1, k2⟩ := ht
      simp only [TT.sat_ret, TT.sat_ite, TT.sat_ob, TT.sat_next, TT.sat_stuck, put_i, put_b, put_d, put_fi, put_fb, put_fd, Ob.ok, B.ev, E.ev, X.ev, AL.ev, cmp_t, cmp_f, arEv, V.plain, V2.plain, S.plain, S0.plain, V.val, V2.val, S.val, S0.val, bV, iV, List.all_cons, List.all_nil, Bool.and_true, Bool.and_self, envOf_i, envOf_b, envOf_d, List.map_cons, List.map_nil, true_and, Bool.not_eq_true', Bool.not_eq_false', Bool.not_not, Bool.and_eq_true, and_f, cell_lg, cell_lb, cell_lr, cmpP, val_i, val_b, val_d, aget, Nat.reduceBEq, beq_self_eq_true, Bool.false_eq_true, if_true, if_false, Nat.reduceLT, Nat.reduceSub, Nat.sub_self, Nat.lt_irrefl, j0, j2, i0, i2, k0, k2, e0, e1, e2, e3, e4, e5, KGfi119, KGfb120, wa, wb, wc, wd, we, wf, show ((1 : Nat) = 2) = False from by simp, if_false]
      refine ⟨fun hk => ?_, fun hk => ?_⟩
      · have hkl : k < r.length := by omega
        have x2 : IntKind.i64.wrap ((k : Int) + 1) = ((k + 1 : Nat) : Int) := by rw [wrap_in _ (by omega) (by omega)]; omega
        rw [x2]
        have hs : mkD r (rectR (x + (i : Int) * s) (y + (j : Int) * s) s) (k + 1) = if lg r k 6 < mkD r (rectR (x + (i : Int) * s) (y + (j : Int) * s) s) k ∧ tchB r k (rectR (x + (i : Int) * s) (y + (j : Int) * s) s) = true then lg r k 6 else mkD r (rectR (x + (i : Int) * s) (y + (j : Int) * s) s) k := rfl
        have hT : tchB r k (rectR (x + (i : Int) * s) (y + (j : Int) * s) s) = (decide (feE (args18 r k (rectR (x + (i : Int) * s) (y + (j : Int) * s) s)) = 0) && feToR (args18 r k (rectR (x + (i : Int) * s) (y + (j : Int) * s) s))) := rfl
        show _ ∧ _ ∧ (_ → _) ∧ (_ → (feE (args18 r k (rectR (x + (i : Int) * s) (y + (j : Int) * s) s)) = 0 → (feToR (args18 r k (rectR (x + (i : Int) * s) (y + (j : Int) * s) s)) = true → _) ∧ (feToR (args18 r k (rectR (x + (i : Int) * s) (y + (j : Int) * s) s)) = false → _)) ∧ (¬ feE (args18 r k (rectR (x + (i : Int) * s) (y + (j : Int) * s) s)) = 0 → _))
        generalize rectR (x + (i : Int) * s) (y + (j : Int) * s) s = A at *
        have hm : r.length - ((k + 1 : Nat) : Int).toNat < r.length - ((k : Int)).toNat := by rw [Int.toNat_natCast, Int.toNat_natCast]; omega
        refine ⟨by omega, by omega, fun q => ⟨⟨k + 1, rfl, by omega, by rw [hs, if_neg (fun z => by omega)]⟩, hm⟩, fun q => ⟨fun q1 => ⟨fun q2 => ⟨⟨k + 1, rfl, by omega, ?_⟩, hm⟩, fun q2 => ⟨⟨k + 1, rfl, by omega, ?_⟩, hm⟩⟩, fun q1 => ⟨⟨k + 1, rfl, by omega, ?_⟩, hm⟩⟩⟩
        · rw [hs, if_pos ⟨by omega, by rw [hT, q1, q2]; rfl⟩]
        · rw [hs, if_neg (fun z => by rw [hT, q2, Bool.and_false] at z; exact absurd z.2 (by decide))]
        · rw [hs, if_neg (fun z => by rw [hT, decide_eq_false q1, Bool.false_and] at z; exact absurd z.2 (by decide))]
      · have hkl : k = r.length := by omega
        rw [x1, List.append_nil, rowsI_app, hkl]
        have hsn := mkL_snoc r x y s W (j * W + i)
        rw [ex, ey] at hsn
        rw [← hsn, rowsI_len, mkL_len]
        exact ⟨by omega, ⟨i + 1, rfl, by omega, rfl⟩, by rw [Int.toNat_natCast, Int.toNat_natCast]; omega⟩
    · have hiW : i = W := by omega
      subst hiW
      have x1 : IntKind.i64.wrap ((j : Int) + 1) = ((j + 1 : Nat) : Int) := by rw [wrap_in _ (by omega) (by omega)]; omega
      have x2 : (j + 1) * i = j * i + i := by rw [Nat.add_mul, Nat.one_mul]
      rw [x1]
      exact ⟨⟨j + 1, rfl, by omega, by rw [x2]⟩, by rw [Int.toNat_natCast, Int.toNat_natCast]; omega⟩
  · have hjj : j = H := by omega
    subst hjj
    refine leaf_grid (x := .var 9002) (by kernel_rfl) ?_ (fun v' => ?_)
    · rw [hR]
      simp only [X.ev, put_d, TT.sat_ret, TT.sat_ite, TT.sat_ob, TT.sat_next, TT.sat_stuck, put_i, put_b, put_d, put_fi, put_fb, put_fd, Ob.ok, B.ev, E.ev, X.ev, AL.ev, cmp_t, cmp_f, arEv, V.plain, V2.plain, S.plain, S0.plain, V.val, V2.val, S.val, S0.val, bV, iV, List.all_cons, List.all_nil, Bool.and_true, Bool.and_self, envOf_i, envOf_b, envOf_d, List.map_cons, List.map_nil, true_and, Bool.not_eq_true', Bool.not_eq_false', Bool.not_not, Bool.and_eq_true, and_f, cell_lg, cell_lb, cell_lr, cmpP, val_i, val_b, val_d, aget, Nat.reduceBEq, beq_self_eq_true, Bool.false_eq_true, if_true, if_false, Nat.reduceLT, Nat.reduceSub, Nat.sub_self, Nat.lt_irrefl, j2]
      rw [Nat.mul_comm j W]
    · rw [hV]
      simp only [TT.sat_ret, TT.sat_ite, TT.sat_ob, TT.sat_next, TT.sat_stuck, put_i, put_b, put_d, put_fi, put_fb, put_fd, Ob.ok, B.ev, E.ev, X.ev, AL.ev, cmp_t, cmp_f, arEv, V.plain, V2.plain, S.plain, S0.plain, V.val, V2.val, S.val, S0.val, bV, iV, List.all_cons, List.all_nil, Bool.and_true, Bool.and_self, envOf_i, envOf_b, envOf_d, List.map_cons, List.map_nil, true_and, Bool.not_eq_true', Bool.not_eq_false', Bool.not_not, Bool.and_eq_true, and_f, cell_lg, cell_lb, cell_lr, cmpP, val_i, val_b, val_d, aget, Nat.reduceBEq, beq_self_eq_true, Bool.false_eq_true, if_true, if_false, Nat.reduceLT, Nat.reduceSub, Nat.sub_self, Nat.lt_irrefl, e1, e2, e3, e4, e5]
end Go.Proofs.YtcjaembdcfppfaaGreat
/- Chapter 11: contracts of Make, Coarse, Least. -/
namespace Go.Proofs.YtcjaembdcfppfaaGreat
open Go.RowKit
def KGg : Interp where
  fi n l := match n with | 192 => lsR l | 193 => lsE l | n => KGf.fi n l
  fb n l := match n with | 190 => coO l | 191 => mkO l | n => KGf.fb n l
  fd n l := match n with | 5 => coR l | 6 => mkR l | n => KGf.fd n l
theorem KGg_KGfd {ρ : Env} (h : SeesD ρ KGg 7) : SeesD ρ KGf 5 := fun n l hn => by
  rw [h n l (by omega)]
  simp only [KGg]
  split <;> first | omega | rfl
theorem KGg_KGf {ρ : Env} (h : Sees ρ KGg 200) : Sees ρ KGf 190 := h.trans (by decide) fun n l hn => by
  refine ⟨?_, ?_⟩
  ·
    simp only [KGg]
    split <;> first | omega | rfl
  ·
    simp only [KGg]
    split <;> first | omega | rfl
def outG (a b c d e : E) (er : Int) (nx : Nat) : V := .tup [.agg [.z (.int .i64 a), .z (.int .i64 b), .z (.int .i64 c), .z (.int .i64 d), .z (.int .i64 e), .z (.own nx (.lit 0))], .one (.z (.int .i64 (.lit er)))]
theorem outG_den {ρ : Env} {σ : As} {a b c d e : E} {er : Int} {nx : Nat} {v : Value} (h : (S0.own nx (.lit 0)).den ρ σ v) : (outG a b c d e er nx).den ρ σ (gvV (a.ev ρ) (b.ev ρ) (c.ev ρ) (d.ev ρ) (e.ev ρ) v er) :=
  ⟨[.agg #[.int .i64 (a.ev ρ), .int .i64 (b.ev ρ), .int .i64 (c.ev ρ), .int .i64 (d.ev ρ), .int .i64 (e.ev ρ), v], .int .i64 er], ⟨⟨[.int .i64 (a.ev ρ), .int .i64 (b.ev ρ), .int .i64 (c.ev ρ), .int .i64 (d.ev ρ), .int .i64 (e.ev ρ), v], ⟨rfl, rfl, rfl, rfl, rfl, h, trivial⟩, rfl⟩, rfl, trivial⟩, rfl⟩
def outCo (al : AL) (nx : Nat) : Option (V × V) := match al with
  | .i x (.i y (.i s (.i w (.i h (.x _ (.i k .nil)))))) => some (outG x y (.arS .mul .i64 k s) (.arS .quo .i64 w k) (.arS .quo .i64 h k) 0 nx, outG (.lit 0) (.lit 0) (.lit 0) (.lit 0) (.lit 0) 1 nx)
  | _ => none
def cGCoarse := cNewI [gridS, it] nlCoarse (fun al => bF 190 coO al) outCo
theorem coV_eq (x y s w h k : Int) (r : Rows) (v : Value) : coV [.i x, .i y, .i s, .i w, .i h, .l r, .i k] v = if coO [.i x, .i y, .i s, .i w, .i h, .l r, .i k] = true then gvV x y (k * s) (w.tdiv k) (h.tdiv k) v 0 else gvV 0 0 0 0 0 v 1 := rfl
theorem coO_eq (x y s w h k : Int) (r : Rows) : coO [.i x, .i y, .i s, .i w, .i h, .l r, .i k] = (gvB x y s w h r && decide (1 ≤ k ∧ k ≤ 64 ∧ w.tmod k = 0 ∧ h.tmod k = 0 ∧ k * s ≤ 100000)) := rfl
theorem cGCoarse_ok {ρ : Env} (h : Sees ρ KGg 200) (hd : SeesD ρ KGg 7) : CtOne Tryz.prog ρ 13 cGCoarse := by
  refine cNewI_ok gCoarse (by decide) (fun a => ?_) (fun al nx a b σ' v ho hv => ?_)
  · show ρ.fd 5 a = coR a
    rw [hd 5 _ (by decide)]; simp only [KGg]
  · have hb : (bF 190 coO al).ev ρ = coO (al.ev ρ) := bF_ev (s := 190) (f := coO) (fun l => by rw [(h 190 l (by decide)).2]; simp only [KGg]) al
    rw [hb]
    unfold outCo at ho
    split at ho
    · rename_i x y s w h' r k
      obtain ⟨rfl, rfl⟩ := Prod.mk.inj (Option.some.inj ho)
      simp only [AL.ev]
      rw [coV_eq]
      refine ⟨fun q => ?_, fun q => ?_⟩
      · rw [if_pos q]
        rw [coO_eq] at q
        obtain ⟨hg, q⟩ := Bool.and_eq_true_iff.1 q
        have q := of_decide_eq_true q
        have hf := (gv_facts hg).1
        unfold frP at hf
        have p1 := prod_in (a := k.ev ρ) (b := s.ev ρ) (m := 64) (n := 100000) (by omega) (by omega) (by omega) (by omega)
        have d1 : (w.ev ρ).tdiv (k.ev ρ) ≤ w.ev ρ := Int.tdiv_le_self _ (by omega)
        have d2 : 0 ≤ (w.ev ρ).tdiv (k.ev ρ) := Int.tdiv_nonneg (by omega) (by omega)
        have d3 : (h'.ev ρ).tdiv (k.ev ρ) ≤ h'.ev ρ := Int.tdiv_le_self _ (by omega)
        have d4 : 0 ≤ (h'.ev ρ).tdiv (k.ev ρ) := Int.tdiv_nonneg (by omega) (by omega)
        have e1 : (E.arS .mul .i64 k s).ev ρ = k.ev ρ * s.ev ρ := by rw [E.arS_ev]; simp only [E.ev, arEv]; exact wrap_in _ (by omega) (by omega)
        have e2 : (E.arS .quo .i64 w k).ev ρ = (w.ev ρ).tdiv (k.ev ρ) := by rw [E.arS_ev]; simp only [E.ev, arEv]; exact wrap_in _ (by omega) (by omega)
        have e3 : (E.arS .quo .i64 h' k).ev ρ = (h'.ev ρ).tdiv (k.ev ρ) := by rw [E.arS_ev]; simp only [E.ev, arEv]; exact wrap_in _ (by omega) (by omega)
        rw [← e1, ← e2, ← e3]
        exact outG_den hv
      · rw [if_neg (by rw [q]; decide)]
        exact outG_den (a := .lit 0) (b := .lit 0) (c := .lit 0) (d := .lit 0) (e := .lit 0) hv
    · cases ho
def outMk (al : AL) (nx : Nat) : Option (V × V) := match al with
  | .x _ (.i x (.i y (.i s (.i w (.i h .nil))))) => some (outG x y s w h 0 nx, outG (.lit 0) (.lit 0) (.lit 0) (.lit 0) (.lit 0) 1 nx)
  | _ => none
def cGMake := cNewI [feats, pt, it, it, it] nlMake (fun al => bF 191 mkO al) outMk
theorem mkV_eq (x y s w h : Int) (r : Rows) (v : Value) : mkV [.l r, .i x, .i y, .i s, .i w, .i h] v = if mkO [.l r, .i x, .i y, .i s, .i w, .i h] = true then gvV x y s w h v 0 else gvV 0 0 0 0 0 v 1 := rfl
theorem cGMake_ok {ρ : Env} (h : Sees ρ KGg 200) (hd : SeesD ρ KGg 7) : CtOne Tryz.prog ρ 10 cGMake := by
  refine cNewI_ok gMake (by decide) (fun a => ?_) (fun al nx a b σ' v ho hv => ?_)
  · show ρ.fd 6 a = mkR a
    rw [hd 6 _ (by decide)]; simp only [KGg]
  · have hb : (bF 191 mkO al).ev ρ = mkO (al.ev ρ) := bF_ev (s := 191) (f := mkO) (fun l => by rw [(h 191 l (by decide)).2]; simp only [KGg]) al
    rw [hb]
    unfold outMk at ho
    split at ho
    · rename_i r x y s w h'
      obtain ⟨rfl, rfl⟩ := Prod.mk.inj (Option.some.inj ho)
      simp only [AL.ev]
      rw [mkV_eq]
      refine ⟨fun q => ?_, fun q => ?_⟩
      · rw [if_pos q]
        exact outG_den hv
      · rw [if_neg (by rw [q]; decide)]
        exact outG_den (a := .lit 0) (b := .lit 0) (c := .lit 0) (d := .lit 0) (e := .lit 0) hv
    · cases ho
def cGLeast := ctD [gridS, bx] fun al => .ret (.tup [.one (sIF 192 lsR al), .one (sIF 193 lsE al)])
theorem cGLeast_ok {ρ : Env} (h : Sees ρ KGg 200) : CtOne Tryz.prog ρ 15 cGLeast := by
  refine ctD_ok gLeast (fun _ => rfl) (fun al => ?_)
  have h1 : (iF 192 lsR al).ev ρ = lsR (al.ev ρ) := iF_ev (s := 192) (f := lsR) (fun l => by rw [(h 192 l (by decide)).1]; simp only [KGg]) al
  have h2 : (iF 193 lsE al).ev ρ = lsE (al.ev ρ) := iF_ev (s := 193) (f := lsE) (fun l => by rw [(h 193 l (by decide)).1]; simp only [KGg]) al
  simp only [V.val, V2.val, S.val, S0.val, sIF, List.map_cons, List.map_nil, h1, h2]
def ctGg : Ct := (13, cGCoarse) :: (10, cGMake) :: (15, cGLeast) :: ctGf
theorem ctGg_ok {ρ : Env} (h : Sees ρ KGg 200) (hd : SeesD ρ KGg 7) : CtOk Tryz.prog ρ ctGg := .cons (cGCoarse_ok h hd) <| .cons (cGMake_ok h hd) <| .cons (cGLeast_ok h) <| ctGf_ok (KGg_KGf h) (KGg_KGfd hd)
end Go.Proofs.YtcjaembdcfppfaaGreat
/- Chapter 11: the plain law of GridMore. -/
namespace Go.Proofs.YtcjaembdcfppfaaGreat
open Go.RowKit
section
variable {r : Rows}
theorem mo_fw : ∀ (f i : Nat) (last : Int), lisN r f i last = true → ∀ k : Nat, i ≤ k → k < i + f → featRow r k = true ∧ last < lg r k 0 ∧ ∀ l : Nat, k < l → l < i + f → lg r k 0 < lg r l 0
  | 0, i, last, _, k, h1, h2 => by omega
  | f + 1, i, last, h, k, h1, h2 => by
    simp only [lisN, Bool.and_eq_true, decide_eq_true_eq] at h
    by_cases e : k = i
    · subst e
      exact ⟨h.1.1, h.1.2, fun l g1 g2 => (mo_fw f (k + 1) _ h.2 l (by omega) (by omega)).2.1⟩
    · obtain ⟨g1, g2, g3⟩ := mo_fw f (i + 1) _ h.2 k (by omega) (by omega)
      exact ⟨g1, by omega, fun l q1 q2 => g3 l q1 (by omega)⟩
theorem mo_spec (h : listB r = true) : r.length ≤ 300 ∧ (∀ k : Nat, k < r.length → featRow r k = true) ∧ ∀ k l : Nat, k < l → l < r.length → lg r k 0 < lg r l 0 := by
  simp only [listB, Bool.and_eq_true, decide_eq_true_eq] at h
  exact ⟨h.2, fun k hk => (mo_fw _ 0 0 h.1 k (by omega) (by omega)).1, fun k l h1 h2 => (mo_fw _ 0 0 h.1 k (by omega) (by omega)).2.2 l h1 (by omega)⟩
theorem mkD_spec (A : Rows) : ∀ k, mkD r A k ≤ 100000 ∧ (∀ i, i < k → tchB r i A = true → mkD r A k ≤ lg r i 6) ∧ (mkD r A k = 100000 ∨ ∃ i, i < k ∧ tchB r i A = true ∧ mkD r A k = lg r i 6)
  | 0 => ⟨Int.le_refl _, fun i hi => by omega, .inl rfl⟩
  | k + 1 => by
    obtain ⟨h1, h2, h3⟩ := mkD_spec A k
    rw [mkD]
    by_cases q : lg r k 6 < mkD r A k ∧ tchB r k A = true
    · rw [if_pos q]
      refine ⟨by omega, fun i hi ht => ?_, .inr ⟨k, by omega, q.2, rfl⟩⟩
      by_cases e : i = k
      · subst e; omega
      · have := h2 i (by omega) ht; omega
    · rw [if_neg q]
      refine ⟨h1, fun i hi ht => ?_, ?_⟩
      · by_cases e : i = k
        · subst e
          have : ¬ lg r i 6 < mkD r A i := fun z => q ⟨z, ht⟩
          omega
        · exact h2 i (by omega) ht
      · rcases h3 with h3 | ⟨i, g1, g2, g3⟩
        · exact .inl h3
        · exact .inr ⟨i, by omega, g2, g3⟩
end
theorem at_mkL {r : Rows} {x y s : Int} {W n c : Nat} (h : c < n) : Grid.at_ (mkL r x y s W n) c = mkD r (rectR (cX x s W c) (cY y s W c) s) r.length := by
  simp [mkL, Grid.at_, h]
section
variable {x y s : Int} {W : Nat} {D : List Int} {b1 b2 b3 b4 : Int}
theorem lsN_spec : ∀ n, lsN x y s W D b1 b2 b3 b4 n ≤ 100000 ∧ (∀ c, c < n → mtC x y s W c b1 b2 b3 b4 = true → lsN x y s W D b1 b2 b3 b4 n ≤ Grid.at_ D c) ∧ (lsN x y s W D b1 b2 b3 b4 n = 100000 ∨ ∃ c, c < n ∧ mtC x y s W c b1 b2 b3 b4 = true ∧ lsN x y s W D b1 b2 b3 b4 n = Grid.at_ D c)
  | 0 => ⟨Int.le_refl _, fun c hc => by omega, .inl rfl⟩
  | n + 1 => by
    obtain ⟨h1, h2, h3⟩ := lsN_spec n
    rw [lsN]
    by_cases q : mtC x y s W n b1 b2 b3 b4 = true
    · rw [if_pos q]
      refine ⟨by omega, fun c hc ht => ?_, ?_⟩
      · by_cases e : c = n
        · subst e; omega
        · have := h2 c (by omega) ht; omega
      · by_cases g : lsN x y s W D b1 b2 b3 b4 n ≤ Grid.at_ D n
        · rw [Int.min_eq_left g]
          rcases h3 with h3 | ⟨c, g1, g2, g3⟩
          · exact .inl h3
          · exact .inr ⟨c, by omega, g2, g3⟩
        · rw [Int.min_eq_right (by omega)]
          exact .inr ⟨n, by omega, q, rfl⟩
    · rw [if_neg q]
      refine ⟨h1, fun c hc ht => ?_, ?_⟩
      · by_cases e : c = n
        · subst e; exact absurd ht q
        · exact h2 c (by omega) ht
      · rcases h3 with h3 | ⟨c, g1, g2, g3⟩
        · exact .inl h3
        · exact .inr ⟨c, by omega, g2, g3⟩
end
end Go.Proofs.YtcjaembdcfppfaaGreat
/- Chapter 11: coarse grids, plain. -/
namespace Go.Proofs.YtcjaembdcfppfaaGreat
open Go.RowKit
section
variable {W H k : Nat} {D : List Int}
end
theorem gv_rowsI {x y s w h : Int} {l : List Int} (hf : frP x y s w h) (hl : (l.length : Int) = w * h) (hc : ∀ c, c < l.length → 0 ≤ Grid.at_ l c ∧ Grid.at_ l c ≤ 100000) : gvB x y s w h (rowsI l) = true := by
  unfold gvB
  rw [decide_eq_true hf, decide_eq_true (by rw [rowsI_len]; exact hl), Bool.true_and, Bool.true_and, List.all_eq_true]
  intro q hq
  obtain ⟨c, h1, rfl⟩ := List.getElem_of_mem hq
  rw [rowsI_len] at h1
  have := hc c h1
  have e : cI (rowsI l)[c] 0 = Grid.at_ l c := by
    unfold Grid.at_
    rw [List.getElem?_eq_getElem h1]
    simp [rowsI, cI, D.int]
  rw [e]
  exact decide_eq_true this
end Go.Proofs.YtcjaembdcfppfaaGreat
