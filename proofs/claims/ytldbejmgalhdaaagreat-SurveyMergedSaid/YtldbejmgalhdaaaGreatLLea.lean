/- LLea, merged: TVq, Vu. -/
import Derived.Test.YtldbejmgalhdaaaGreatHJ
import Derived.Test.YtldbejmgalhdaaaGreatLMod
set_option linter.unusedSimpArgs false
set_option linter.unusedVariables false
/- Chapter 09: the tree of survey.Least. -/
namespace Go.Proofs.YtldbejmgalhdaaaGreat
open Go.RowKit
def trSLeast : TT OpR :=
(.ite (.cmp .neq (.fn 160 (.x (.var 0) (.x (.var 1) .nil))) (.lit 0))
 (.ret ((.tup [(.one (.z (.int .i64 (.lit 0)))), (.one (.z (.int .i64 (.fn 160 (.x (.var 0) (.x (.var 1) .nil))))))]), [], 3))
 (.ret ((.tup [(.one (.z (.int .i64 (.fn 132 (.x (.fn 2 (.x (.var 0) (.x (.var 1) .nil))) (.i (.var 2) (.i (.var 3) .nil))))))), (.one (.z (.int .i64 (.fn 133 (.x (.fn 2 (.x (.var 0) (.x (.var 1) .nil))) (.i (.var 2) (.i (.var 3) .nil)))))))]), [], 3)))
set_option maxRecDepth 100000 in
theorem trSLeast_is : T.norm 0 (call Tryz.prog ctV4 (Lt.of []) 150 21 (symArgs 0 [suv, pt]) [] 0) TT.ret = trSLeast := by kernel_rfl
theorem trSLeast_low : trSLeast.low 1000 = true := by kernel_rfl
end Go.Proofs.YtldbejmgalhdaaaGreat
/- Chapter 09: survey.Least. -/
namespace Go.Proofs.YtldbejmgalhdaaaGreat
open Go.RowKit
def lstR (ds : List D) : Int := if surL ds = true then shownR [.l (mdS (rAt ds 0) (rAt ds 1)), .i (iAt ds 2), .i (iAt ds 3)] else 0
def lstE (ds : List D) : Int := if surL ds = true then shownE [.l (mdS (rAt ds 0) (rAt ds 1)), .i (iAt ds 2), .i (iAt ds 3)] else 1
theorem KVdi132 (W : World) (ds l : List D) : (envOf KVd W ds).fi 132 l = shownR l := by simp only [envOf, KVd, KVc, KVb, KVa, K80]
theorem KVdi133 (W : World) (ds l : List D) : (envOf KVd W ds).fi 133 l = shownE l := by simp only [envOf, KVd, KVc, KVb, KVa, K80]
theorem gSLeast : Gives Tryz.prog 21 [suv, pt] (fun ds => .tuple #[.int .i64 (lstR ds), .int .i64 (lstE ds)]) := by
  refine GivesIf.all (fn_gives KVd (by kernel_rfl) (fun ρ h => ctV4_ok (Sees.of h 180) (SeesD.of h 4)) (by kernel_rfl) trSLeast_is trSLeast_low (by decide) (fun W vals ds hr _ => ?_))
  have hR : lstR ds = if surB (rAt ds 0) (rAt ds 1) = true then shownR [.l (mdS (rAt ds 0) (rAt ds 1)), .i (iAt ds 2), .i (iAt ds 3)] else 0 := rfl
  have hE : lstE ds = if surB (rAt ds 0) (rAt ds 1) = true then shownE [.l (mdS (rAt ds 0) (rAt ds 1)), .i (iAt ds 2), .i (iAt ds 3)] else 1 := rfl
  simp only [trSLeast, TT.sat_ret, TT.sat_ite, TT.sat_ob, TT.sat_next, TT.sat_stuck, put_i, put_b, put_d, put_fi, put_fb, put_fd, Ob.ok, B.ev, E.ev, X.ev, AL.ev, cmp_t, cmp_f, arEv, V.plain, V2.plain, S.plain, S0.plain, V.val, V2.val, S.val, S0.val, bV, iV, List.all_cons, List.all_nil, Bool.and_true, Bool.and_self, envOf_i, envOf_b, envOf_d, List.map_cons, List.map_nil, true_and, Bool.not_eq_true', Bool.not_eq_false', Bool.not_not, Bool.and_eq_true, and_f, cell_lg, cell_lb, cell_lr, cmpP, val_i, val_b, val_d, aget, Nat.reduceBEq, beq_self_eq_true, Bool.false_eq_true, if_true, if_false, Nat.reduceLT, Nat.reduceSub, Nat.sub_self, Nat.lt_irrefl, KVdi160, KVdd2, sce_two, mdr_two, KVdi132, KVdi133]
  rw [hR, hE]
  cases q : surB (rAt ds 0) (rAt ds 1)
  · exact ⟨fun _ => rfl, fun h => absurd (show (1 : Int) ≠ 0 by decide) h⟩
  · exact ⟨fun h => absurd rfl h, fun _ => rfl⟩
def KVe : Interp where
  fi n l := match n with | 180 => lstR l | 181 => lstE l | n => KVd.fi n l
  fb n l := KVd.fb n l
  fd n l := KVd.fd n l
theorem KVe_KVdd {ρ : Env} (h : SeesD ρ KVe 4) : SeesD ρ KVd 4 := fun n l hn => by
  rw [h n l (by omega)]
  rfl
theorem KVe_KVd {ρ : Env} (h : Sees ρ KVe 190) : Sees ρ KVd 180 := h.trans (by decide) fun n l hn => by
  refine ⟨?_, ?_⟩
  ·
    simp only [KVe]
    split <;> first | omega | rfl
  ·
    rfl
def cSLeast := ctD [suv, pt] fun al => .ret (.tup [.one (sIF 180 lstR al), .one (sIF 181 lstE al)])
theorem cSLeast_ok {ρ : Env} (h : Sees ρ KVe 190) : CtOne Tryz.prog ρ 21 cSLeast :=
  ctD_ok gSLeast (fun _ => rfl) (fun al => by simp only [V.val, V2.val, S.val, S0.val, sIF, sBF, List.map_cons, List.map_nil, iF_ev (s := 180) (f := lstR) (fun l => by rw [(h 180 l (by decide)).1]; simp only [KVe]), iF_ev (s := 181) (f := lstE) (fun l => by rw [(h 181 l (by decide)).1]; simp only [KVe])]; try rfl)
def ctV5 : Ct := (21, cSLeast) :: ctV4
theorem ctV5_ok {ρ : Env} (h : Sees ρ KVe 190) (hd : SeesD ρ KVe 4) : CtOk Tryz.prog ρ ctV5 := .cons (cSLeast_ok h) <| ctV4_ok (KVe_KVd h) (KVe_KVdd hd)
end Go.Proofs.YtldbejmgalhdaaaGreat
