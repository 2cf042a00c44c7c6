/- HE, merged: TVa, Va, TVb, Vb, Vc. -/
import Derived.Test.YtldbejmgalhdaaaGreatHA
import Derived.Test.YtldbejmgalhdaaaGreatMY
import Derived.Test.YtldbejmgalhdaaaGreatMW
set_option linter.unusedSimpArgs false
set_option linter.unusedVariables false
/- Chapter 09: trees of cmp.Compare, of find, of isSounding. -/
namespace Go.Proofs.YtldbejmgalhdaaaGreat
open Go.RowKit
def snd : Sh := .agg sndK
def snds : Sh := .one (.sl sndK)
def suvK : List CK := [.sl sndK, .sl featK]
def suv : Sh := .agg suvK
def agFF : List Ag := [.d feats, .f 43, .d it]
def agFS : List Ag := [.d snds, .f 59, .d it]
-- term trCmp: call Tryz.prog [] (Lt.of []) 150 73 (symArgs 0 [it, it]) [] 0
def trCmp : TT OpR :=
(.ite (.cmp .lss (.var 0) (.var 1))
 (.ret ((.v (.one (.z (.int .i64 (.lit (-1)))))), [], 0))
 (.ite (.cmp .gtr (.var 0) (.var 1))
 (.ret ((.v (.one (.z (.int .i64 (.lit 1))))), [], 0))
 (.ret ((.v (.one (.z (.int .i64 (.lit 0))))), [], 0))))
-- end trCmp
set_option maxRecDepth 100000 in
theorem trCmp_is : T.norm 0 (call Tryz.prog [] (Lt.of []) 150 73 (symArgs 0 [it, it]) [] 0) TT.ret = trCmp := by kernel_rfl
theorem trCmp_low : trCmp.low 1000 = true := by kernel_rfl
-- term trFindF: call Tryz.prog [] (Lt.of []) 150 42 (agArgs 0 0 agFF) (agMem 0 0 agFF) (agN agFF)
def trFindF : TT OpR :=
(.loop 0 2000 ⟨[(0, (.lit 0)), (1, (.len (.var 0)))], [], []⟩
 (.ite (.cmp .lss (.var 2000) (.var 2001))
 (.ob (.tru (.cmp .leq (.lit 0) (.wr .i64 (.ar .shr .u64 (.wr .u64 (.ar .add .i64 (.var 2000) (.var 2001))) (.lit 1)))))
 (.ob (.tru (.cmp .lss (.wr .i64 (.ar .shr .u64 (.wr .u64 (.ar .add .i64 (.var 2000) (.var 2001))) (.lit 1))) (.len (.var 0))))
 (.ite (.cmp .lss (.rd (.var 0) (.wr .i64 (.ar .shr .u64 (.wr .u64 (.ar .add .i64 (.var 2000) (.var 2001))) (.lit 1))) 0) (.var 1))
 (.next 0 ⟨[(0, (.ar .add .i64 (.wr .i64 (.ar .shr .u64 (.wr .u64 (.ar .add .i64 (.var 2000) (.var 2001))) (.lit 1))) (.lit 1))), (1, (.var 2001))], [], []⟩)
 (.ite (.cmp .gtr (.rd (.var 0) (.wr .i64 (.ar .shr .u64 (.wr .u64 (.ar .add .i64 (.var 2000) (.var 2001))) (.lit 1))) 0) (.var 1))
 (.next 0 ⟨[(0, (.var 2000)), (1, (.wr .i64 (.ar .shr .u64 (.wr .u64 (.ar .add .i64 (.var 2000) (.var 2001))) (.lit 1))))], [], []⟩)
 (.next 0 ⟨[(0, (.var 2000)), (1, (.wr .i64 (.ar .shr .u64 (.wr .u64 (.ar .add .i64 (.var 2000) (.var 2001))) (.lit 1))))], [], []⟩)))))
 (.ite (.cmp .lss (.var 2000) (.len (.var 0)))
 (.ob (.tru (.cmp .leq (.lit 0) (.var 2000)))
 (.ob (.tru (.cmp .lss (.var 2000) (.len (.var 0))))
 (.ite (.cmp .lss (.rd (.var 0) (.var 2000) 0) (.var 1))
 (.ret ((.tup [(.one (.z (.int .i64 (.var 2000)))), (.one (.z (.bool (.lit false))))]), [], 6))
 (.ite (.cmp .gtr (.rd (.var 0) (.var 2000) 0) (.var 1))
 (.ret ((.tup [(.one (.z (.int .i64 (.var 2000)))), (.one (.z (.bool (.lit false))))]), [], 6))
 (.ret ((.tup [(.one (.z (.int .i64 (.var 2000)))), (.one (.z (.bool (.lit true))))]), [], 6))))))
 (.ret ((.tup [(.one (.z (.int .i64 (.var 2000)))), (.one (.z (.bool (.lit false))))]), [], 4)))))
-- end trFindF
def trFindF_h : List (Nat × St) := [
(1, ⟨(List.append [(.v (.one (.z (.ext [(.int .i64), (.int .i64), (.int .i64), (.int .i64), (.int .i64), (.sl [(.int .i64), (.int .i64)]), (.int .i64), (.int .i64), (.sl [(.int .i64), (.int .i64), (.int .i64), (.int .i64), (.int .i64), (.int .i64)])] (.var 0) false)))), (.v (.one (.z (.int .i64 (.var 1))))), (.v (.one (.z (.clo 72 [(0, 0)])))), (.v (.one (.z .any))), (.v (.one (.z .any))), (.v (.one (.z .any))), (.v (.one (.z (.int .i64 (.lit 0))))), (.v (.one (.z (.bool (.lit false))))), (.v (.one (.z (.int .i64 (.len (.var 0)))))), (.v (.one (.z (.int .i64 (.var 2000))))), (.v (.one (.z (.int .i64 (.var 2001))))), (.v (.one (.z .any))), (.v (.one (.z (.ext [(.int .i64), (.int .i64), (.int .i64), (.int .i64), (.int .i64), (.sl [(.int .i64), (.int .i64)]), (.int .i64), (.int .i64), (.sl [(.int .i64), (.int .i64), (.int .i64), (.int .i64), (.int .i64), (.int .i64)])] (.var 0) false)))), (.v (.one (.z (.int .i64 (.len (.var 0)))))), (.v (.one (.z (.int .i64 (.len (.var 0))))))] (List.replicate 34 V.any)), [(0, (.cells 74 [(.z (.clo 43 []))]))], 2, []⟩)]
def trFindF_j : List (FuncId × Nat × Nat × St) := [
]
set_option maxRecDepth 100000 in
theorem trFindF_is : T.norm 0 (call Tryz.prog [] ⟨Lt.un (Lt.of []), trFindF_h, trFindF_j⟩ 150 42 (agArgs 0 0 agFF) (agMem 0 0 agFF) (agN agFF)) TT.ret = trFindF := by kernel_rfl
theorem trFindF_low : trFindF.low 1000 = true := by kernel_rfl
-- term trFindS: call Tryz.prog [] (Lt.of []) 150 89 (agArgs 0 0 agFS) (agMem 0 0 agFS) (agN agFS)
def trFindS : TT OpR :=
(.loop 0 2000 ⟨[(0, (.lit 0)), (1, (.len (.var 0)))], [], []⟩
 (.ite (.cmp .lss (.var 2000) (.var 2001))
 (.ob (.tru (.cmp .leq (.lit 0) (.wr .i64 (.ar .shr .u64 (.wr .u64 (.ar .add .i64 (.var 2000) (.var 2001))) (.lit 1)))))
 (.ob (.tru (.cmp .lss (.wr .i64 (.ar .shr .u64 (.wr .u64 (.ar .add .i64 (.var 2000) (.var 2001))) (.lit 1))) (.len (.var 0))))
 (.ite (.cmp .lss (.rd (.var 0) (.wr .i64 (.ar .shr .u64 (.wr .u64 (.ar .add .i64 (.var 2000) (.var 2001))) (.lit 1))) 0) (.var 1))
 (.next 0 ⟨[(0, (.ar .add .i64 (.wr .i64 (.ar .shr .u64 (.wr .u64 (.ar .add .i64 (.var 2000) (.var 2001))) (.lit 1))) (.lit 1))), (1, (.var 2001))], [], []⟩)
 (.ite (.cmp .gtr (.rd (.var 0) (.wr .i64 (.ar .shr .u64 (.wr .u64 (.ar .add .i64 (.var 2000) (.var 2001))) (.lit 1))) 0) (.var 1))
 (.next 0 ⟨[(0, (.var 2000)), (1, (.wr .i64 (.ar .shr .u64 (.wr .u64 (.ar .add .i64 (.var 2000) (.var 2001))) (.lit 1))))], [], []⟩)
 (.next 0 ⟨[(0, (.var 2000)), (1, (.wr .i64 (.ar .shr .u64 (.wr .u64 (.ar .add .i64 (.var 2000) (.var 2001))) (.lit 1))))], [], []⟩)))))
 (.ite (.cmp .lss (.var 2000) (.len (.var 0)))
 (.ob (.tru (.cmp .leq (.lit 0) (.var 2000)))
 (.ob (.tru (.cmp .lss (.var 2000) (.len (.var 0))))
 (.ite (.cmp .lss (.rd (.var 0) (.var 2000) 0) (.var 1))
 (.ret ((.tup [(.one (.z (.int .i64 (.var 2000)))), (.one (.z (.bool (.lit false))))]), [], 6))
 (.ite (.cmp .gtr (.rd (.var 0) (.var 2000) 0) (.var 1))
 (.ret ((.tup [(.one (.z (.int .i64 (.var 2000)))), (.one (.z (.bool (.lit false))))]), [], 6))
 (.ret ((.tup [(.one (.z (.int .i64 (.var 2000)))), (.one (.z (.bool (.lit true))))]), [], 6))))))
 (.ret ((.tup [(.one (.z (.int .i64 (.var 2000)))), (.one (.z (.bool (.lit false))))]), [], 4)))))
-- end trFindS
def trFindS_h : List (Nat × St) := [
(1, ⟨(List.append [(.v (.one (.z (.ext [(.int .i64), (.int .i64), (.int .i64), (.int .i64), (.int .i64), (.int .i64), (.int .i64)] (.var 0) false)))), (.v (.one (.z (.int .i64 (.var 1))))), (.v (.one (.z (.clo 114 [(0, 0)])))), (.v (.one (.z .any))), (.v (.one (.z .any))), (.v (.one (.z .any))), (.v (.one (.z (.int .i64 (.lit 0))))), (.v (.one (.z (.bool (.lit false))))), (.v (.one (.z (.int .i64 (.len (.var 0)))))), (.v (.one (.z (.int .i64 (.var 2000))))), (.v (.one (.z (.int .i64 (.var 2001))))), (.v (.one (.z .any))), (.v (.one (.z (.ext [(.int .i64), (.int .i64), (.int .i64), (.int .i64), (.int .i64), (.int .i64), (.int .i64)] (.var 0) false)))), (.v (.one (.z (.int .i64 (.len (.var 0)))))), (.v (.one (.z (.int .i64 (.len (.var 0))))))] (List.replicate 34 V.any)), [(0, (.cells 83 [(.z (.clo 59 []))]))], 2, []⟩)]
def trFindS_j : List (FuncId × Nat × Nat × St) := [
]
set_option maxRecDepth 100000 in
theorem trFindS_is : T.norm 0 (call Tryz.prog [] ⟨Lt.un (Lt.of []), trFindS_h, trFindS_j⟩ 150 89 (agArgs 0 0 agFS) (agMem 0 0 agFS) (agN agFS)) TT.ret = trFindS := by kernel_rfl
theorem trFindS_low : trFindS.low 1000 = true := by kernel_rfl
-- term trIsS: call Tryz.prog ctE14 (Lt.of []) 150 44 (symArgs 0 [snd]) [] 0
def trIsS : TT OpR :=
(.ite (.fn 76 (.i (.var 0) (.i (.lit 1) (.i (.var 1) (.i (.var 2) (.i (.var 3) (.x .nil (.i (.var 4) (.i (.lit 0) (.x .nil .nil))))))))))
 (.ite (.cmp .leq (.var 4) (.var 5))
 (.ite (.cmp .leq (.var 5) (.lit 100000))
 (.ite (.cmp .geq (.var 6) (.lit 0))
 (.ret ((.v (.one (.z (.bool (.cmp .leq (.var 6) (.lit 10000000)))))), [], 3))
 (.ret ((.v (.one (.z (.bool (.lit false))))), [], 3)))
 (.ret ((.v (.one (.z (.bool (.lit false))))), [], 3)))
 (.ret ((.v (.one (.z (.bool (.lit false))))), [], 3)))
 (.ret ((.v (.one (.z (.bool (.lit false))))), [], 3)))
-- end trIsS
set_option maxRecDepth 100000 in
theorem trIsS_is : T.norm 0 (call Tryz.prog ctE14 (Lt.of []) 150 44 (symArgs 0 [snd]) [] 0) TT.ret = trIsS := by kernel_rfl
theorem trIsS_low : trIsS.low 1000 = true := by kernel_rfl
end Go.Proofs.YtldbejmgalhdaaaGreat
/- Chapter 09: cmp.Compare, find in a list whose keys rise, feature.List, isSounding. -/
namespace Go.Proofs.YtldbejmgalhdaaaGreat
open Go.RowKit
def cmpI (a b : Int) : Int := if a < b then -1 else if b < a then 1 else 0
def cmpL (ds : List D) : Int := cmpI (iAt ds 0) (iAt ds 1)
theorem gCmp : Gives Tryz.prog 73 [it, it] (fun ds => .int .i64 (cmpL ds)) := by
  refine GivesIf.all (fn_gives K80 (by kernel_rfl) (fun ρ _ => CtOk.nil) (by kernel_rfl) trCmp_is trCmp_low (by decide) (fun W vals ds hr _ => ?_))
  simp only [trCmp, TT.sat_ret, TT.sat_ite, TT.sat_ob, TT.sat_next, TT.sat_stuck, put_i, put_b, put_d, put_fi, put_fb, put_fd, Ob.ok, B.ev, E.ev, X.ev, AL.ev, cmp_t, cmp_f, arEv, V.plain, V2.plain, S.plain, S0.plain, V.val, V2.val, S.val, S0.val, bV, iV, List.all_cons, List.all_nil, Bool.and_true, Bool.and_self, envOf_i, envOf_b, envOf_d, List.map_cons, List.map_nil, true_and, Bool.not_eq_true', Bool.not_eq_false', Bool.not_not, Bool.and_eq_true, and_f, cell_lg, cell_lb, cell_lr, cmpP, val_i, val_b, val_d, aget, Nat.reduceBEq, beq_self_eq_true, Bool.false_eq_true, if_true, if_false, Nat.reduceLT, Nat.reduceSub, Nat.sub_self, Nat.lt_irrefl]
  simp only [cmpL, cmpI]
  refine ⟨fun h => by rw [if_pos h], fun h => ⟨fun h' => by rw [if_neg h, if_pos (by omega)], fun h' => by rw [if_neg h, if_neg (by omega)]⟩⟩
def risN (r : Rows) : Nat → Nat → Bool
  | 0, _ => true
  | f + 1, i => decide (lg r i 0 < lg r (i + 1 : Nat) 0) && risN r f (i + 1)
def risB (r : Rows) : Bool := risN r (r.length - 1) 0
def lowN (r : Rows) (n : Int) : Nat → Nat → Nat
  | 0, i => i
  | f + 1, i => if lg r i 0 < n then lowN r n f (i + 1) else i
def lowR (r : Rows) (n : Int) : Nat := lowN r n r.length 0
def isB (r : Rows) (n : Int) : Bool := decide (lowR r n < r.length ∧ lg r (lowR r n) 0 = n)
def lowL (ds : List D) : Int := lowR (rAt ds 0) (iAt ds 1)
def isL (ds : List D) : Bool := isB (rAt ds 0) (iAt ds 1)
def risL (ds : List D) : Bool := risB (rAt ds 0)
theorem risN_iff {r : Rows} : ∀ (f i : Nat), risN r f i = true ↔ ∀ k, i ≤ k → k < i + f → lg r k 0 < lg r (k + 1 : Nat) 0
  | 0, i => ⟨fun _ k h1 h2 => by omega, fun _ => rfl⟩
  | f + 1, i => by
    rw [risN, Bool.and_eq_true, decide_eq_true_eq, risN_iff f (i + 1)]
    constructor
    · rintro ⟨h1, h2⟩ k hk hk'
      by_cases e : k = i
      · subst e; exact h1
      · exact h2 k (by omega) (by omega)
    · exact fun h => ⟨h i (by omega) (by omega), fun k h1 h2 => h k (by omega) (by omega)⟩
theorem ris_lt {r : Rows} (h : risB r = true) : ∀ {i j : Nat}, i < j → j < r.length → lg r i 0 < lg r j 0 := by
  have h1 := (risN_iff _ _).mp h
  have key : ∀ (d i : Nat), i + d + 1 < r.length → lg r i 0 < lg r (i + d + 1 : Nat) 0 := by
    intro d
    induction d with
    | zero => intro i hi; exact h1 i (by omega) (by omega)
    | succ d ih =>
      intro i hi
      have a := ih i (by omega)
      have b := h1 (i + d + 1) (by omega) (by omega)
      rw [show i + (d + 1) + 1 = i + d + 1 + 1 by omega]
      omega
  intro i j hij hj
  have := key (j - i - 1) i (by omega)
  rw [show i + (j - i - 1) + 1 = j by omega] at this
  exact this
theorem ris_of {r : Rows} (h : ∀ i : Nat, i + 1 < r.length → lg r i 0 < lg r (i + 1 : Nat) 0) : risB r = true := (risN_iff _ _).mpr (fun k _ hk => h k (by omega))
theorem lowN_spec {r : Rows} {n : Int} : ∀ (f i : Nat), i ≤ lowN r n f i ∧ lowN r n f i ≤ i + f ∧ (∀ k : Nat, i ≤ k → k < lowN r n f i → lg r k 0 < n) ∧ (lowN r n f i < i + f → ¬ lg r (lowN r n f i) 0 < n)
  | 0, i => ⟨Nat.le_refl _, Nat.le_refl _, fun k h1 h2 => by rw [lowN] at h2; omega, fun h => by rw [lowN] at h; omega⟩
  | f + 1, i => by
    obtain ⟨a, b, c, d⟩ := lowN_spec (r := r) (n := n) f (i + 1)
    rw [lowN]
    split
    · rename_i h
      refine ⟨by omega, by omega, fun k h1 h2 => ?_, fun h => d (by omega)⟩
      by_cases e : k = i
      · subst e; assumption
      · exact c k (by omega) h2
    · rename_i h
      exact ⟨Nat.le_refl _, by omega, fun k h1 h2 => by omega, fun _ => h⟩
theorem lowR_spec (r : Rows) (n : Int) : lowR r n ≤ r.length ∧ (∀ k : Nat, k < lowR r n → lg r k 0 < n) ∧ (lowR r n < r.length → ¬ lg r (lowR r n) 0 < n) := by
  obtain ⟨_, b, c, d⟩ := lowN_spec (r := r) (n := n) r.length 0
  exact ⟨by unfold lowR; omega, fun k hk => c k (by omega) hk, fun h => d (by unfold lowR at h; omega)⟩
theorem low_uniq {r : Rows} {n : Int} {i : Nat} (hi : i ≤ r.length) (h1 : ∀ k : Nat, k < i → lg r k 0 < n) (h2 : i < r.length → ¬ lg r i 0 < n) : i = lowR r n := by
  obtain ⟨a, b, c⟩ := lowR_spec r n
  rcases Nat.lt_trichotomy i (lowR r n) with h | h | h
  · exact absurd (b i h) (h2 (by omega))
  · exact h
  · exact absurd (h1 _ h) (c (by omega))
theorem isB_iff {r : Rows} (hr : risB r = true) {n : Int} : isB r n = true ↔ ∃ k : Nat, k < r.length ∧ lg r k 0 = n := by
  unfold isB
  rw [decide_eq_true_eq]
  constructor
  · exact fun h => ⟨_, h.1, h.2⟩
  · rintro ⟨k, hk, h⟩
    have : k = lowR r n := low_uniq (by omega) (fun j hj => by have := ris_lt hr hj hk; omega) (fun _ => by omega)
    rw [← this]
    exact ⟨hk, h⟩
theorem mid_wrap {i j : Nat} (hj : i + j ≤ 562949953421312) : IntKind.i64.wrap ((IntKind.u64.wrap (IntKind.i64.wrap ((i : Int) + (j : Int)))).fdiv (2 ^ min (1 : Int).toNat IntKind.u64.bits)) = (((i + j) / 2 : Nat) : Int) := by
  rw [wrap_in ((i : Int) + (j : Int)) (by omega) (by omega)]
  have w : ∀ x : Int, IntKind.u64.wrap x = x % 18446744073709551616 := fun x => rfl
  have e : IntKind.u64.wrap ((i : Int) + (j : Int)) = (i : Int) + (j : Int) := by
    rw [w]; omega
  rw [e, show (2 : Int) ^ min (1 : Int).toNat IntKind.u64.bits = 2 from rfl, Int.fdiv_eq_ediv_of_nonneg _ (by omega), show ((i : Int) + (j : Int)) / 2 = (((i + j) / 2 : Nat) : Int) by omega, wrap_in _ (by omega) (by omega)]
theorem ag_len {w0 W : World} {vals : List Value} {ds : List D} {bs : List Nat} {ks : List CK} {l : List Ag} (h : agRep w0 W (.d (.one (.sl ks)) :: l) vals ds bs) : (rAt ds 0).length ≤ 281474976710656 := by
  obtain ⟨v, vs', d, ds', rfl, rfl, ⟨d, rfl, h⟩, _⟩ := h
  rw [rep_sl] at h
  obtain ⟨r, rfl, a, n, c, _, hs, _⟩ := h
  have e1 := hs.len
  have e2 := hs.big
  show r.length ≤ _
  omega
theorem gFindF : GivesG Tryz.prog 42 agFF (fun ds => risB (rAt ds 0) = true) (fun ds => .tuple #[.int .i64 (lowL ds), .bool (isL ds)]) := by
  refine fn_givesG K80 (by kernel_rfl) (fun ρ _ => CtOk.nil) (by kernel_rfl) trFindF_is trFindF_low (by decide) (fun w0 W vals ds bs hr hok => ?_)
  have hlen := ag_len hr
  simp only [trFindF]
  unfold lowL isL
  clear hr
  generalize e0 : rAt ds 0 = r at *
  generalize e1 : iAt ds 1 = n at *
  refine TT.sat_loop (fun v => ∃ i j : Nat, v.i 0 = i ∧ v.i 1 = j ∧ i ≤ j ∧ j ≤ r.length ∧ (∀ k : Nat, k < i → lg r k 0 < n) ∧ ∀ k : Nat, j ≤ k → k < r.length → n ≤ lg r k 0) (fun v => (v.i 1).toNat - (v.i 0).toNat)
    ⟨0, r.length, by simp [val_i, aget, E.ev], by simp [val_i, aget, E.ev, X.ev, envOf_d, e0], by omega, by omega, fun k hk => by omega, fun k h1 h2 => by omega⟩ (fun v hv => ?_)
  obtain ⟨i, j, i0, j0, hij, hj, h1, h2⟩ := hv
  simp only [TT.sat_ret, TT.sat_ite, TT.sat_ob, TT.sat_next, TT.sat_stuck, put_i, put_b, put_d, put_fi, put_fb, put_fd, Ob.ok, B.ev, E.ev, X.ev, AL.ev, cmp_t, cmp_f, arEv, V.plain, V2.plain, S.plain, S0.plain, V.val, V2.val, S.val, S0.val, bV, iV, List.all_cons, List.all_nil, Bool.and_true, Bool.and_self, envOf_i, envOf_b, envOf_d, List.map_cons, List.map_nil, true_and, Bool.not_eq_true', Bool.not_eq_false', Bool.not_not, Bool.and_eq_true, and_f, cell_lg, cell_lb, cell_lr, cmpP, val_i, val_b, val_d, aget, Nat.reduceBEq, beq_self_eq_true, Bool.false_eq_true, if_true, if_false, Nat.reduceLT, Nat.reduceSub, Nat.sub_self, Nat.lt_irrefl, i0, j0, e0, e1]
  refine ⟨fun hc => ?_, fun hc => ?_⟩
  · rw [mid_wrap (by omega)]
    have hm : i ≤ (i + j) / 2 ∧ (i + j) / 2 < j := by omega
    generalize (i + j) / 2 = m at *
    rw [wrap_in ((m : Int) + 1) (by omega) (by omega)]
    refine ⟨by omega, by omega, fun a => ⟨⟨m + 1, j, rfl, rfl, by omega, hj, fun k hk => ?_, h2⟩, by omega⟩, fun a => ⟨fun b => ⟨⟨i, m, rfl, rfl, by omega, by omega, h1, fun k g1 g2 => ?_⟩, by omega⟩, fun b => ⟨⟨i, m, rfl, rfl, by omega, by omega, h1, fun k g1 g2 => ?_⟩, by omega⟩⟩⟩
    · by_cases e : k = m
      · subst e; exact a
      · have := ris_lt hok (i := k) (j := m) (by omega) (by omega)
        omega
    all_goals
      by_cases e : k = m
      · subst e; omega
      · have := ris_lt hok (i := m) (j := k) (by omega) g2
        omega
  · have hi : i = j := by omega
    subst hi
    have hl : i = lowR r n := low_uniq hj h1 (fun h => by have := h2 i (Nat.le_refl _) h; omega)
    have hB : isB r n = decide (i < r.length ∧ lg r i 0 = n) := by unfold isB; rw [← hl]
    rw [hB, ← hl]
    refine ⟨fun a => ⟨by omega, by omega, fun b => ?_, fun b => ⟨fun c => ?_, fun c => ?_⟩⟩, fun a => ?_⟩
    · rw [decide_eq_false (by omega)]; exact ⟨rfl, trivial⟩
    · rw [decide_eq_false (by omega)]; exact ⟨rfl, trivial⟩
    · rw [decide_eq_true (by omega)]; exact ⟨rfl, trivial⟩
    · rw [decide_eq_false (by omega)]; exact ⟨rfl, trivial⟩
theorem gFindS : GivesG Tryz.prog 89 agFS (fun ds => risB (rAt ds 0) = true) (fun ds => .tuple #[.int .i64 (lowL ds), .bool (isL ds)]) := by
  refine fn_givesG K80 (by kernel_rfl) (fun ρ _ => CtOk.nil) (by kernel_rfl) trFindS_is trFindS_low (by decide) (fun w0 W vals ds bs hr hok => ?_)
  have hlen := ag_len hr
  simp only [trFindS]
  unfold lowL isL
  clear hr
  generalize e0 : rAt ds 0 = r at *
  generalize e1 : iAt ds 1 = n at *
  refine TT.sat_loop (fun v => ∃ i j : Nat, v.i 0 = i ∧ v.i 1 = j ∧ i ≤ j ∧ j ≤ r.length ∧ (∀ k : Nat, k < i → lg r k 0 < n) ∧ ∀ k : Nat, j ≤ k → k < r.length → n ≤ lg r k 0) (fun v => (v.i 1).toNat - (v.i 0).toNat)
    ⟨0, r.length, by simp [val_i, aget, E.ev], by simp [val_i, aget, E.ev, X.ev, envOf_d, e0], by omega, by omega, fun k hk => by omega, fun k h1 h2 => by omega⟩ (fun v hv => ?_)
  obtain ⟨i, j, i0, j0, hij, hj, h1, h2⟩ := hv
  simp only [TT.sat_ret, TT.sat_ite, TT.sat_ob, TT.sat_next, TT.sat_stuck, put_i, put_b, put_d, put_fi, put_fb, put_fd, Ob.ok, B.ev, E.ev, X.ev, AL.ev, cmp_t, cmp_f, arEv, V.plain, V2.plain, S.plain, S0.plain, V.val, V2.val, S.val, S0.val, bV, iV, List.all_cons, List.all_nil, Bool.and_true, Bool.and_self, envOf_i, envOf_b, envOf_d, List.map_cons, List.map_nil, true_and, Bool.not_eq_true', Bool.not_eq_false', Bool.not_not, Bool.and_eq_true, and_f, cell_lg, cell_lb, cell_lr, cmpP, val_i, val_b, val_d, aget, Nat.reduceBEq, beq_self_eq_true, Bool.false_eq_true, if_true, if_false, Nat.reduceLT, Nat.reduceSub, Nat.sub_self, Nat.lt_irrefl, i0, j0, e0, e1]
  refine ⟨fun hc => ?_, fun hc => ?_⟩
  · rw [mid_wrap (by omega)]
    have hm : i ≤ (i + j) / 2 ∧ (i + j) / 2 < j := by omega
    generalize (i + j) / 2 = m at *
    rw [wrap_in ((m : Int) + 1) (by omega) (by omega)]
    refine ⟨by omega, by omega, fun a => ⟨⟨m + 1, j, rfl, rfl, by omega, hj, fun k hk => ?_, h2⟩, by omega⟩, fun a => ⟨fun b => ⟨⟨i, m, rfl, rfl, by omega, by omega, h1, fun k g1 g2 => ?_⟩, by omega⟩, fun b => ⟨⟨i, m, rfl, rfl, by omega, by omega, h1, fun k g1 g2 => ?_⟩, by omega⟩⟩⟩
    · by_cases e : k = m
      · subst e; exact a
      · have := ris_lt hok (i := k) (j := m) (by omega) (by omega)
        omega
    all_goals
      by_cases e : k = m
      · subst e; omega
      · have := ris_lt hok (i := m) (j := k) (by omega) g2
        omega
  · have hi : i = j := by omega
    subst hi
    have hl : i = lowR r n := low_uniq hj h1 (fun h => by have := h2 i (Nat.le_refl _) h; omega)
    have hB : isB r n = decide (i < r.length ∧ lg r i 0 = n) := by unfold isB; rw [← hl]
    rw [hB, ← hl]
    refine ⟨fun a => ⟨by omega, by omega, fun b => ?_, fun b => ⟨fun c => ?_, fun c => ?_⟩⟩, fun a => ?_⟩
    · rw [decide_eq_false (by omega)]; exact ⟨rfl, trivial⟩
    · rw [decide_eq_false (by omega)]; exact ⟨rfl, trivial⟩
    · rw [decide_eq_true (by omega)]; exact ⟨rfl, trivial⟩
    · rw [decide_eq_false (by omega)]; exact ⟨rfl, trivial⟩
theorem gListV : Gives Tryz.prog 34 [feats] (fun ds => .bool (listL ds)) := by
  refine GivesIf.all (fn_gives K79 (by kernel_rfl) (fun ρ h => ctE11_ok (Sees.of h 132)) (by kernel_rfl) trList_is trList_low (by decide) (fun W vals ds hr _ => ?_))
  have hlen := feats_len hr
  simp only [trList]
  have hO : listL ds = listB (rAt ds 0) := rfl
  rw [hO]
  clear hr
  generalize e0 : rAt ds 0 = r at *
  refine TT.sat_loop (fun v => ∃ i : Nat, v.i 1 = i ∧ i ≤ r.length ∧ (lisN r (r.length - i) i (v.i 0) && decide (r.length ≤ 300)) = listB r) (fun v => r.length - (v.i 1).toNat)
    ⟨0, by simp [val_i, aget, E.ev], by omega, rfl⟩ (fun v hv => ?_)
  obtain ⟨i, i0, i1, i2⟩ := hv
  simp only [TT.sat_ret, TT.sat_ite, TT.sat_ob, TT.sat_next, TT.sat_stuck, put_i, put_b, put_d, put_fi, put_fb, put_fd, Ob.ok, B.ev, E.ev, X.ev, AL.ev, cmp_t, cmp_f, arEv, V.plain, V2.plain, S.plain, S0.plain, V.val, V2.val, S.val, S0.val, bV, iV, List.all_cons, List.all_nil, Bool.and_true, Bool.and_self, envOf_i, envOf_b, envOf_d, List.map_cons, List.map_nil, true_and, Bool.not_eq_true', Bool.not_eq_false', Bool.not_not, Bool.and_eq_true, and_f, cell_lg, cell_lb, cell_lr, cmpP, val_i, val_b, val_d, aget, Nat.reduceBEq, beq_self_eq_true, Bool.false_eq_true, if_true, if_false, Nat.reduceLT, Nat.reduceSub, Nat.sub_self, Nat.lt_irrefl, i0, e0, K79b76, feat_nine, featRow_eq]
  refine ⟨fun hc => ?_, fun hc => ?_⟩
  · have hi : i < r.length := by omega
    obtain ⟨f, hf⟩ : ∃ f, r.length - i = f + 1 := ⟨r.length - i - 1, by omega⟩
    have hf' : r.length - (i + 1) = f := by omega
    rw [hf, lisN] at i2
    rw [wrap_in ((i : Int) + 1) (by omega) (by omega)]
    refine ⟨by omega, by omega, fun h => ?_, fun h => ⟨fun g => ?_, fun g => ⟨⟨i + 1, rfl, by omega, ?_⟩, by omega⟩⟩⟩
    · rw [← i2, h]; rfl
    · rw [← i2, h, decide_eq_false (by omega)]; rfl
    · rw [hf', ← i2, h, decide_eq_true (p := v.i 0 < lg r i 0) (by omega)]; rfl
  · have h0 : r.length - i = 0 := by omega
    rw [h0, lisN, Bool.true_and] at i2
    rw [← i2]
    refine congrArg Value.bool ?_
    rw [Bool.eq_iff_iff]
    simp only [cmp_t, cmpP, decide_eq_true_eq]
    omega
def sndB (id x y r lo hi t : Int) : Bool := featB id 1 x y r [] lo 0 [] && decide ((lo ≤ hi ∧ hi ≤ 100000) ∧ 0 ≤ t ∧ t ≤ 10000000)
def sndL (ds : List D) : Bool := sndB (iAt ds 0) (iAt ds 1) (iAt ds 2) (iAt ds 3) (iAt ds 4) (iAt ds 5) (iAt ds 6)
theorem K80b76 (W : World) (ds l : List D) : (envOf K80 W ds).fb 76 l = featL l := by simp only [envOf, K80, K79, K78, K77, K76, K75, K74, K73, K72, K71, KI, KH, KG, KF]
theorem gIsS : Gives Tryz.prog 44 [snd] (fun ds => .bool (sndL ds)) := by
  refine GivesIf.all (fn_gives K80 (by kernel_rfl) (fun ρ h => ctE14_ok (Sees.of h 134)) (by kernel_rfl) trIsS_is trIsS_low (by decide) (fun W vals ds hr _ => ?_))
  simp only [trIsS, TT.sat_ret, TT.sat_ite, TT.sat_ob, TT.sat_next, TT.sat_stuck, put_i, put_b, put_d, put_fi, put_fb, put_fd, Ob.ok, B.ev, E.ev, X.ev, AL.ev, cmp_t, cmp_f, arEv, V.plain, V2.plain, S.plain, S0.plain, V.val, V2.val, S.val, S0.val, bV, iV, List.all_cons, List.all_nil, Bool.and_true, Bool.and_self, envOf_i, envOf_b, envOf_d, List.map_cons, List.map_nil, true_and, Bool.not_eq_true', Bool.not_eq_false', Bool.not_not, Bool.and_eq_true, and_f, cell_lg, cell_lb, cell_lr, cmpP, val_i, val_b, val_d, aget, Nat.reduceBEq, beq_self_eq_true, Bool.false_eq_true, if_true, if_false, Nat.reduceLT, Nat.reduceSub, Nat.sub_self, Nat.lt_irrefl, K80b76, feat_nine]
  simp only [sndL, sndB]
  refine ⟨fun h => ⟨fun h1 => ⟨fun h2 => ⟨fun h3 => ?_, fun h3 => ?_⟩, fun h2 => ?_⟩, fun h1 => ?_⟩, fun h => ?_⟩
  · rw [h, Bool.true_and]
    refine congrArg Value.bool ?_
    rw [Bool.eq_iff_iff, cmp_t, decide_eq_true_eq]
    simp only [cmpP]
    omega
  · rw [h, decide_eq_false (by omega)]; rfl
  · rw [h, decide_eq_false (by omega)]; rfl
  · rw [h, decide_eq_false (by omega)]; rfl
  · rw [h]; rfl
def KVa : Interp where
  fi n l := match n with | 134 => cmpL l | 135 => lowL l | n => K80.fi n l
  fb n l := match n with | 135 => isL l | 136 => risL l | 137 => listL l | 138 => sndL l | n => K80.fb n l
  fd _ _ := []
theorem KVa_K80 {ρ : Env} (h : Sees ρ KVa 150) : Sees ρ K80 134 := h.trans (by decide) fun n l hn => by
  refine ⟨?_, ?_⟩
  ·
    simp only [KVa]
    split <;> first | omega | rfl
  ·
    simp only [KVa]
    split <;> first | omega | rfl
def cCmp := ctD [it, it] fun al => .ret (iV .i64 (iF 134 cmpL al))
theorem cCmp_ok {ρ : Env} (h : Sees ρ KVa 150) : CtOne Tryz.prog ρ 73 cCmp :=
  ctD_ok gCmp (fun _ => rfl) (fun al => by simp only [iV, bV, V.s0, V.val, V2.val, S.val, S0.val, iF_ev (s := 134) (f := cmpL) (fun l => by rw [(h 134 l (by decide)).1]; simp only [KVa])]; try rfl)
def cFeListV := ctD [feats] fun al => .ret (bV (bF 137 listL al))
theorem cFeListV_ok {ρ : Env} (h : Sees ρ KVa 150) : CtOne Tryz.prog ρ 34 cFeListV :=
  ctD_ok gListV (fun _ => rfl) (fun al => by simp only [iV, bV, V.s0, V.val, V2.val, S.val, S0.val, bF_ev (s := 137) (f := listL) (fun l => by rw [(h 137 l (by decide)).2]; simp only [KVa])]; try rfl)
def cIsS := ctD [snd] fun al => .ret (bV (bF 138 sndL al))
theorem cIsS_ok {ρ : Env} (h : Sees ρ KVa 150) : CtOne Tryz.prog ρ 44 cIsS :=
  ctD_ok gIsS (fun _ => rfl) (fun al => by simp only [iV, bV, V.s0, V.val, V2.val, S.val, S0.val, bF_ev (s := 138) (f := sndL) (fun l => by rw [(h 138 l (by decide)).2]; simp only [KVa])]; try rfl)
def oFind (al : AL) : T V := match al with
  | .x r (.i n .nil) => T.obs [.tru (bF 136 risL (.x r .nil))] (.ret (.tup [.one (sIF 135 lowL al), .one (sBF 135 isL al)]))
  | _ => .stuck "find"
theorem find_ok {ρ : Env} (h : Sees ρ KVa 150) {f : FuncId} {l : List Ag} (g : GivesG Tryz.prog f l (fun ds => risB (rAt ds 0) = true) (fun ds => .tuple #[.int .i64 (lowL ds), .bool (isL ds)])) : CtOne Tryz.prog ρ f (ctGA l oFind) := by
  refine ctGA_if g (fun al v hv => ?_)
  unfold oFind at hv
  split at hv
  · rename_i r n
    obtain ⟨ho, hv⟩ := T.res_obs hv
    obtain rfl := res_ret hv
    have o1 := ho _ (List.mem_cons_self ..)
    replace o1 : (bF 136 risL (.x r .nil)).ev ρ = true := o1
    rw [bF_ev (s := 136) (f := risL) (fun l => by rw [(h 136 l (by decide)).2]; simp only [KVa])] at o1
    refine ⟨rfl, o1, ?_⟩
    simp only [V.val, V2.val, S.val, S0.val, sIF, sBF, List.map_cons, List.map_nil, iF_ev (s := 135) (f := lowL) (fun l => by rw [(h 135 l (by decide)).1]; simp only [KVa]), bF_ev (s := 135) (f := isL) (fun l => by rw [(h 135 l (by decide)).2]; simp only [KVa])]
    try rfl
  · exact hv.elim
def cFindF := ctGA agFF oFind
def cFindS := ctGA agFS oFind
theorem cFindF_ok {ρ : Env} (h : Sees ρ KVa 150) : CtOne Tryz.prog ρ 42 cFindF := find_ok h gFindF
theorem cFindS_ok {ρ : Env} (h : Sees ρ KVa 150) : CtOne Tryz.prog ρ 89 cFindS := find_ok h gFindS
def ctV1 : Ct := (73, cCmp) :: (34, cFeListV) :: (44, cIsS) :: (42, cFindF) :: (89, cFindS) :: (77, cCloneSnd) :: ctE14
theorem ctV1_ok {ρ : Env} (h : Sees ρ KVa 150) : CtOk Tryz.prog ρ ctV1 := .cons (cCmp_ok h) <| .cons (cFeListV_ok h) <| .cons (cIsS_ok h) <| .cons (cFindF_ok h) <| .cons (cFindS_ok h) <| .cons cCloneSnd_ok (ctE14_ok (KVa_K80 h))
end Go.Proofs.YtldbejmgalhdaaaGreat
/- Chapter 09: trees of survey's Valid, current. -/
namespace Go.Proofs.YtldbejmgalhdaaaGreat
open Go.RowKit
-- term trSVal: call Tryz.prog ctV1 (Lt.of []) 150 13 (symArgs 0 [suv]) [] 0
def trSVal : TT OpR :=
(.ite (.not (.fn 137 (.x (.var 1) .nil)))
 (.ret ((.v (.one (.z (.bool (.lit false))))), [], 1))
 (.ite (.cmp .gtr (.ar .add .i64 (.len (.var 0)) (.len (.var 1))) (.lit 300))
 (.ret ((.v (.one (.z (.bool (.lit false))))), [], 1))
 (.loop 0 2000 ⟨[(0, (.lit 0)), (1, (.lit 0))], [], []⟩
 (.ite (.cmp .lss (.var 2001) (.len (.var 0)))
 (.ob (.tru (.cmp .leq (.lit 0) (.var 2001)))
 (.ob (.tru (.cmp .lss (.var 2001) (.len (.var 0))))
 (.ob (.tru (.fn 136 (.x (.var 1) .nil)))
 (.ite (.fn 135 (.x (.var 1) (.i (.rd (.var 0) (.var 2001) 0) .nil)))
 (.ret ((.v (.one (.z (.bool (.lit false))))), [], 3))
 (.ite (.not (.fn 138 (.i (.rd (.var 0) (.var 2001) 0) (.i (.rd (.var 0) (.var 2001) 1) (.i (.rd (.var 0) (.var 2001) 2) (.i (.rd (.var 0) (.var 2001) 3) (.i (.rd (.var 0) (.var 2001) 4) (.i (.rd (.var 0) (.var 2001) 5) (.i (.rd (.var 0) (.var 2001) 6) .nil)))))))))
 (.ret ((.v (.one (.z (.bool (.lit false))))), [], 3))
 (.ite (.cmp .leq (.rd (.var 0) (.var 2001) 0) (.var 2000))
 (.ret ((.v (.one (.z (.bool (.lit false))))), [], 3))
 (.next 0 ⟨[(0, (.rd (.var 0) (.var 2001) 0)), (1, (.ar .add .i64 (.var 2001) (.lit 1)))], [], []⟩)))))))
 (.ret ((.v (.one (.z (.bool (.lit true))))), [], 3))))))
-- end trSVal
def trSVal_h : List (Nat × St) := [
(1, ⟨(List.append [(.v (.agg [(.z (.ext [(.int .i64), (.int .i64), (.int .i64), (.int .i64), (.int .i64), (.int .i64), (.int .i64)] (.var 0) false)), (.z (.ext [(.int .i64), (.int .i64), (.int .i64), (.int .i64), (.int .i64), (.sl [(.int .i64), (.int .i64)]), (.int .i64), (.int .i64), (.sl [(.int .i64), (.int .i64), (.int .i64), (.int .i64), (.int .i64), (.int .i64)])] (.var 1) false))])), (.v (.one (.z (.ptr 0 0)))), (.v (.one (.z (.bool (.lit false))))), (.v (.one (.z (.int .i64 (.var 2000)))))] (List.append (List.replicate 4 V.any) (List.append [(.v (.one (.z (.ptr 0 1)))), (.v (.one (.z (.ext [(.int .i64), (.int .i64), (.int .i64), (.int .i64), (.int .i64), (.sl [(.int .i64), (.int .i64)]), (.int .i64), (.int .i64), (.sl [(.int .i64), (.int .i64), (.int .i64), (.int .i64), (.int .i64), (.int .i64)])] (.var 1) false)))), (.v (.one (.z (.bool (.fn 137 (.x (.var 1) .nil)))))), (.v (.one (.z (.bool (.not (.fn 137 (.x (.var 1) .nil))))))), (.v (.one (.z (.bool (.lit false))))), (.v (.one (.z (.ptr 0 0)))), (.v (.one (.z (.ext [(.int .i64), (.int .i64), (.int .i64), (.int .i64), (.int .i64), (.int .i64), (.int .i64)] (.var 0) false)))), (.v (.one (.z (.int .i64 (.len (.var 0)))))), (.v (.one (.z (.ptr 0 1)))), (.v (.one (.z (.ext [(.int .i64), (.int .i64), (.int .i64), (.int .i64), (.int .i64), (.sl [(.int .i64), (.int .i64)]), (.int .i64), (.int .i64), (.sl [(.int .i64), (.int .i64), (.int .i64), (.int .i64), (.int .i64), (.int .i64)])] (.var 1) false)))), (.v (.one (.z (.int .i64 (.len (.var 1)))))), (.v (.one (.z (.int .i64 (.ar .add .i64 (.len (.var 0)) (.len (.var 1))))))), (.v (.one (.z (.bool (.cmp .gtr (.ar .add .i64 (.len (.var 0)) (.len (.var 1))) (.lit 300)))))), (.v (.one (.z (.bool (.cmp .gtr (.ar .add .i64 (.len (.var 0)) (.len (.var 1))) (.lit 300)))))), (.v (.one (.z (.ptr 0 0)))), (.v (.one (.z (.ext [(.int .i64), (.int .i64), (.int .i64), (.int .i64), (.int .i64), (.int .i64), (.int .i64)] (.var 0) false)))), (.v (.one (.z (.int .i64 (.len (.var 0)))))), (.v (.one (.z (.int .i64 (.var 2001)))))] (List.replicate 26 V.any)))), [(0, (.cells 25 [(.z (.ext [(.int .i64), (.int .i64), (.int .i64), (.int .i64), (.int .i64), (.int .i64), (.int .i64)] (.var 0) false)), (.z (.ext [(.int .i64), (.int .i64), (.int .i64), (.int .i64), (.int .i64), (.sl [(.int .i64), (.int .i64)]), (.int .i64), (.int .i64), (.sl [(.int .i64), (.int .i64), (.int .i64), (.int .i64), (.int .i64), (.int .i64)])] (.var 1) false))]))], 2, []⟩)]
def trSVal_j : List (FuncId × Nat × Nat × St) := [
]
set_option maxRecDepth 100000 in
theorem trSVal_is : T.norm 0 (call Tryz.prog ctV1 ⟨Lt.un (Lt.of []), trSVal_h, trSVal_j⟩ 150 13 (symArgs 0 [suv]) [] 0) TT.ret = trSVal := by kernel_rfl
theorem trSVal_low : trSVal.low 1000 = true := by kernel_rfl
-- term trSCur: call Tryz.prog ctV1 (Lt.of [(101, 0)]) 150 46 (symArgs 0 [suv]) [] 0
def trSCur : TT OpR :=
(.ob (.tru (.cmp .leq (.len (.var 0)) (.lit 1000000)))
(.loop 0 3000 ⟨[(0, (.lit 0))], [], []⟩
 (.ite (.cmp .lss (.var 3000) (.len (.var 0)))
 (.ob (.tru (.cmp .leq (.lit 0) (.var 3000)))
 (.ob (.tru (.cmp .lss (.var 3000) (.len (.var 0))))
 (.loop 1 10000 ⟨[(0, (.lit 0))], [], []⟩
 (.ite (.cmp .lss (.var 10000) (.len (.var 0)))
 (.ob (.tru (.cmp .leq (.lit 0) (.var 10000)))
 (.ob (.tru (.cmp .lss (.var 10000) (.len (.var 0))))
 (.ite (.cmp .neq (.fn 134 (.i (.rd (.var 0) (.var 10000) 6) (.i (.rd (.var 0) (.var 3000) 6) .nil))) (.lit 0))
 (.ite (.cmp .gtr (.fn 134 (.i (.rd (.var 0) (.var 10000) 6) (.i (.rd (.var 0) (.var 3000) 6) .nil))) (.lit 0))
 (.ite (.fn 119 (.i (.rd (.var 0) (.var 10000) 0) (.i (.lit 1) (.i (.rd (.var 0) (.var 10000) 1) (.i (.rd (.var 0) (.var 10000) 2) (.i (.rd (.var 0) (.var 10000) 3) (.x .nil (.i (.rd (.var 0) (.var 10000) 4) (.i (.lit 0) (.x .nil (.i (.rd (.var 0) (.var 3000) 0) (.i (.lit 1) (.i (.rd (.var 0) (.var 3000) 1) (.i (.rd (.var 0) (.var 3000) 2) (.i (.rd (.var 0) (.var 3000) 3) (.x .nil (.i (.rd (.var 0) (.var 3000) 4) (.i (.lit 0) (.x .nil .nil)))))))))))))))))))
 (.ite (.cmp .eql (.var 3000) (.lit (-1)))
 (.ret ((.v (.one (.z (.own 1 (.lit 0))))), [(1, (.own 53 [(.int .i64), (.int .i64), (.int .i64), (.int .i64), (.int .i64), (.int .i64), (.int .i64)] (.var 0) (.lit 0))), (1, (.own 53 [(.int .i64), (.int .i64), (.int .i64), (.int .i64), (.int .i64), (.int .i64), (.int .i64)] (.var 0) (.lit 0))), (1, (.own 53 [(.int .i64), (.int .i64), (.int .i64), (.int .i64), (.int .i64), (.int .i64), (.int .i64)] (.var 0) (.lit 0)))], 17))
 (.loop 1 18000 ⟨[(1, (.var 3000)), (0, (.ar .add .i64 (.var 3000) (.lit 1)))], [], [(2, (.var 0))]⟩
 (.ite (.cmp .lss (.var 18000) (.len (.var 18002)))
 (.ob (.tru (.cmp .leq (.lit 0) (.var 18000)))
 (.ob (.tru (.cmp .lss (.var 18000) (.len (.var 18002))))
 (.loop 2 26000 ⟨[(0, (.lit 0))], [], []⟩
 (.ite (.cmp .lss (.var 26000) (.len (.var 0)))
 (.ob (.tru (.cmp .leq (.lit 0) (.var 26000)))
 (.ob (.tru (.cmp .lss (.var 26000) (.len (.var 0))))
 (.ite (.cmp .neq (.fn 134 (.i (.rd (.var 0) (.var 26000) 6) (.i (.rd (.var 18002) (.var 18000) 6) .nil))) (.lit 0))
 (.ite (.cmp .gtr (.fn 134 (.i (.rd (.var 0) (.var 26000) 6) (.i (.rd (.var 18002) (.var 18000) 6) .nil))) (.lit 0))
 (.ite (.fn 119 (.i (.rd (.var 0) (.var 26000) 0) (.i (.lit 1) (.i (.rd (.var 0) (.var 26000) 1) (.i (.rd (.var 0) (.var 26000) 2) (.i (.rd (.var 0) (.var 26000) 3) (.x .nil (.i (.rd (.var 0) (.var 26000) 4) (.i (.lit 0) (.x .nil (.i (.rd (.var 18002) (.var 18000) 0) (.i (.lit 1) (.i (.rd (.var 18002) (.var 18000) 1) (.i (.rd (.var 18002) (.var 18000) 2) (.i (.rd (.var 18002) (.var 18000) 3) (.x .nil (.i (.rd (.var 18002) (.var 18000) 4) (.i (.lit 0) (.x .nil .nil)))))))))))))))))))
 (.next 1 ⟨[(1, (.var 18001)), (0, (.ar .add .i64 (.var 18000) (.lit 1)))], [], [(2, (.var 18002))]⟩)
 (.next 2 ⟨[(0, (.ar .add .i64 (.var 26000) (.lit 1)))], [], []⟩))
 (.next 2 ⟨[(0, (.ar .add .i64 (.var 26000) (.lit 1)))], [], []⟩))
 (.ite (.cmp .neq (.fn 134 (.i (.rd (.var 0) (.var 26000) 0) (.i (.rd (.var 18002) (.var 18000) 0) .nil))) (.lit 0))
 (.ite (.cmp .gtr (.fn 134 (.i (.rd (.var 0) (.var 26000) 0) (.i (.rd (.var 18002) (.var 18000) 0) .nil))) (.lit 0))
 (.ite (.fn 119 (.i (.rd (.var 0) (.var 26000) 0) (.i (.lit 1) (.i (.rd (.var 0) (.var 26000) 1) (.i (.rd (.var 0) (.var 26000) 2) (.i (.rd (.var 0) (.var 26000) 3) (.x .nil (.i (.rd (.var 0) (.var 26000) 4) (.i (.lit 0) (.x .nil (.i (.rd (.var 18002) (.var 18000) 0) (.i (.lit 1) (.i (.rd (.var 18002) (.var 18000) 1) (.i (.rd (.var 18002) (.var 18000) 2) (.i (.rd (.var 18002) (.var 18000) 3) (.x .nil (.i (.rd (.var 18002) (.var 18000) 4) (.i (.lit 0) (.x .nil .nil)))))))))))))))))))
 (.next 1 ⟨[(1, (.var 18001)), (0, (.ar .add .i64 (.var 18000) (.lit 1)))], [], [(2, (.var 18002))]⟩)
 (.next 2 ⟨[(0, (.ar .add .i64 (.var 26000) (.lit 1)))], [], []⟩))
 (.next 2 ⟨[(0, (.ar .add .i64 (.var 26000) (.lit 1)))], [], []⟩))
 (.next 2 ⟨[(0, (.ar .add .i64 (.var 26000) (.lit 1)))], [], []⟩)))))
 (.ob (.tru (.cmp .leq (.lit 0) (.var 18001)))
 (.ob (.tru (.cmp .lss (.var 18001) (.len (.var 18002))))
 (.next 1 ⟨[(1, (.ar .add .i64 (.var 18001) (.lit 1))), (0, (.ar .add .i64 (.var 18000) (.lit 1)))], [], [(2, (.upd (.var 18002) (.var 18001) 0 (.i (.rd (.var 18002) (.var 18000) 0) (.i (.rd (.var 18002) (.var 18000) 1) (.i (.rd (.var 18002) (.var 18000) 2) (.i (.rd (.var 18002) (.var 18000) 3) (.i (.rd (.var 18002) (.var 18000) 4) (.i (.rd (.var 18002) (.var 18000) 5) (.i (.rd (.var 18002) (.var 18000) 6) .nil)))))))))]⟩)))))))
 (.ob (.tru (.cmp .leq (.lit 0) (.var 18001)))
 (.ob (.tru (.cmp .leq (.var 18001) (.len (.var 18002))))
 (.ob (.tru (.lit true))
 (.ob (.tru (.lit true))
 (.ob (.tru (.cmp .leq (.lit 0) (.var 18001)))
 (.ob (.tru (.cmp .leq (.var 18001) (.len (.app (.app (.sub (.var 18002) (.lit 0) (.var 18001)) (.rep (.len (.sub (.var 18002) (.var 18001) (.len (.var 18002)))) (.i (.lit 0) (.i (.lit 0) (.i (.lit 0) (.i (.lit 0) (.i (.lit 0) (.i (.lit 0) (.i (.lit 0) .nil))))))))) (.sub (.var 18002) (.plus (.var 18001) (.len (.rep (.len (.sub (.var 18002) (.var 18001) (.len (.var 18002)))) (.i (.lit 0) (.i (.lit 0) (.i (.lit 0) (.i (.lit 0) (.i (.lit 0) (.i (.lit 0) (.i (.lit 0) .nil)))))))))) (.len (.var 18002)))))))
 (.ret ((.v (.one (.z (.ovw 1 (.lit 0) 7 (.lit 0) (.var 18001) false)))), [(1, (.own 53 [(.int .i64), (.int .i64), (.int .i64), (.int .i64), (.int .i64), (.int .i64), (.int .i64)] (.app (.app (.sub (.var 18002) (.lit 0) (.var 18001)) (.rep (.len (.sub (.var 18002) (.var 18001) (.len (.var 18002)))) (.i (.lit 0) (.i (.lit 0) (.i (.lit 0) (.i (.lit 0) (.i (.lit 0) (.i (.lit 0) (.i (.lit 0) .nil))))))))) (.sub (.var 18002) (.plus (.var 18001) (.len (.rep (.len (.sub (.var 18002) (.var 18001) (.len (.var 18002)))) (.i (.lit 0) (.i (.lit 0) (.i (.lit 0) (.i (.lit 0) (.i (.lit 0) (.i (.lit 0) (.i (.lit 0) .nil)))))))))) (.len (.var 18002)))) (.lit 0))), (1, (.own 53 [(.int .i64), (.int .i64), (.int .i64), (.int .i64), (.int .i64), (.int .i64), (.int .i64)] (.var 18002) (.lit 0))), (1, (.own 53 [(.int .i64), (.int .i64), (.int .i64), (.int .i64), (.int .i64), (.int .i64), (.int .i64)] (.var 0) (.lit 0))), (1, (.own 53 [(.int .i64), (.int .i64), (.int .i64), (.int .i64), (.int .i64), (.int .i64), (.int .i64)] (.var 0) (.lit 0))), (1, (.own 53 [(.int .i64), (.int .i64), (.int .i64), (.int .i64), (.int .i64), (.int .i64), (.int .i64)] (.var 0) (.lit 0)))], 33)))))))))))
 (.next 1 ⟨[(0, (.ar .add .i64 (.var 10000) (.lit 1)))], [], []⟩))
 (.next 1 ⟨[(0, (.ar .add .i64 (.var 10000) (.lit 1)))], [], []⟩))
 (.ite (.cmp .neq (.fn 134 (.i (.rd (.var 0) (.var 10000) 0) (.i (.rd (.var 0) (.var 3000) 0) .nil))) (.lit 0))
 (.ite (.cmp .gtr (.fn 134 (.i (.rd (.var 0) (.var 10000) 0) (.i (.rd (.var 0) (.var 3000) 0) .nil))) (.lit 0))
 (.ite (.fn 119 (.i (.rd (.var 0) (.var 10000) 0) (.i (.lit 1) (.i (.rd (.var 0) (.var 10000) 1) (.i (.rd (.var 0) (.var 10000) 2) (.i (.rd (.var 0) (.var 10000) 3) (.x .nil (.i (.rd (.var 0) (.var 10000) 4) (.i (.lit 0) (.x .nil (.i (.rd (.var 0) (.var 3000) 0) (.i (.lit 1) (.i (.rd (.var 0) (.var 3000) 1) (.i (.rd (.var 0) (.var 3000) 2) (.i (.rd (.var 0) (.var 3000) 3) (.x .nil (.i (.rd (.var 0) (.var 3000) 4) (.i (.lit 0) (.x .nil .nil)))))))))))))))))))
 (.ite (.cmp .eql (.var 3000) (.lit (-1)))
 (.ret ((.v (.one (.z (.own 1 (.lit 0))))), [(1, (.own 53 [(.int .i64), (.int .i64), (.int .i64), (.int .i64), (.int .i64), (.int .i64), (.int .i64)] (.var 0) (.lit 0))), (1, (.own 53 [(.int .i64), (.int .i64), (.int .i64), (.int .i64), (.int .i64), (.int .i64), (.int .i64)] (.var 0) (.lit 0))), (1, (.own 53 [(.int .i64), (.int .i64), (.int .i64), (.int .i64), (.int .i64), (.int .i64), (.int .i64)] (.var 0) (.lit 0)))], 17))
 (.loop 1 18000 ⟨[(1, (.var 3000)), (0, (.ar .add .i64 (.var 3000) (.lit 1)))], [], [(2, (.var 0))]⟩
 (.ite (.cmp .lss (.var 18000) (.len (.var 18002)))
 (.ob (.tru (.cmp .leq (.lit 0) (.var 18000)))
 (.ob (.tru (.cmp .lss (.var 18000) (.len (.var 18002))))
 (.loop 2 26000 ⟨[(0, (.lit 0))], [], []⟩
 (.ite (.cmp .lss (.var 26000) (.len (.var 0)))
 (.ob (.tru (.cmp .leq (.lit 0) (.var 26000)))
 (.ob (.tru (.cmp .lss (.var 26000) (.len (.var 0))))
 (.ite (.cmp .neq (.fn 134 (.i (.rd (.var 0) (.var 26000) 6) (.i (.rd (.var 18002) (.var 18000) 6) .nil))) (.lit 0))
 (.ite (.cmp .gtr (.fn 134 (.i (.rd (.var 0) (.var 26000) 6) (.i (.rd (.var 18002) (.var 18000) 6) .nil))) (.lit 0))
 (.ite (.fn 119 (.i (.rd (.var 0) (.var 26000) 0) (.i (.lit 1) (.i (.rd (.var 0) (.var 26000) 1) (.i (.rd (.var 0) (.var 26000) 2) (.i (.rd (.var 0) (.var 26000) 3) (.x .nil (.i (.rd (.var 0) (.var 26000) 4) (.i (.lit 0) (.x .nil (.i (.rd (.var 18002) (.var 18000) 0) (.i (.lit 1) (.i (.rd (.var 18002) (.var 18000) 1) (.i (.rd (.var 18002) (.var 18000) 2) (.i (.rd (.var 18002) (.var 18000) 3) (.x .nil (.i (.rd (.var 18002) (.var 18000) 4) (.i (.lit 0) (.x .nil .nil)))))))))))))))))))
 (.next 1 ⟨[(1, (.var 18001)), (0, (.ar .add .i64 (.var 18000) (.lit 1)))], [], [(2, (.var 18002))]⟩)
 (.next 2 ⟨[(0, (.ar .add .i64 (.var 26000) (.lit 1)))], [], []⟩))
 (.next 2 ⟨[(0, (.ar .add .i64 (.var 26000) (.lit 1)))], [], []⟩))
 (.ite (.cmp .neq (.fn 134 (.i (.rd (.var 0) (.var 26000) 0) (.i (.rd (.var 18002) (.var 18000) 0) .nil))) (.lit 0))
 (.ite (.cmp .gtr (.fn 134 (.i (.rd (.var 0) (.var 26000) 0) (.i (.rd (.var 18002) (.var 18000) 0) .nil))) (.lit 0))
 (.ite (.fn 119 (.i (.rd (.var 0) (.var 26000) 0) (.i (.lit 1) (.i (.rd (.var 0) (.var 26000) 1) (.i (.rd (.var 0) (.var 26000) 2) (.i (.rd (.var 0) (.var 26000) 3) (.x .nil (.i (.rd (.var 0) (.var 26000) 4) (.i (.lit 0) (.x .nil (.i (.rd (.var 18002) (.var 18000) 0) (.i (.lit 1) (.i (.rd (.var 18002) (.var 18000) 1) (.i (.rd (.var 18002) (.var 18000) 2) (.i (.rd (.var 18002) (.var 18000) 3) (.x .nil (.i (.rd (.var 18002) (.var 18000) 4) (.i (.lit 0) (.x .nil .nil)))))))))))))))))))
 (.next 1 ⟨[(1, (.var 18001)), (0, (.ar .add .i64 (.var 18000) (.lit 1)))], [], [(2, (.var 18002))]⟩)
 (.next 2 ⟨[(0, (.ar .add .i64 (.var 26000) (.lit 1)))], [], []⟩))
 (.next 2 ⟨[(0, (.ar .add .i64 (.var 26000) (.lit 1)))], [], []⟩))
 (.next 2 ⟨[(0, (.ar .add .i64 (.var 26000) (.lit 1)))], [], []⟩)))))
 (.ob (.tru (.cmp .leq (.lit 0) (.var 18001)))
 (.ob (.tru (.cmp .lss (.var 18001) (.len (.var 18002))))
 (.next 1 ⟨[(1, (.ar .add .i64 (.var 18001) (.lit 1))), (0, (.ar .add .i64 (.var 18000) (.lit 1)))], [], [(2, (.upd (.var 18002) (.var 18001) 0 (.i (.rd (.var 18002) (.var 18000) 0) (.i (.rd (.var 18002) (.var 18000) 1) (.i (.rd (.var 18002) (.var 18000) 2) (.i (.rd (.var 18002) (.var 18000) 3) (.i (.rd (.var 18002) (.var 18000) 4) (.i (.rd (.var 18002) (.var 18000) 5) (.i (.rd (.var 18002) (.var 18000) 6) .nil)))))))))]⟩)))))))
 (.ob (.tru (.cmp .leq (.lit 0) (.var 18001)))
 (.ob (.tru (.cmp .leq (.var 18001) (.len (.var 18002))))
 (.ob (.tru (.lit true))
 (.ob (.tru (.lit true))
 (.ob (.tru (.cmp .leq (.lit 0) (.var 18001)))
 (.ob (.tru (.cmp .leq (.var 18001) (.len (.app (.app (.sub (.var 18002) (.lit 0) (.var 18001)) (.rep (.len (.sub (.var 18002) (.var 18001) (.len (.var 18002)))) (.i (.lit 0) (.i (.lit 0) (.i (.lit 0) (.i (.lit 0) (.i (.lit 0) (.i (.lit 0) (.i (.lit 0) .nil))))))))) (.sub (.var 18002) (.plus (.var 18001) (.len (.rep (.len (.sub (.var 18002) (.var 18001) (.len (.var 18002)))) (.i (.lit 0) (.i (.lit 0) (.i (.lit 0) (.i (.lit 0) (.i (.lit 0) (.i (.lit 0) (.i (.lit 0) .nil)))))))))) (.len (.var 18002)))))))
 (.ret ((.v (.one (.z (.ovw 1 (.lit 0) 7 (.lit 0) (.var 18001) false)))), [(1, (.own 53 [(.int .i64), (.int .i64), (.int .i64), (.int .i64), (.int .i64), (.int .i64), (.int .i64)] (.app (.app (.sub (.var 18002) (.lit 0) (.var 18001)) (.rep (.len (.sub (.var 18002) (.var 18001) (.len (.var 18002)))) (.i (.lit 0) (.i (.lit 0) (.i (.lit 0) (.i (.lit 0) (.i (.lit 0) (.i (.lit 0) (.i (.lit 0) .nil))))))))) (.sub (.var 18002) (.plus (.var 18001) (.len (.rep (.len (.sub (.var 18002) (.var 18001) (.len (.var 18002)))) (.i (.lit 0) (.i (.lit 0) (.i (.lit 0) (.i (.lit 0) (.i (.lit 0) (.i (.lit 0) (.i (.lit 0) .nil)))))))))) (.len (.var 18002)))) (.lit 0))), (1, (.own 53 [(.int .i64), (.int .i64), (.int .i64), (.int .i64), (.int .i64), (.int .i64), (.int .i64)] (.var 18002) (.lit 0))), (1, (.own 53 [(.int .i64), (.int .i64), (.int .i64), (.int .i64), (.int .i64), (.int .i64), (.int .i64)] (.var 0) (.lit 0))), (1, (.own 53 [(.int .i64), (.int .i64), (.int .i64), (.int .i64), (.int .i64), (.int .i64), (.int .i64)] (.var 0) (.lit 0))), (1, (.own 53 [(.int .i64), (.int .i64), (.int .i64), (.int .i64), (.int .i64), (.int .i64), (.int .i64)] (.var 0) (.lit 0)))], 33)))))))))))
 (.next 1 ⟨[(0, (.ar .add .i64 (.var 10000) (.lit 1)))], [], []⟩))
 (.next 1 ⟨[(0, (.ar .add .i64 (.var 10000) (.lit 1)))], [], []⟩))
 (.next 1 ⟨[(0, (.ar .add .i64 (.var 10000) (.lit 1)))], [], []⟩)))))
 (.next 0 ⟨[(0, (.ar .add .i64 (.var 3000) (.lit 1)))], [], []⟩)))))
 (.ret ((.v (.one (.z (.own 1 (.lit 0))))), [(1, (.own 53 [(.int .i64), (.int .i64), (.int .i64), (.int .i64), (.int .i64), (.int .i64), (.int .i64)] (.var 0) (.lit 0))), (1, (.own 53 [(.int .i64), (.int .i64), (.int .i64), (.int .i64), (.int .i64), (.int .i64), (.int .i64)] (.var 0) (.lit 0)))], 17)))))
-- end trSCur
def trSCur_h : List (Nat × St) := [
(2, ⟨(List.append [(.v (.one (.z (.own 1 (.lit 0))))), (.v (.one (.z (.clo 74 [(0, 0)])))), (.v (.one (.z .any))), (.v (.one (.z .any))), (.v (.one (.z (.int .i64 (.lit 0))))), (.v (.one (.z .any))), (.v (.one (.z (.own 1 (.lit 0))))), (.v (.one (.z (.int .i64 (.len (.var 0)))))), (.v (.one (.z (.int .i64 (.var 3000)))))] (List.replicate 10 V.any)), [(1, (.own 53 [(.int .i64), (.int .i64), (.int .i64), (.int .i64), (.int .i64), (.int .i64), (.int .i64)] (.var 0) (.lit 0))), (0, (.cells 25 [(.z (.ext [(.int .i64), (.int .i64), (.int .i64), (.int .i64), (.int .i64), (.int .i64), (.int .i64)] (.var 0) false)), (.z (.ext [(.int .i64), (.int .i64), (.int .i64), (.int .i64), (.int .i64), (.sl [(.int .i64), (.int .i64)]), (.int .i64), (.int .i64), (.sl [(.int .i64), (.int .i64), (.int .i64), (.int .i64), (.int .i64), (.int .i64)])] (.var 1) false))]))], 3, []⟩),
(9, ⟨(List.append [(.v (.one (.z (.yl 8)))), (.v (.one (.z (.ptr 5 0)))), (.v (.one (.z (.ptr 6 0)))), (.v (.one (.z .any))), (.v (.one (.z .any))), (.v (.one (.z .any))), (.v (.one (.z (.ext [(.int .i64), (.int .i64), (.int .i64), (.int .i64), (.int .i64), (.int .i64), (.int .i64)] (.var 0) false)))), (.v (.one (.z (.int .i64 (.len (.var 0)))))), (.v (.one (.z (.int .i64 (.var 10000)))))] (List.replicate 23 V.any)), [(8, (.loop .ready none (List.append [(.v (.agg [(.z (.int .i64 (.rd (.var 0) (.var 3000) 0))), (.z (.int .i64 (.rd (.var 0) (.var 3000) 1))), (.z (.int .i64 (.rd (.var 0) (.var 3000) 2))), (.z (.int .i64 (.rd (.var 0) (.var 3000) 3))), (.z (.int .i64 (.rd (.var 0) (.var 3000) 4))), (.z (.int .i64 (.rd (.var 0) (.var 3000) 5))), (.z (.int .i64 (.rd (.var 0) (.var 3000) 6)))])), (.v (.one (.z (.ptr 0 0)))), (.v (.one (.z (.ptr 3 0)))), (.v (.one (.z (.ptr 4 0)))), (.v (.one (.z .any))), (.v (.one (.z .any))), (.v (.one (.z .any))), (.v (.one (.z (.ptr 0 0)))), (.v (.one (.z (.ext [(.int .i64), (.int .i64), (.int .i64), (.int .i64), (.int .i64), (.int .i64), (.int .i64)] (.var 0) false)))), (.v (.agg [(.z (.int .i64 (.rd (.var 0) (.var 3000) 0))), (.z (.int .i64 (.rd (.var 0) (.var 3000) 1))), (.z (.int .i64 (.rd (.var 0) (.var 3000) 2))), (.z (.int .i64 (.rd (.var 0) (.var 3000) 3))), (.z (.int .i64 (.rd (.var 0) (.var 3000) 4))), (.z (.int .i64 (.rd (.var 0) (.var 3000) 5))), (.z (.int .i64 (.rd (.var 0) (.var 3000) 6)))])), (.v (.one (.z (.clo 100 [(5, 0), (6, 0)]))))] (List.replicate 10 V.any)) [] .skip .skip 7)), (7, (.dfd false)), (6, (.cells 53 [(.z (.int .i64 (.rd (.var 0) (.var 3000) 0))), (.z (.int .i64 (.rd (.var 0) (.var 3000) 1))), (.z (.int .i64 (.rd (.var 0) (.var 3000) 2))), (.z (.int .i64 (.rd (.var 0) (.var 3000) 3))), (.z (.int .i64 (.rd (.var 0) (.var 3000) 4))), (.z (.int .i64 (.rd (.var 0) (.var 3000) 5))), (.z (.int .i64 (.rd (.var 0) (.var 3000) 6)))])), (5, (.cells 22 [(.z (.ext [(.int .i64), (.int .i64), (.int .i64), (.int .i64), (.int .i64), (.int .i64), (.int .i64)] (.var 0) false))])), (4, (.cells 4 [(.z (.bool (.lit false)))])), (3, (.cells 53 [(.z (.int .i64 (.rd (.var 0) (.var 3000) 0))), (.z (.int .i64 (.rd (.var 0) (.var 3000) 1))), (.z (.int .i64 (.rd (.var 0) (.var 3000) 2))), (.z (.int .i64 (.rd (.var 0) (.var 3000) 3))), (.z (.int .i64 (.rd (.var 0) (.var 3000) 4))), (.z (.int .i64 (.rd (.var 0) (.var 3000) 5))), (.z (.int .i64 (.rd (.var 0) (.var 3000) 6)))])), (1, (.own 53 [(.int .i64), (.int .i64), (.int .i64), (.int .i64), (.int .i64), (.int .i64), (.int .i64)] (.var 0) (.lit 0))), (0, (.cells 25 [(.z (.ext [(.int .i64), (.int .i64), (.int .i64), (.int .i64), (.int .i64), (.int .i64), (.int .i64)] (.var 0) false)), (.z (.ext [(.int .i64), (.int .i64), (.int .i64), (.int .i64), (.int .i64), (.sl [(.int .i64), (.int .i64)]), (.int .i64), (.int .i64), (.sl [(.int .i64), (.int .i64), (.int .i64), (.int .i64), (.int .i64), (.int .i64)])] (.var 1) false))]))], 10, []⟩),
(17, ⟨(List.append [(.v (.one (.z (.own 1 (.lit 0))))), (.v (.one (.z (.clo 74 [(0, 0)])))), (.v (.one (.z .any))), (.v (.one (.z .any))), (.v (.one (.z (.const (.slice none 0 0))))), (.v (.one (.z (.int .i64 (.var 18001))))), (.v (.one (.z (.int .i64 (.var 18000))))), (.v (.one (.z .any))), (.v (.one (.z (.own 1 (.lit 0))))), (.v (.one (.z (.clo 74 [(0, 0)])))), (.v (.one (.z (.int .i64 (.var 3000))))), (.v (.one (.z (.int .i64 (.var 3000))))), (.v (.one (.z (.bool (.cmp .eql (.var 3000) (.lit (-1))))))), (.v (.one (.z .any))), (.v (.one (.z (.int .i64 (.var 3000))))), (.v (.one (.z (.int .i64 (.ar .add .i64 (.var 3000) (.lit 1))))))] (List.replicate 26 V.any)), [(1, (.own 53 [(.int .i64), (.int .i64), (.int .i64), (.int .i64), (.int .i64), (.int .i64), (.int .i64)] (.var 18002) (.lit 0))), (0, (.cells 25 [(.z (.ext [(.int .i64), (.int .i64), (.int .i64), (.int .i64), (.int .i64), (.int .i64), (.int .i64)] (.var 0) false)), (.z (.ext [(.int .i64), (.int .i64), (.int .i64), (.int .i64), (.int .i64), (.sl [(.int .i64), (.int .i64)]), (.int .i64), (.int .i64), (.sl [(.int .i64), (.int .i64), (.int .i64), (.int .i64), (.int .i64), (.int .i64)])] (.var 1) false))]))], 18, []⟩),
(25, ⟨(List.append [(.v (.one (.z (.yl 24)))), (.v (.one (.z (.ptr 21 0)))), (.v (.one (.z (.ptr 22 0)))), (.v (.one (.z .any))), (.v (.one (.z .any))), (.v (.one (.z .any))), (.v (.one (.z (.ext [(.int .i64), (.int .i64), (.int .i64), (.int .i64), (.int .i64), (.int .i64), (.int .i64)] (.var 0) false)))), (.v (.one (.z (.int .i64 (.len (.var 0)))))), (.v (.one (.z (.int .i64 (.var 26000)))))] (List.replicate 23 V.any)), [(24, (.loop .ready none (List.append [(.v (.agg [(.z (.int .i64 (.rd (.var 18002) (.var 18000) 0))), (.z (.int .i64 (.rd (.var 18002) (.var 18000) 1))), (.z (.int .i64 (.rd (.var 18002) (.var 18000) 2))), (.z (.int .i64 (.rd (.var 18002) (.var 18000) 3))), (.z (.int .i64 (.rd (.var 18002) (.var 18000) 4))), (.z (.int .i64 (.rd (.var 18002) (.var 18000) 5))), (.z (.int .i64 (.rd (.var 18002) (.var 18000) 6)))])), (.v (.one (.z (.ptr 0 0)))), (.v (.one (.z (.ptr 19 0)))), (.v (.one (.z (.ptr 20 0)))), (.v (.one (.z .any))), (.v (.one (.z .any))), (.v (.one (.z .any))), (.v (.one (.z (.ptr 0 0)))), (.v (.one (.z (.ext [(.int .i64), (.int .i64), (.int .i64), (.int .i64), (.int .i64), (.int .i64), (.int .i64)] (.var 0) false)))), (.v (.agg [(.z (.int .i64 (.rd (.var 18002) (.var 18000) 0))), (.z (.int .i64 (.rd (.var 18002) (.var 18000) 1))), (.z (.int .i64 (.rd (.var 18002) (.var 18000) 2))), (.z (.int .i64 (.rd (.var 18002) (.var 18000) 3))), (.z (.int .i64 (.rd (.var 18002) (.var 18000) 4))), (.z (.int .i64 (.rd (.var 18002) (.var 18000) 5))), (.z (.int .i64 (.rd (.var 18002) (.var 18000) 6)))])), (.v (.one (.z (.clo 100 [(21, 0), (22, 0)]))))] (List.replicate 10 V.any)) [] .skip .skip 23)), (23, (.dfd false)), (22, (.cells 53 [(.z (.int .i64 (.rd (.var 18002) (.var 18000) 0))), (.z (.int .i64 (.rd (.var 18002) (.var 18000) 1))), (.z (.int .i64 (.rd (.var 18002) (.var 18000) 2))), (.z (.int .i64 (.rd (.var 18002) (.var 18000) 3))), (.z (.int .i64 (.rd (.var 18002) (.var 18000) 4))), (.z (.int .i64 (.rd (.var 18002) (.var 18000) 5))), (.z (.int .i64 (.rd (.var 18002) (.var 18000) 6)))])), (21, (.cells 22 [(.z (.ext [(.int .i64), (.int .i64), (.int .i64), (.int .i64), (.int .i64), (.int .i64), (.int .i64)] (.var 0) false))])), (20, (.cells 4 [(.z (.bool (.lit false)))])), (19, (.cells 53 [(.z (.int .i64 (.rd (.var 18002) (.var 18000) 0))), (.z (.int .i64 (.rd (.var 18002) (.var 18000) 1))), (.z (.int .i64 (.rd (.var 18002) (.var 18000) 2))), (.z (.int .i64 (.rd (.var 18002) (.var 18000) 3))), (.z (.int .i64 (.rd (.var 18002) (.var 18000) 4))), (.z (.int .i64 (.rd (.var 18002) (.var 18000) 5))), (.z (.int .i64 (.rd (.var 18002) (.var 18000) 6)))])), (18, (.cells 53 [(.z (.int .i64 (.rd (.var 18002) (.var 18000) 0))), (.z (.int .i64 (.rd (.var 18002) (.var 18000) 1))), (.z (.int .i64 (.rd (.var 18002) (.var 18000) 2))), (.z (.int .i64 (.rd (.var 18002) (.var 18000) 3))), (.z (.int .i64 (.rd (.var 18002) (.var 18000) 4))), (.z (.int .i64 (.rd (.var 18002) (.var 18000) 5))), (.z (.int .i64 (.rd (.var 18002) (.var 18000) 6)))])), (1, (.own 53 [(.int .i64), (.int .i64), (.int .i64), (.int .i64), (.int .i64), (.int .i64), (.int .i64)] (.var 18002) (.lit 0))), (0, (.cells 25 [(.z (.ext [(.int .i64), (.int .i64), (.int .i64), (.int .i64), (.int .i64), (.int .i64), (.int .i64)] (.var 0) false)), (.z (.ext [(.int .i64), (.int .i64), (.int .i64), (.int .i64), (.int .i64), (.sl [(.int .i64), (.int .i64)]), (.int .i64), (.int .i64), (.sl [(.int .i64), (.int .i64), (.int .i64), (.int .i64), (.int .i64), (.int .i64)])] (.var 1) false))]))], 26, []⟩)]
def trSCur_j : List (FuncId × Nat × Nat × St) := [
]
set_option maxRecDepth 100000 in
theorem trSCur_is : T.norm 0 (call Tryz.prog ctV1 ⟨Lt.un (Lt.of [(101, 0)]), trSCur_h, trSCur_j⟩ 150 46 (symArgs 0 [suv]) [] 0) TT.ret = trSCur := by kernel_rfl
theorem trSCur_low : trSCur.low 1000 = true := by kernel_rfl
end Go.Proofs.YtldbejmgalhdaaaGreat
/- Chapter 09: survey's Valid and current. -/
namespace Go.Proofs.YtldbejmgalhdaaaGreat
open Go.RowKit
theorem cmp_two (a b : Int) : cmpL [.i a, .i b] = cmpI a b := rfl
theorem cmpI_pos {a b : Int} : cmpI a b > 0 ↔ b < a := by unfold cmpI; split <;> (try split) <;> omega
theorem cmpI_ne {a b : Int} : cmpI a b ≠ 0 ↔ a ≠ b := by unfold cmpI; split <;> (try split) <;> omega
def sndRow (s : Rows) (i : Nat) : Bool := sndB (lg s i 0) (lg s i 1) (lg s i 2) (lg s i 3) (lg s i 4) (lg s i 5) (lg s i 6)
def surN (F s : Rows) : Nat → Nat → Int → Bool
  | 0, _, _ => true
  | f + 1, i, last => (!isB F (lg s i 0) && (sndRow s i && decide (last < lg s i 0))) && surN F s f (i + 1) (lg s i 0)
def surB (s F : Rows) : Bool := listB F && (decide ((s.length : Int) + F.length ≤ 300) && surN F s s.length 0 0)
def surL (ds : List D) : Bool := surB (rAt ds 0) (rAt ds 1)
theorem lis_rise {r : Rows} : ∀ (f i : Nat) (last : Int), lisN r f i last = true → ∀ k : Nat, i ≤ k → k + 1 < i + f → lg r k 0 < lg r (k + 1 : Nat) 0
  | 0, _, _, _, k, h1, h2 => by omega
  | f + 1, i, last, h, k, h1, h2 => by
    rw [lisN, Bool.and_eq_true, Bool.and_eq_true] at h
    by_cases e : k = i
    · subst e
      obtain ⟨g, hg⟩ : ∃ g, f = g + 1 := ⟨f - 1, by omega⟩
      have h3 := h.2
      rw [hg, lisN, Bool.and_eq_true, Bool.and_eq_true, decide_eq_true_eq] at h3
      exact h3.1.2
    · exact lis_rise f (i + 1) _ h.2 k (by omega) (by omega)
theorem list_ris {r : Rows} (h : listB r = true) : risB r = true := by
  unfold listB at h
  rw [Bool.and_eq_true] at h
  exact ris_of (fun i hi => lis_rise _ _ _ h.1 i (by omega) (by omega))
theorem suv_len {W : World} {vals : List Value} {ds : List D} {sh : List Sh} (h : repSh W (suv :: sh) vals ds) : (rAt ds 0).length ≤ 281474976710656 ∧ (rAt ds 1).length ≤ 281474976710656 := by
  obtain ⟨v, vs', d, ds', rfl, rfl, ⟨us, rfl, h⟩, _⟩ := h
  have e1 : d.length = 2 := (reps_len h).2
  obtain ⟨_, x0, _, p0, q0⟩ := reps_get (j := 0) h rfl
  obtain ⟨_, x1, _, p1, q1⟩ := reps_get (j := 1) h rfl
  have a0 : (d ++ ds')[0]? = some x0 := by rw [List.getElem?_append_left (by omega)]; exact p0
  have a1 : (d ++ ds')[1]? = some x1 := by rw [List.getElem?_append_left (by omega)]; exact p1
  have gd : ∀ (l : List D) (i : Nat) (d : D), l[i]? = some d → l.getD i (.i 0) = d := fun l i d h => by rw [List.getD_eq_getElem?_getD, h]; rfl
  have lr : ∀ {k : List CK} {v : Value} {d : D}, CK.rep W (.sl k) v d → d.rows.length ≤ 281474976710656 := fun {k v d} h => by
    rw [rep_sl] at h
    obtain ⟨r, rfl, a, n, c, _, hs, _⟩ := h
    have e1 := hs.len
    have e2 := hs.big
    show r.length ≤ _
    omega
  unfold rAt
  rw [gd _ _ _ a0, gd _ _ _ a1]
  exact ⟨lr q0, lr q1⟩
theorem KVai134 (W : World) (ds l : List D) : (envOf KVa W ds).fi 134 l = cmpL l := by simp only [envOf, KVa]
theorem KVab135 (W : World) (ds l : List D) : (envOf KVa W ds).fb 135 l = isL l := by simp only [envOf, KVa]
theorem KVab136 (W : World) (ds l : List D) : (envOf KVa W ds).fb 136 l = risL l := by simp only [envOf, KVa]
theorem KVab137 (W : World) (ds l : List D) : (envOf KVa W ds).fb 137 l = listL l := by simp only [envOf, KVa]
theorem KVab138 (W : World) (ds l : List D) : (envOf KVa W ds).fb 138 l = sndL l := by simp only [envOf, KVa]
theorem KVab119 (W : World) (ds l : List D) : (envOf KVa W ds).fb 119 l = feHoR l := by simp only [envOf, KVa, K80, K79, K78, K77, K76]
theorem is_two (r : Rows) (n : Int) : isL [.l r, .i n] = isB r n := rfl
theorem ris_one (r : Rows) : risL [.l r] = risB r := rfl
theorem list_one9 (r : Rows) : listL [.l r] = listB r := rfl
theorem snd_seven (a b c d e f g : Int) : sndL [.i a, .i b, .i c, .i d, .i e, .i f, .i g] = sndB a b c d e f g := rfl
set_option maxHeartbeats 1000000 in
theorem gSVal : Gives Tryz.prog 13 [suv] (fun ds => .bool (surL ds)) := by
  refine GivesIf.all (fn_gives KVa (by kernel_rfl) (fun ρ h => ctV1_ok (Sees.of h 150)) (by kernel_rfl) trSVal_is trSVal_low (by decide) (fun W vals ds hr _ => ?_))
  obtain ⟨n0, n1⟩ := suv_len hr
  simp only [trSVal, TT.sat_ret, TT.sat_ite, TT.sat_ob, TT.sat_next, TT.sat_stuck, put_i, put_b, put_d, put_fi, put_fb, put_fd, Ob.ok, B.ev, E.ev, X.ev, AL.ev, cmp_t, cmp_f, arEv, V.plain, V2.plain, S.plain, S0.plain, V.val, V2.val, S.val, S0.val, bV, iV, List.all_cons, List.all_nil, Bool.and_true, Bool.and_self, envOf_i, envOf_b, envOf_d, List.map_cons, List.map_nil, true_and, Bool.not_eq_true', Bool.not_eq_false', Bool.not_not, Bool.and_eq_true, and_f, cell_lg, cell_lb, cell_lr, cmpP, val_i, val_b, val_d, aget, Nat.reduceBEq, beq_self_eq_true, Bool.false_eq_true, if_true, if_false, Nat.reduceLT, Nat.reduceSub, Nat.sub_self, Nat.lt_irrefl, KVab137, list_one9]
  have hO : surL ds = surB (rAt ds 0) (rAt ds 1) := rfl
  rw [hO]
  clear hO hr
  generalize e0 : rAt ds 0 = s at *
  generalize e1 : rAt ds 1 = F at *
  rw [wrap_in ((s.length : Int) + F.length) (by omega) (by omega)]
  refine ⟨fun h => by rw [surB, h]; rfl, fun hL => ⟨fun h => by rw [surB, decide_eq_false (p := (s.length : Int) + F.length ≤ 300) (by omega)]; simp, fun h300 => ?_⟩⟩
  have hr := list_ris hL
  have hS : surB s F = surN F s s.length 0 0 := by rw [surB, hL, decide_eq_true (p := (s.length : Int) + F.length ≤ 300) (by omega)]; rfl
  rw [hS]
  generalize hG : surN F s s.length 0 0 = G
  refine TT.sat_loop (fun v => ∃ i : Nat, v.i 1 = i ∧ i ≤ s.length ∧ surN F s (s.length - i) i (v.i 0) = G) (fun v => s.length - (v.i 1).toNat)
    ⟨0, by simp [val_i, aget, E.ev], by omega, hG⟩ (fun v hv => ?_)
  obtain ⟨i, i0, i1, i2⟩ := hv
  simp only [TT.sat_ret, TT.sat_ite, TT.sat_ob, TT.sat_next, TT.sat_stuck, put_i, put_b, put_d, put_fi, put_fb, put_fd, Ob.ok, B.ev, E.ev, X.ev, AL.ev, cmp_t, cmp_f, arEv, V.plain, V2.plain, S.plain, S0.plain, V.val, V2.val, S.val, S0.val, bV, iV, List.all_cons, List.all_nil, Bool.and_true, Bool.and_self, envOf_i, envOf_b, envOf_d, List.map_cons, List.map_nil, true_and, Bool.not_eq_true', Bool.not_eq_false', Bool.not_not, Bool.and_eq_true, and_f, cell_lg, cell_lb, cell_lr, cmpP, val_i, val_b, val_d, aget, Nat.reduceBEq, beq_self_eq_true, Bool.false_eq_true, if_true, if_false, Nat.reduceLT, Nat.reduceSub, Nat.sub_self, Nat.lt_irrefl, i0, e0, e1, KVab135, KVab136, KVab138, is_two, ris_one, snd_seven]
  refine ⟨fun hc => ?_, fun hc => ?_⟩
  · have hi : i < s.length := by omega
    obtain ⟨f, hf⟩ : ∃ f, s.length - i = f + 1 := ⟨s.length - i - 1, by omega⟩
    have hf' : s.length - (i + 1) = f := by omega
    rw [hf, surN] at i2
    rw [wrap_in ((i : Int) + 1) (by omega) (by omega)]
    refine ⟨by omega, by omega, hr, fun a => ?_, fun a => ⟨fun b => ?_, fun b => ⟨fun c => ?_, fun c => ⟨⟨i + 1, rfl, by omega, ?_⟩, by omega⟩⟩⟩⟩
    · rw [← i2, a]; rfl
    · rw [← i2, a, sndRow, b]; rfl
    · rw [← i2, a, sndRow, b, decide_eq_false (by omega)]; rfl
    · rw [hf', ← i2, a, sndRow, b, decide_eq_true (p := v.i 0 < lg s i 0) (by omega)]; rfl
  · have h0 : s.length - i = 0 := by omega
    rw [h0, surN] at i2
    rw [← i2]
/-! Rows -/
def cI (row : List D) (j : Nat) : Int := (row[j]?.getD (.i 0)).int
theorem lg_cI {r : Rows} {i : Nat} (h : i < r.length) (j : Nat) : lg r i j = cI r[i] j := by
  unfold lg cellAt cI
  rw [Int.toNat_natCast, List.getElem?_eq_getElem h]
  rfl
def row7 (row : List D) : Prop := row = [.i (cI row 0), .i (cI row 1), .i (cI row 2), .i (cI row 3), .i (cI row 4), .i (cI row 5), .i (cI row 6)]
theorem reps_row7 {w : World} {us : List Value} {row : List D} (h : CK.reps w sndK us row) : row7 row := by
  have hl : row.length = 7 := (reps_len h).2
  have hi : ∀ j, j < 7 → row[j]? = some (.i (cI row j)) := fun j hj => by
    obtain ⟨v, d, _, h1, h2⟩ := reps_get (j := j) (k := .int .i64) h (by
      rcases (show j = 0 ∨ j = 1 ∨ j = 2 ∨ j = 3 ∨ j = 4 ∨ j = 5 ∨ j = 6 by omega) with e | e | e | e | e | e | e <;> subst e <;> rfl)
    unfold CK.rep at h2
    obtain ⟨n, _, rfl⟩ := h2
    rw [h1]
    unfold cI
    rw [h1]
    rfl
  unfold row7
  refine List.ext_getElem? (fun j => ?_)
  rcases Nat.lt_or_ge j 7 with q | q
  · rw [hi j q]
    rcases (show j = 0 ∨ j = 1 ∨ j = 2 ∨ j = 3 ∨ j = 4 ∨ j = 5 ∨ j = 6 by omega) with e | e | e | e | e | e | e <;> subst e <;> rfl
  · rw [List.getElem?_eq_none (by omega), List.getElem?_eq_none (by simp; omega)]
theorem suv_rows {W : World} {vals : List Value} {ds : List D} {sh : List Sh} (h : repSh W (suv :: sh) vals ds) : ∀ row ∈ rAt ds 0, row7 row := by
  obtain ⟨v, vs', d, ds', rfl, rfl, ⟨us, rfl, h⟩, _⟩ := h
  have e1 : d.length = 2 := (reps_len h).2
  obtain ⟨_, x0, _, p0, q0⟩ := reps_get (j := 0) h rfl
  have a0 : (d ++ ds')[0]? = some x0 := by rw [List.getElem?_append_left (by omega)]; exact p0
  have gd : (d ++ ds').getD 0 (.i 0) = x0 := by rw [List.getD_eq_getElem?_getD, a0]; rfl
  intro row hrow
  unfold rAt at hrow
  rw [gd, rep_sl] at *
  obtain ⟨r, rfl, a, n, c, _, hs, _⟩ := q0
  obtain ⟨i, hi, rfl⟩ := List.getElem_of_mem hrow
  obtain ⟨b, hb⟩ := Option.isSome_iff_exists.1 (hs.there (by have := hs.len; have : i < r.length := hi; omega))
  obtain ⟨vs, g1, _⟩ := hs.cell b hb i r[i] (List.getElem?_eq_getElem hi)
  exact reps_row7 g1
def ftr (row : List D) : List D := [.i (cI row 0), .i 1, .i (cI row 1), .i (cI row 2), .i (cI row 3), .l [], .i (cI row 4), .i 0, .l []]
def latB (y x : List D) : Bool := decide (cI x 6 < cI y 6 ∨ (cI y 6 = cI x 6 ∧ cI x 0 < cI y 0))
def byB (y x : List D) : Bool := latB y x && feHoR (ftr y ++ ftr x)
def replB (s : Rows) (x : List D) : Bool := s.any fun y => byB y x
def curR (s : Rows) : Rows := s.filter fun x => !replB s x
theorem repl_no {s : Rows} {x : List D} (h : ∀ (k : Nat) (hk : k < s.length), byB s[k] x = false) : replB s x = false := by
  unfold replB
  rw [List.any_eq_false]
  intro y hy
  obtain ⟨k, hk, rfl⟩ := List.getElem_of_mem hy
  rw [h k hk]; decide
theorem repl_yes {s : Rows} {x : List D} {k : Nat} (hk : k < s.length) (h : byB s[k] x = true) : replB s x = true := by
  unfold replB
  rw [List.any_eq_true]
  exact ⟨s[k], List.getElem_mem hk, h⟩
theorem take_filter {s : Rows} {p : List D → Bool} {j : Nat} (hj : j < s.length) : (s.take (j + 1)).filter p = (s.take j).filter p ++ (if p s[j] then [s[j]] else []) := by
  rw [List.take_succ_eq_append_getElem hj, List.filter_append]
  congr 1
  by_cases h : p s[j] = true
  · rw [if_pos h]; simp [h]
  · rw [if_neg h]; simp [h]
end Go.Proofs.YtldbejmgalhdaaaGreat
/- Chapter 09: survey's current. -/
namespace Go.Proofs.YtldbejmgalhdaaaGreat
open Go.RowKit
def nlCur : NL := { e := 53, ks := sndK, s := 0, rows := fun ds => curR (rAt ds 0) }
theorem by_of {y x : List D} {b : Bool} (hb : feHoR [.i (cI y 0), .i 1, .i (cI y 1), .i (cI y 2), .i (cI y 3), .l [], .i (cI y 4), .i 0, .l [], .i (cI x 0), .i 1, .i (cI x 1), .i (cI x 2), .i (cI x 3), .l [], .i (cI x 4), .i 0, .l []] = b) :
    (cI x 6 < cI y 6 ∨ (cI y 6 = cI x 6 ∧ cI x 0 < cI y 0) → byB y x = b) ∧ (¬ (cI x 6 < cI y 6 ∨ (cI y 6 = cI x 6 ∧ cI x 0 < cI y 0)) → byB y x = false) := by
  refine ⟨fun h => ?_, fun h => ?_⟩
  · have : byB y x = (latB y x && b) := by rw [← hb]; rfl
    rw [this, latB, decide_eq_true h, Bool.true_and]
  · unfold byB
    rw [latB, decide_eq_false h, Bool.false_and]
theorem row7_len {row : List D} (h : row7 row) : row.length = 7 := by rw [h]; rfl
theorem filter_all {s : Rows} {p : List D → Bool} (h : ∀ (k : Nat) (hk : k < s.length), p s[k] = true) : s.filter p = s := by
  rw [List.filter_eq_self]
  intro a ha
  obtain ⟨k, hk, rfl⟩ := List.getElem_of_mem ha
  exact h k hk
theorem upd_set {x : Rows} {i : Nat} {l : List D} (hi : i < x.length) (h : x[i].length ≤ l.length) : updR x (i : Int) 0 l = x.set i l := by
  unfold updR
  rw [Int.toNat_natCast]
  refine List.ext_getElem? (fun k => ?_)
  rw [List.getElem?_modify, List.getElem?_set]
  by_cases e : i = k
  · subst e
    simp [hi, List.getElem?_eq_getElem hi, List.drop_eq_nil_of_le h]
  · simp [e]
def trCurRest : TT OpR :=
(.loop 1 18000 ⟨[(1, (.var 3000)), (0, (.ar .add .i64 (.var 3000) (.lit 1)))], [], [(2, (.var 0))]⟩
 (.ite (.cmp .lss (.var 18000) (.len (.var 18002)))
 (.ob (.tru (.cmp .leq (.lit 0) (.var 18000)))
 (.ob (.tru (.cmp .lss (.var 18000) (.len (.var 18002))))
 (.loop 2 26000 ⟨[(0, (.lit 0))], [], []⟩
 (.ite (.cmp .lss (.var 26000) (.len (.var 0)))
 (.ob (.tru (.cmp .leq (.lit 0) (.var 26000)))
 (.ob (.tru (.cmp .lss (.var 26000) (.len (.var 0))))
 (.ite (.cmp .neq (.fn 134 (.i (.rd (.var 0) (.var 26000) 6) (.i (.rd (.var 18002) (.var 18000) 6) .nil))) (.lit 0))
 (.ite (.cmp .gtr (.fn 134 (.i (.rd (.var 0) (.var 26000) 6) (.i (.rd (.var 18002) (.var 18000) 6) .nil))) (.lit 0))
 (.ite (.fn 119 (.i (.rd (.var 0) (.var 26000) 0) (.i (.lit 1) (.i (.rd (.var 0) (.var 26000) 1) (.i (.rd (.var 0) (.var 26000) 2) (.i (.rd (.var 0) (.var 26000) 3) (.x .nil (.i (.rd (.var 0) (.var 26000) 4) (.i (.lit 0) (.x .nil (.i (.rd (.var 18002) (.var 18000) 0) (.i (.lit 1) (.i (.rd (.var 18002) (.var 18000) 1) (.i (.rd (.var 18002) (.var 18000) 2) (.i (.rd (.var 18002) (.var 18000) 3) (.x .nil (.i (.rd (.var 18002) (.var 18000) 4) (.i (.lit 0) (.x .nil .nil)))))))))))))))))))
 (.next 1 ⟨[(1, (.var 18001)), (0, (.ar .add .i64 (.var 18000) (.lit 1)))], [], [(2, (.var 18002))]⟩)
 (.next 2 ⟨[(0, (.ar .add .i64 (.var 26000) (.lit 1)))], [], []⟩))
 (.next 2 ⟨[(0, (.ar .add .i64 (.var 26000) (.lit 1)))], [], []⟩))
 (.ite (.cmp .neq (.fn 134 (.i (.rd (.var 0) (.var 26000) 0) (.i (.rd (.var 18002) (.var 18000) 0) .nil))) (.lit 0))
 (.ite (.cmp .gtr (.fn 134 (.i (.rd (.var 0) (.var 26000) 0) (.i (.rd (.var 18002) (.var 18000) 0) .nil))) (.lit 0))
 (.ite (.fn 119 (.i (.rd (.var 0) (.var 26000) 0) (.i (.lit 1) (.i (.rd (.var 0) (.var 26000) 1) (.i (.rd (.var 0) (.var 26000) 2) (.i (.rd (.var 0) (.var 26000) 3) (.x .nil (.i (.rd (.var 0) (.var 26000) 4) (.i (.lit 0) (.x .nil (.i (.rd (.var 18002) (.var 18000) 0) (.i (.lit 1) (.i (.rd (.var 18002) (.var 18000) 1) (.i (.rd (.var 18002) (.var 18000) 2) (.i (.rd (.var 18002) (.var 18000) 3) (.x .nil (.i (.rd (.var 18002) (.var 18000) 4) (.i (.lit 0) (.x .nil .nil)))))))))))))))))))
 (.next 1 ⟨[(1, (.var 18001)), (0, (.ar .add .i64 (.var 18000) (.lit 1)))], [], [(2, (.var 18002))]⟩)
 (.next 2 ⟨[(0, (.ar .add .i64 (.var 26000) (.lit 1)))], [], []⟩))
 (.next 2 ⟨[(0, (.ar .add .i64 (.var 26000) (.lit 1)))], [], []⟩))
 (.next 2 ⟨[(0, (.ar .add .i64 (.var 26000) (.lit 1)))], [], []⟩)))))
 (.ob (.tru (.cmp .leq (.lit 0) (.var 18001)))
 (.ob (.tru (.cmp .lss (.var 18001) (.len (.var 18002))))
 (.next 1 ⟨[(1, (.ar .add .i64 (.var 18001) (.lit 1))), (0, (.ar .add .i64 (.var 18000) (.lit 1)))], [], [(2, (.upd (.var 18002) (.var 18001) 0 (.i (.rd (.var 18002) (.var 18000) 0) (.i (.rd (.var 18002) (.var 18000) 1) (.i (.rd (.var 18002) (.var 18000) 2) (.i (.rd (.var 18002) (.var 18000) 3) (.i (.rd (.var 18002) (.var 18000) 4) (.i (.rd (.var 18002) (.var 18000) 5) (.i (.rd (.var 18002) (.var 18000) 6) .nil)))))))))]⟩)))))))
 (.ob (.tru (.cmp .leq (.lit 0) (.var 18001)))
 (.ob (.tru (.cmp .leq (.var 18001) (.len (.var 18002))))
 (.ob (.tru (.lit true))
 (.ob (.tru (.lit true))
 (.ob (.tru (.cmp .leq (.lit 0) (.var 18001)))
 (.ob (.tru (.cmp .leq (.var 18001) (.len (.app (.app (.sub (.var 18002) (.lit 0) (.var 18001)) (.rep (.len (.sub (.var 18002) (.var 18001) (.len (.var 18002)))) (.i (.lit 0) (.i (.lit 0) (.i (.lit 0) (.i (.lit 0) (.i (.lit 0) (.i (.lit 0) (.i (.lit 0) .nil))))))))) (.sub (.var 18002) (.plus (.var 18001) (.len (.rep (.len (.sub (.var 18002) (.var 18001) (.len (.var 18002)))) (.i (.lit 0) (.i (.lit 0) (.i (.lit 0) (.i (.lit 0) (.i (.lit 0) (.i (.lit 0) (.i (.lit 0) .nil)))))))))) (.len (.var 18002)))))))
 (.ret ((.v (.one (.z (.ovw 1 (.lit 0) 7 (.lit 0) (.var 18001) false)))), [(1, (.own 53 [(.int .i64), (.int .i64), (.int .i64), (.int .i64), (.int .i64), (.int .i64), (.int .i64)] (.app (.app (.sub (.var 18002) (.lit 0) (.var 18001)) (.rep (.len (.sub (.var 18002) (.var 18001) (.len (.var 18002)))) (.i (.lit 0) (.i (.lit 0) (.i (.lit 0) (.i (.lit 0) (.i (.lit 0) (.i (.lit 0) (.i (.lit 0) .nil))))))))) (.sub (.var 18002) (.plus (.var 18001) (.len (.rep (.len (.sub (.var 18002) (.var 18001) (.len (.var 18002)))) (.i (.lit 0) (.i (.lit 0) (.i (.lit 0) (.i (.lit 0) (.i (.lit 0) (.i (.lit 0) (.i (.lit 0) .nil)))))))))) (.len (.var 18002)))) (.lit 0))), (1, (.own 53 [(.int .i64), (.int .i64), (.int .i64), (.int .i64), (.int .i64), (.int .i64), (.int .i64)] (.var 18002) (.lit 0))), (1, (.own 53 [(.int .i64), (.int .i64), (.int .i64), (.int .i64), (.int .i64), (.int .i64), (.int .i64)] (.var 0) (.lit 0))), (1, (.own 53 [(.int .i64), (.int .i64), (.int .i64), (.int .i64), (.int .i64), (.int .i64), (.int .i64)] (.var 0) (.lit 0))), (1, (.own 53 [(.int .i64), (.int .i64), (.int .i64), (.int .i64), (.int .i64), (.int .i64), (.int .i64)] (.var 0) (.lit 0)))], 33))))))))))
theorem mea9 {j n : Nat} (h : j < n) : n - ((j : Int) + 1).toNat < n - (j : Int).toNat := by omega
theorem lrowsP_ovw {ws : Mem} {e e' : TypeId} {ks ks' : List CK} {id k : Nat} {ver v lo hi : E} {x : X} (h : ws.get id = some (.own e' ks' x v)) (hc : (Nat.beq e e' && CK.sameL ks ks' && E.same ver v && Nat.beq k ks.length && E.same lo (.lit 0) && !false) = true) : lrowsP ws e ks (.ovw id ver k lo hi false) = some (.sub x (.lit 0) hi) := by
  simp only [lrowsP, h]
  rw [if_pos hc]
set_option maxHeartbeats 1000000 in
theorem cur_rest {w0 : World} {ds : List D} {s : Rows} (e0 : rAt ds 0 = s) (hl : s.length ≤ 1000000) (ws : ∀ (k : Nat) (hk : k < s.length), row7 s[k]) {v u : LV} {i : Nat} (i0 : v.i 0 = i) (hi : i < s.length) (i2 : ∀ (k : Nat) (hk : k < s.length), k < i → replB s s[k] = false) (hrep : replB s s[i] = true)
    {J : Nat → LV → Prop} : trCurRest.sat (((envOf KVa w0 ds).put 3000 v).put 10000 u) (fun ρ q => ∃ a x, lrowsP q.2.1 nlCur.e nlCur.ks a = some x ∧ x.ev ρ = nlCur.rows ds ∧ ∀ (σ : As) z, ρ.w = w0 → q.1.den ρ σ z → ∃ b, a.den ρ σ b ∧ z = b) J := by
  have hR : nlCur.rows ds = s.filter fun x => !replB s x := by rw [← e0]; rfl
  have st : ∀ (j : Nat) (hj : j < s.length), (s.take (j + 1)).filter (fun x => !replB s x) = (s.take j).filter (fun x => !replB s x) ++ (if replB s s[j] = false then [s[j]] else []) := fun j hj => by
    rw [take_filter hj]
    congr 1
    cases replB s s[j] <;> rfl
  unfold trCurRest
  refine TT.sat_loop (fun p => ∃ m j : Nat, p.i 1 = m ∧ p.i 0 = j ∧ m < j ∧ j ≤ s.length ∧ (p.d 2).length = s.length ∧ (p.d 2).take m = (s.take j).filter (fun x => !replB s x) ∧ (p.d 2).drop j = s.drop j ∧ ∀ row ∈ p.d 2, row.length = 7) (fun p => s.length - (p.i 0).toNat)
    ⟨i, i + 1, ?_, ?_, by omega, by omega, ?_, ?_, ?_, ?_⟩ (fun p hp => ?_)
  · simp [val_i, aget, E.ev, put_i, i0]
  · show (E.ar .add .i64 (.var 3000) (.lit 1)).ev _ = _
    simp only [E.ev, arEv, put_i, Nat.reduceLT, if_true, if_false, Nat.lt_irrefl, Nat.sub_self, i0]
    rw [wrap_in _ (by omega) (by omega)]; rfl
  · simp [val_d, aget, X.ev, put_d, envOf_d, e0]
  · have : (s.take i).filter (fun x => !replB s x) = s.take i := filter_all (fun k hk => by
      have hk' : k < s.length := by rw [List.length_take] at hk; omega
      rw [List.getElem_take, i2 k hk' (by rw [List.length_take] at hk; omega)]; rfl)
    rw [st i hi, this, hrep]
    simp [val_d, aget, X.ev, put_d, envOf_d, e0]
  · simp [val_d, aget, X.ev, put_d, envOf_d, e0]
  · intro row hrow
    have hrow : row ∈ s := by simpa [val_d, aget, X.ev, put_d, envOf_d, e0] using hrow
    obtain ⟨k, hk, rfl⟩ := List.getElem_of_mem hrow
    exact row7_len (ws k hk)
  obtain ⟨m, j, m0, j0, hmj, hj, hxl, hpre, hsuf, h7⟩ := hp
  obtain ⟨x, hx⟩ : ∃ x, p.d 2 = x := ⟨_, rfl⟩
  rw [hx] at hxl hpre hsuf h7
  simp only [TT.sat_ret, TT.sat_ite, TT.sat_ob, TT.sat_next, TT.sat_stuck, put_i, put_b, put_d, put_fi, put_fb, put_fd, Ob.ok, B.ev, E.ev, X.ev, AL.ev, cmp_t, cmp_f, arEv, V.plain, V2.plain, S.plain, S0.plain, V.val, V2.val, S.val, S0.val, bV, iV, List.all_cons, List.all_nil, Bool.and_true, Bool.and_self, envOf_i, envOf_b, envOf_d, List.map_cons, List.map_nil, true_and, Bool.not_eq_true', Bool.not_eq_false', Bool.not_not, Bool.and_eq_true, and_f, cell_lg, cell_lb, cell_lr, cmpP, val_i, val_b, val_d, aget, Nat.reduceBEq, beq_self_eq_true, Bool.false_eq_true, if_true, if_false, Nat.reduceLT, Nat.reduceSub, Nat.sub_self, Nat.lt_irrefl, m0, j0, hx, e0]
  refine ⟨fun hc => ?_, fun hc => ?_⟩
  · have hj' : j < s.length := by omega
    have hjx : j < x.length := by omega
    have hxj : x[j] = s[j] := by
      have h1 : (x.drop j)[0]? = (s.drop j)[0]? := by rw [hsuf]
      rw [List.getElem?_drop, List.getElem?_drop, Nat.add_zero, List.getElem?_eq_getElem hjx, List.getElem?_eq_getElem hj'] at h1
      exact Option.some.inj h1
    have hdrop : x.drop (j + 1) = s.drop (j + 1) := by
      have h1 := congrArg (List.drop 1) hsuf
      rwa [List.drop_drop, List.drop_drop] at h1
    refine ⟨by omega, by omega, ?_⟩
    refine TT.sat_loop (fun t => ∃ k : Nat, t.i 0 = k ∧ k ≤ s.length ∧ ∀ (n : Nat) (hn : n < s.length), n < k → byB s[n] s[j] = false) (fun t => s.length - (t.i 0).toNat)
      ⟨0, by simp [val_i, aget, E.ev], by omega, fun n hn h => by omega⟩ (fun t ht => ?_)
    obtain ⟨k, k0, k1, k2⟩ := ht
    simp only [TT.sat_ret, TT.sat_ite, TT.sat_ob, TT.sat_next, TT.sat_stuck, put_i, put_b, put_d, put_fi, put_fb, put_fd, Ob.ok, B.ev, E.ev, X.ev, AL.ev, cmp_t, cmp_f, arEv, V.plain, V2.plain, S.plain, S0.plain, V.val, V2.val, S.val, S0.val, bV, iV, List.all_cons, List.all_nil, Bool.and_true, Bool.and_self, envOf_i, envOf_b, envOf_d, List.map_cons, List.map_nil, true_and, Bool.not_eq_true', Bool.not_eq_false', Bool.not_not, Bool.and_eq_true, and_f, cell_lg, cell_lb, cell_lr, cmpP, val_i, val_b, val_d, aget, Nat.reduceBEq, beq_self_eq_true, Bool.false_eq_true, if_true, if_false, Nat.reduceLT, Nat.reduceSub, Nat.sub_self, Nat.lt_irrefl, m0, j0, k0, hx, e0, KVai134, KVab119, cmp_two]
    refine ⟨fun hk => ?_, fun hk => ?_⟩
    · have hk' : k < s.length := by omega
      simp only [lg_cI hk', lg_cI hjx, hxj]
      have E1 := @by_of s[k] s[j]
      have hw1 : IntKind.i64.wrap ((k : Int) + 1) = (k : Int) + 1 := wrap_in _ (by omega) (by omega)
      have hw2 : IntKind.i64.wrap ((j : Int) + 1) = (j : Int) + 1 := wrap_in _ (by omega) (by omega)
      simp only [hw1, hw2]
      have NK : byB s[k] s[j] = false → (∃ q : Nat, (k : Int) + 1 = q ∧ q ≤ s.length ∧ ∀ (n : Nat) (hn : n < s.length), n < q → byB s[n] s[j] = false) ∧ s.length - ((k : Int) + 1).toNat < s.length - (k : Int).toNat := fun h =>
        ⟨⟨k + 1, rfl, by omega, fun n hn hnk => by
          by_cases e : n = k
          · subst e; exact h
          · exact k2 n hn (by omega)⟩, by omega⟩
      have NJ : byB s[k] s[j] = true → (∃ m' j' : Nat, (m : Int) = m' ∧ (j : Int) + 1 = j' ∧ m' < j' ∧ j' ≤ s.length ∧ x.length = s.length ∧ x.take m' = (s.take j').filter (fun x => !replB s x) ∧ x.drop j' = s.drop j' ∧ ∀ row ∈ x, row.length = 7) ∧ s.length - ((j : Int) + 1).toNat < s.length - (j : Int).toNat := fun h =>
        ⟨⟨m, j + 1, rfl, rfl, by omega, by omega, hxl, by rw [st j hj', repl_yes hk' h]; simpa using hpre, hdrop, h7⟩, by omega⟩
      refine ⟨by omega, by omega, fun c1 => ⟨fun c2 => ⟨fun h => NJ ((E1 h).1 (.inl (cmpI_pos.mp c2))), fun h => NK ((E1 h).1 (.inl (cmpI_pos.mp c2)))⟩, fun c2 => NK ((E1 rfl).2 ?_)⟩, fun c1 => ⟨fun c3 => ⟨fun c4 => ⟨fun h => NJ ((E1 h).1 (.inr ⟨?_, cmpI_pos.mp c4⟩)), fun h => NK ((E1 h).1 (.inr ⟨?_, cmpI_pos.mp c4⟩))⟩, fun c4 => NK ((E1 rfl).2 ?_)⟩, fun c3 => NK ((E1 rfl).2 ?_)⟩⟩
      · have g1 := cmpI_ne (a := cI s[k] 6) (b := cI s[j] 6)
        have g2 := cmpI_pos (a := cI s[k] 6) (b := cI s[j] 6)
        omega
      · have g1 := cmpI_ne (a := cI s[k] 6) (b := cI s[j] 6)
        omega
      · have g1 := cmpI_ne (a := cI s[k] 6) (b := cI s[j] 6)
        omega
      · have g1 := cmpI_ne (a := cI s[k] 6) (b := cI s[j] 6)
        have g2 := cmpI_pos (a := cI s[k] 0) (b := cI s[j] 0)
        omega
      · have g1 := cmpI_ne (a := cI s[k] 6) (b := cI s[j] 6)
        have g2 := cmpI_ne (a := cI s[k] 0) (b := cI s[j] 0)
        omega
    · have hk' : k = s.length := by omega
      have hno : replB s s[j] = false := repl_no (fun n hn => k2 n hn (by omega))
      have hw1 : IntKind.i64.wrap ((m : Int) + 1) = (m : Int) + 1 := wrap_in _ (by omega) (by omega)
      have hw2 : IntKind.i64.wrap ((j : Int) + 1) = (j : Int) + 1 := wrap_in _ (by omega) (by omega)
      simp only [lg_cI hjx, hxj, hw1, hw2]
      have hmx : m < x.length := by omega
      have hset : updR x (m : Int) 0 [.i (cI s[j] 0), .i (cI s[j] 1), .i (cI s[j] 2), .i (cI s[j] 3), .i (cI s[j] 4), .i (cI s[j] 5), .i (cI s[j] 6)] = x.set m s[j] := by
        rw [upd_set hmx (by rw [h7 _ (List.getElem_mem hmx)]; exact Nat.le_refl _)]
        congr 1
        exact (ws j hj').symm
      rw [hset]
      refine ⟨by omega, by omega, ⟨m + 1, j + 1, rfl, rfl, by omega, by omega, by simpa using hxl, ?_, ?_, fun row hrow => ?_⟩, mea9 hj'⟩
      · rw [st j hj', hno, if_pos rfl, ← hpre]
        refine List.ext_getElem? (fun n => ?_)
        rcases Nat.lt_trichotomy n m with e | e | e
        · rw [List.getElem?_take_of_lt (by omega), List.getElem?_set_ne (by omega), List.getElem?_append_left (by rw [List.length_take]; omega), List.getElem?_take_of_lt e]
        · subst e
          rw [List.getElem?_take_of_lt (by omega), List.getElem?_set_self hmx, List.getElem?_append_right (by rw [List.length_take]; omega), List.length_take, Nat.min_eq_left (by omega), Nat.sub_self]; rfl
        · rw [List.getElem?_eq_none (by rw [List.length_take, List.length_set]; omega), List.getElem?_eq_none (by simp only [List.length_append, List.length_take, List.length_cons, List.length_nil]; omega)]
      · rw [List.drop_set_of_lt (by omega)]
        exact hdrop
      · rcases List.mem_or_eq_of_mem_set hrow with h | h
        · exact h7 _ h
        · rw [h]; exact row7_len (ws j hj')
  · have hjl : j = s.length := by omega
    subst hjl
    have hlen : (subR x 0 (m : Int)).length = m := by simp only [subR, Int.toNat_zero, List.drop_zero, Nat.sub_zero, Int.toNat_natCast, List.length_take]; omega
    refine ⟨by omega, by omega, by omega, Int.ofNat_le.mpr ?_, ?_⟩
    · rw [List.length_append, List.length_append, hlen]; omega
    · refine ⟨.ovw 1 (.lit 0) 7 (.lit 0) (.var 18001) false, _, lrowsP_ovw rfl (by kernel_rfl), ?_, fun σ z hw hz => ⟨z, hz, rfl⟩⟩
      simp only [TT.sat_ret, TT.sat_ite, TT.sat_ob, TT.sat_next, TT.sat_stuck, put_i, put_b, put_d, put_fi, put_fb, put_fd, Ob.ok, B.ev, E.ev, X.ev, AL.ev, cmp_t, cmp_f, arEv, V.plain, V2.plain, S.plain, S0.plain, V.val, V2.val, S.val, S0.val, bV, iV, List.all_cons, List.all_nil, Bool.and_true, Bool.and_self, envOf_i, envOf_b, envOf_d, List.map_cons, List.map_nil, true_and, Bool.not_eq_true', Bool.not_eq_false', Bool.not_not, Bool.and_eq_true, and_f, cell_lg, cell_lb, cell_lr, cmpP, val_i, val_b, val_d, aget, Nat.reduceBEq, beq_self_eq_true, Bool.false_eq_true, if_true, if_false, Nat.reduceLT, Nat.reduceSub, Nat.sub_self, Nat.lt_irrefl, m0, j0, hx, e0]
      rw [List.take_length] at hpre
      rw [hR, ← hpre]
      simp only [subR, Int.toNat_zero, List.drop_zero, Nat.sub_zero, Int.toNat_natCast]
      rw [List.append_assoc, List.take_append_of_le_length (by rw [List.length_take]; omega), List.take_take, Nat.min_self]
set_option maxHeartbeats 1000000 in
theorem gSCur : GivesN Tryz.prog 46 [suv] [nlCur] (fun ds => (rAt ds 0).length ≤ 1000000) (fun _ _ vs u => ∃ v, vs = [v] ∧ u = v) := by
  refine fn_givesN1 KVa (by kernel_rfl) (fun ρ h => ctV1_ok (Sees.of h 150)) (by kernel_rfl) trSCur_is trSCur_low (by decide) (fun w0 vals ds hr hok => ?_)
  have hw := suv_rows hr
  simp only [trSCur]
  have hR : nlCur.rows ds = curR (rAt ds 0) := rfl
  clear hr
  generalize e0 : rAt ds 0 = s at *
  refine ⟨by simp only [TT.sat_ret, TT.sat_ite, TT.sat_ob, TT.sat_next, TT.sat_stuck, put_i, put_b, put_d, put_fi, put_fb, put_fd, Ob.ok, B.ev, E.ev, X.ev, AL.ev, cmp_t, cmp_f, arEv, V.plain, V2.plain, S.plain, S0.plain, V.val, V2.val, S.val, S0.val, bV, iV, List.all_cons, List.all_nil, Bool.and_true, Bool.and_self, envOf_i, envOf_b, envOf_d, List.map_cons, List.map_nil, true_and, Bool.not_eq_true', Bool.not_eq_false', Bool.not_not, Bool.and_eq_true, and_f, cell_lg, cell_lb, cell_lr, cmpP, val_i, val_b, val_d, aget, Nat.reduceBEq, beq_self_eq_true, Bool.false_eq_true, if_true, if_false, Nat.reduceLT, Nat.reduceSub, Nat.sub_self, Nat.lt_irrefl, e0]; omega, ?_⟩
  have ws : ∀ (k : Nat) (hk : k < s.length), row7 s[k] := fun k hk => hw _ (List.getElem_mem hk)
  refine TT.sat_loop (fun v => ∃ i : Nat, v.i 0 = i ∧ i ≤ s.length ∧ ∀ (k : Nat) (hk : k < s.length), k < i → replB s s[k] = false) (fun v => s.length - (v.i 0).toNat)
    ⟨0, by simp [val_i, aget, E.ev], by omega, fun k hk h => by omega⟩ (fun v hv => ?_)
  obtain ⟨i, i0, i1, i2⟩ := hv
  simp only [TT.sat_ret, TT.sat_ite, TT.sat_ob, TT.sat_next, TT.sat_stuck, put_i, put_b, put_d, put_fi, put_fb, put_fd, Ob.ok, B.ev, E.ev, X.ev, AL.ev, cmp_t, cmp_f, arEv, V.plain, V2.plain, S.plain, S0.plain, V.val, V2.val, S.val, S0.val, bV, iV, List.all_cons, List.all_nil, Bool.and_true, Bool.and_self, envOf_i, envOf_b, envOf_d, List.map_cons, List.map_nil, true_and, Bool.not_eq_true', Bool.not_eq_false', Bool.not_not, Bool.and_eq_true, and_f, cell_lg, cell_lb, cell_lr, cmpP, val_i, val_b, val_d, aget, Nat.reduceBEq, beq_self_eq_true, Bool.false_eq_true, if_true, if_false, Nat.reduceLT, Nat.reduceSub, Nat.sub_self, Nat.lt_irrefl, i0, e0]
  refine ⟨fun hc => ⟨by omega, by omega, ?_⟩, fun hc => ?_⟩
  · have hi : i < s.length := by omega
    refine TT.sat_loop (fun t => ∃ k : Nat, t.i 0 = k ∧ k ≤ s.length ∧ ∀ (n : Nat) (hn : n < s.length), n < k → byB s[n] s[i] = false) (fun t => s.length - (t.i 0).toNat)
      ⟨0, by simp [val_i, aget, E.ev], by omega, fun n hn h => by omega⟩ (fun t ht => ?_)
    obtain ⟨k, k0, k1, k2⟩ := ht
    simp only [TT.sat_ret, TT.sat_ite, TT.sat_ob, TT.sat_next, TT.sat_stuck, put_i, put_b, put_d, put_fi, put_fb, put_fd, Ob.ok, B.ev, E.ev, X.ev, AL.ev, cmp_t, cmp_f, arEv, V.plain, V2.plain, S.plain, S0.plain, V.val, V2.val, S.val, S0.val, bV, iV, List.all_cons, List.all_nil, Bool.and_true, Bool.and_self, envOf_i, envOf_b, envOf_d, List.map_cons, List.map_nil, true_and, Bool.not_eq_true', Bool.not_eq_false', Bool.not_not, Bool.and_eq_true, and_f, cell_lg, cell_lb, cell_lr, cmpP, val_i, val_b, val_d, aget, Nat.reduceBEq, beq_self_eq_true, Bool.false_eq_true, if_true, if_false, Nat.reduceLT, Nat.reduceSub, Nat.sub_self, Nat.lt_irrefl, i0, k0, e0, KVai134, KVab119, cmp_two]
    refine ⟨fun hk => ?_, fun hk => ?_⟩
    · have hk' : k < s.length := by omega
      simp only [lg_cI hk', lg_cI hi]
      have E1 := @by_of s[k] s[i]
      have hw1 : IntKind.i64.wrap ((k : Int) + 1) = (k : Int) + 1 := wrap_in _ (by omega) (by omega)
      simp only [hw1]
      have NK : byB s[k] s[i] = false → (∃ q : Nat, (k : Int) + 1 = q ∧ q ≤ s.length ∧ ∀ (n : Nat) (hn : n < s.length), n < q → byB s[n] s[i] = false) ∧ s.length - ((k : Int) + 1).toNat < s.length - (k : Int).toNat := fun h =>
        ⟨⟨k + 1, rfl, by omega, fun n hn hnk => by
          by_cases e : n = k
          · subst e; exact h
          · exact k2 n hn (by omega)⟩, by omega⟩
      refine ⟨by omega, by omega, fun c1 => ⟨fun c2 => ⟨fun h => ⟨fun e => by omega, fun _ => cur_rest e0 hok ws i0 hi i2 (repl_yes hk' ((E1 h).1 (.inl (cmpI_pos.mp c2))))⟩, fun h => NK ((E1 h).1 (.inl (cmpI_pos.mp c2)))⟩, fun c2 => NK ((E1 rfl).2 ?_)⟩, fun c1 => ⟨fun c3 => ⟨fun c4 => ⟨fun h => ⟨fun e => by omega, fun _ => cur_rest e0 hok ws i0 hi i2 (repl_yes hk' ((E1 h).1 (.inr ⟨?_, cmpI_pos.mp c4⟩)))⟩, fun h => NK ((E1 h).1 (.inr ⟨?_, cmpI_pos.mp c4⟩))⟩, fun c4 => NK ((E1 rfl).2 ?_)⟩, fun c3 => NK ((E1 rfl).2 ?_)⟩⟩
      · have g1 := cmpI_ne (a := cI s[k] 6) (b := cI s[i] 6)
        have g2 := cmpI_pos (a := cI s[k] 6) (b := cI s[i] 6)
        omega
      · have g1 := cmpI_ne (a := cI s[k] 6) (b := cI s[i] 6)
        omega
      · have g1 := cmpI_ne (a := cI s[k] 6) (b := cI s[i] 6)
        omega
      · have g1 := cmpI_ne (a := cI s[k] 6) (b := cI s[i] 6)
        have g2 := cmpI_pos (a := cI s[k] 0) (b := cI s[i] 0)
        omega
      · have g1 := cmpI_ne (a := cI s[k] 6) (b := cI s[i] 6)
        have g2 := cmpI_ne (a := cI s[k] 0) (b := cI s[i] 0)
        omega
    · have hk' : k = s.length := by omega
      have hno : replB s s[i] = false := repl_no (fun n hn => k2 n hn (by omega))
      rw [wrap_in ((i : Int) + 1) (by omega) (by omega)]
      exact ⟨⟨i + 1, rfl, by omega, fun n hn hni => by
        by_cases e : n = i
        · subst e; exact hno
        · exact i2 n hn (by omega)⟩, by omega⟩
  · have hi : i = s.length := by omega
    have hall : curR s = s := filter_all (fun k hk => by rw [i2 k hk (by omega)]; rfl)
    refine ⟨.own 1 (.lit 0), .var 0, by kernel_rfl, ?_, fun σ u hw hu => ⟨u, hu, rfl⟩⟩
    rw [hR, hall]
    simp [X.ev, put_d, envOf_d, e0]
end Go.Proofs.YtldbejmgalhdaaaGreat
