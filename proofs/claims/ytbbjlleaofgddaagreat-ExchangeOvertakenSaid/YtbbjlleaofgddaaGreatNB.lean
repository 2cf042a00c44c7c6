/- NB, merged: TNc, Nc, TNd, Nd. -/
import Derived.Test.YtbbjlleaofgddaaGreatNA
set_option linter.unusedSimpArgs false
set_option linter.unusedVariables false
/- Chapter 40: trees of parts of notices, of heights. -/
namespace Go.Proofs.YtbbjlleaofgddaaGreat
open Go.RowKit
def partK : List CK := [.int .i64, .sl [.int .i64], .sl opK]
def parS : Sh := .agg partK
def notK : List CK := [.int .i64, .int .i64, .int .i64, .int .i64, .int .i64, .int .i64, .sl partK]
def notS : Sh := .agg notK
def nots : Sh := .one (.sl notK)
-- term trTerm: call Tryz.prog ctN2 (Lt.of []) 100 77 (symArgs 0 [notS]) [] 0
def trTerm : TT OpR :=
(.ite (.cmp .eql (.var 2) (.lit 1))
 (.ite (.cmp .eql (.var 2) (.lit 1))
 (.ite (.cmp .eql (.var 4) (.lit 0))
 (.ret ((.v (.one (.z (.bool (.cmp .eql (.var 5) (.lit 0)))))), [], 1))
 (.ret ((.v (.one (.z (.bool (.lit false))))), [], 1)))
 (.ite (.cmp .eql (.var 2) (.lit 2))
 (.ite (.cmp .gtr (.var 4) (.var 3))
 (.ite (.cmp .geq (.var 4) (.lit 0))
 (.ite (.cmp .leq (.var 4) (.lit 10000000))
 (.ret ((.v (.one (.z (.bool (.cmp .eql (.var 5) (.lit 0)))))), [], 1))
 (.ret ((.v (.one (.z (.bool (.lit false))))), [], 1)))
 (.ret ((.v (.one (.z (.bool (.lit false))))), [], 1)))
 (.ret ((.v (.one (.z (.bool (.lit false))))), [], 1)))
 (.ite (.cmp .eql (.var 2) (.lit 4))
 (.ite (.cmp .eql (.var 4) (.lit 0))
 (.ite (.cmp .geq (.var 5) (.lit 1))
 (.ite (.cmp .lss (.var 5) (.var 1))
 (.ret ((.v (.one (.z (.bool (.cmp .eql (.len (.var 6)) (.lit 0)))))), [], 1))
 (.ret ((.v (.one (.z (.bool (.lit false))))), [], 1)))
 (.ret ((.v (.one (.z (.bool (.lit false))))), [], 1)))
 (.ret ((.v (.one (.z (.bool (.lit false))))), [], 1)))
 (.ret ((.v (.one (.z (.bool (.lit false))))), [], 1)))))
 (.ite (.cmp .eql (.var 2) (.lit 3))
 (.ite (.cmp .eql (.var 4) (.lit 0))
 (.ret ((.v (.one (.z (.bool (.cmp .eql (.var 5) (.lit 0)))))), [], 1))
 (.ret ((.v (.one (.z (.bool (.lit false))))), [], 1)))
 (.ite (.cmp .eql (.var 2) (.lit 2))
 (.ite (.cmp .gtr (.var 4) (.var 3))
 (.ite (.cmp .geq (.var 4) (.lit 0))
 (.ite (.cmp .leq (.var 4) (.lit 10000000))
 (.ret ((.v (.one (.z (.bool (.cmp .eql (.var 5) (.lit 0)))))), [], 1))
 (.ret ((.v (.one (.z (.bool (.lit false))))), [], 1)))
 (.ret ((.v (.one (.z (.bool (.lit false))))), [], 1)))
 (.ret ((.v (.one (.z (.bool (.lit false))))), [], 1)))
 (.ite (.cmp .eql (.var 2) (.lit 4))
 (.ite (.cmp .eql (.var 4) (.lit 0))
 (.ite (.cmp .geq (.var 5) (.lit 1))
 (.ite (.cmp .lss (.var 5) (.var 1))
 (.ret ((.v (.one (.z (.bool (.cmp .eql (.len (.var 6)) (.lit 0)))))), [], 1))
 (.ret ((.v (.one (.z (.bool (.lit false))))), [], 1)))
 (.ret ((.v (.one (.z (.bool (.lit false))))), [], 1)))
 (.ret ((.v (.one (.z (.bool (.lit false))))), [], 1)))
 (.ret ((.v (.one (.z (.bool (.lit false))))), [], 1))))))
-- end trTerm
set_option maxRecDepth 100000 in
theorem trTerm_is : T.norm 0 (call Tryz.prog ctN2 (Lt.of []) 100 77 (symArgs 0 [notS]) [] 0) TT.ret = trTerm := by kernel_rfl
theorem trTerm_low : trTerm.low 1000 = true := by kernel_rfl
-- term trPart: call Tryz.prog ctN2 (Lt.of []) 100 78 (symArgs 0 [parS, it]) [] 0
def trPart : TT OpR :=
(.ite (.cmp .lss (.var 0) (.lit 1))
 (.ret ((.v (.one (.z (.bool (.lit false))))), [], 1))
 (.ite (.cmp .gtr (.var 0) (.lit 1000))
 (.ret ((.v (.one (.z (.bool (.lit false))))), [], 1))
 (.ite (.cmp .gtr (.len (.var 1)) (.lit 100))
 (.ret ((.v (.one (.z (.bool (.lit false))))), [], 1))
 (.ite (.cmp .gtr (.len (.var 2)) (.lit 100))
 (.ret ((.v (.one (.z (.bool (.lit false))))), [], 1))
 (.loop 0 2000 ⟨[(0, (.lit 0)), (1, (.lit 0))], [], []⟩
 (.ite (.cmp .lss (.var 2001) (.len (.var 1)))
 (.ob (.tru (.cmp .leq (.lit 0) (.var 2001)))
 (.ob (.tru (.cmp .lss (.var 2001) (.len (.var 1))))
 (.ite (.cmp .leq (.rd (.var 1) (.var 2001) 0) (.var 2000))
 (.ret ((.v (.one (.z (.bool (.lit false))))), [], 2))
 (.ite (.cmp .geq (.rd (.var 1) (.var 2001) 0) (.var 3))
 (.ret ((.v (.one (.z (.bool (.lit false))))), [], 2))
 (.next 0 ⟨[(0, (.rd (.var 1) (.var 2001) 0)), (1, (.ar .add .i64 (.var 2001) (.lit 1)))], [], []⟩)))))
 (.loop 1 3000 ⟨[(0, (.lit 0))], [], []⟩
 (.ite (.cmp .lss (.var 3000) (.len (.var 2)))
 (.ob (.tru (.cmp .leq (.lit 0) (.var 3000)))
 (.ob (.tru (.cmp .lss (.var 3000) (.len (.var 2))))
 (.ite (.not (.fn 152 (.i (.rd (.var 2) (.var 3000) 0) (.i (.rd (.var 2) (.var 3000) 1) (.i (.rd (.var 2) (.var 3000) 2) (.i (.rd (.var 2) (.var 3000) 3) (.i (.rd (.var 2) (.var 3000) 4) (.i (.rd (.var 2) (.var 3000) 5) (.i (.rd (.var 2) (.var 3000) 6) (.x (.rd (.var 2) (.var 3000) 7) (.i (.rd (.var 2) (.var 3000) 8) (.i (.rd (.var 2) (.var 3000) 9) (.x (.rd (.var 2) (.var 3000) 10) (.i (.rd (.var 2) (.var 3000) 11) (.i (.rd (.var 2) (.var 3000) 12) (.i (.rd (.var 2) (.var 3000) 13) (.i (.rd (.var 2) (.var 3000) 14) (.i (.rd (.var 2) (.var 3000) 15) .nil))))))))))))))))))
 (.ret ((.v (.one (.z (.bool (.not (.cmp .geq (.var 3000) (.lit 0))))))), [], 4))
 (.next 1 ⟨[(0, (.ar .add .i64 (.var 3000) (.lit 1)))], [], []⟩))))
 (.ret ((.v (.one (.z (.bool (.lit true))))), [], 4))))))))))
-- end trPart
set_option maxRecDepth 100000 in
theorem trPart_is : T.norm 0 (call Tryz.prog ctN2 (Lt.of []) 100 78 (symArgs 0 [parS, it]) [] 0) TT.ret = trPart := by kernel_rfl
theorem trPart_low : trPart.low 1000 = true := by kernel_rfl
end Go.Proofs.YtbbjlleaofgddaaGreat
/- Chapter 40: parts of notices, heights. -/
namespace Go.Proofs.YtbbjlleaofgddaaGreat
open Go.RowKit
def termL (ds : List D) : Bool := trTerm.evB (envOf N2 W00 ds)
theorem gTerm : Gives Tryz.prog 77 [notS] (fun ds => .bool (termL ds)) :=
  fn_tests N2 (by kernel_rfl) (fun ρ h => ctN2_ok (Sees.of h 160)) (by kernel_rfl) trTerm_is trTerm_low (by decide) (by kernel_rfl)
def afN (r : Rows) (n : Int) : Nat → Nat → Int → Bool
  | 0, _, _ => true
  | f + 1, i, last => decide (last < lg r i 0 ∧ lg r i 0 < n) && afN r n f (i + 1) (lg r i 0)
def opRow (r : Rows) (i : Nat) : Bool := opL [.i (lg r i 0), .i (lg r i 1), .i (lg r i 2), .i (lg r i 3), .i (lg r i 4), .i (lg r i 5), .i (lg r i 6), .l (lr r i 7), .i (lg r i 8), .i (lg r i 9), .l (lr r i 10), .i (lg r i 11), .i (lg r i 12), .i (lg r i 13), .i (lg r i 14), .i (lg r i 15)]
def opsN (r : Rows) : Nat → Nat → Bool
  | 0, _ => true
  | f + 1, i => opRow r i && opsN r f (i + 1)
def parB (c : Int) (a o : Rows) (n : Int) : Bool := decide (1 ≤ c ∧ c ≤ 1000 ∧ a.length ≤ 100 ∧ o.length ≤ 100) && (afN a n a.length 0 0 && opsN o o.length 0)
def parL (ds : List D) : Bool := parB (iAt ds 0) (rAt ds 1) (rAt ds 2) (iAt ds 3)
theorem N2b150 (W : World) (ds l : List D) : (envOf N2 W ds).fb 150 l = tideL l := by simp only [envOf, N2]
theorem N2i141 (W : World) (ds l : List D) : (envOf N2 W ds).fi 141 l = sjA l := by simp only [envOf, N2, N1]
theorem N2i142 (W : World) (ds l : List D) : (envOf N2 W ds).fi 142 l = sjB l := by simp only [envOf, N2, N1]
theorem N2b152 (W : World) (ds l : List D) : (envOf N2 W ds).fb 152 l = opL l := by simp only [envOf, N2]
theorem gPart : Gives Tryz.prog 78 [parS, it] (fun ds => .bool (parL ds)) := by
  refine GivesIf.all (fn_gives N2 (by kernel_rfl) (fun ρ h => ctN2_ok (Sees.of h 160)) (by kernel_rfl) trPart_is trPart_low (by decide) (fun W vals ds hr _ => ?_))
  simp only [trPart, TT.sat_ret, TT.sat_ite, B.ev, E.ev, X.ev, cmp_t, cmp_f, V.plain, V2.plain, S.plain, S0.plain, V.val, V2.val, S.val, S0.val, envOf_i, envOf_d, true_and, cmpP]
  have e : parL ds = (decide (1 ≤ iAt ds 0 ∧ iAt ds 0 ≤ 1000 ∧ (rAt ds 1).length ≤ 100 ∧ (rAt ds 2).length ≤ 100) && (afN (rAt ds 1) (iAt ds 3) (rAt ds 1).length 0 0 && opsN (rAt ds 2) (rAt ds 2).length 0)) := rfl
  have F : ¬ (1 ≤ iAt ds 0 ∧ iAt ds 0 ≤ 1000 ∧ (rAt ds 1).length ≤ 100 ∧ (rAt ds 2).length ≤ 100) → Value.bool false = Value.bool (parL ds) := fun h => by rw [e, decide_eq_false h]; rfl
  refine ⟨fun _ => F (by omega), fun _ => ⟨fun _ => F (by omega), fun _ => ⟨fun _ => F (by omega), fun _ => ⟨fun _ => F (by omega), fun _ => ?_⟩⟩⟩⟩
  rw [decide_eq_true (by omega), Bool.true_and] at e
  rw [e]
  clear F e hr
  generalize e1 : rAt ds 1 = a at *
  generalize e2 : rAt ds 2 = o at *
  generalize e3 : iAt ds 3 = n at *
  refine TT.sat_loop (fun v => ∃ i : Nat, v.i 1 = i ∧ i ≤ a.length ∧ afN a n (a.length - i) i (v.i 0) = afN a n a.length 0 0) (fun v => a.length - (v.i 1).toNat) ⟨0, by simp [val_i, aget, E.ev], by omega, rfl⟩ (fun v hv => ?_)
  obtain ⟨i, i0, i1, i2⟩ := hv
  simp only [TT.sat_ret, TT.sat_ite, TT.sat_ob, TT.sat_next, put_i, put_d, Ob.ok, B.ev, E.ev, X.ev, cmp_t, cmp_f, arEv, envOf_i, envOf_d, true_and, cell_lg, cmpP, val_i, aget, Nat.reduceBEq, beq_self_eq_true, Bool.false_eq_true, if_true, if_false, Nat.reduceLT, Nat.reduceSub, Nat.sub_self, Nat.lt_irrefl, i0, e1, e2, e3]
  refine ⟨fun hc => ?_, fun hc => ?_⟩
  · obtain ⟨f, hf⟩ : ∃ f, a.length - i = f + 1 := ⟨a.length - i - 1, by omega⟩
    have hf' : a.length - (i + 1) = f := by omega
    rw [hf, afN] at i2
    rw [wrap_in ((i : Int) + 1) (by omega) (by omega)]
    refine ⟨by omega, by omega, fun h => ?_, fun h => ⟨fun g => ?_, fun g => ⟨⟨i + 1, rfl, by omega, ?_⟩, by omega⟩⟩⟩
    · rw [← i2, decide_eq_false (by omega)]; rfl
    · rw [← i2, decide_eq_false (by omega)]; rfl
    · rw [hf', ← i2, decide_eq_true (by omega), Bool.true_and]
  · have h0 : a.length - i = 0 := by omega
    rw [h0, afN] at i2
    rw [← i2, Bool.true_and]
    refine TT.sat_loop (fun v => ∃ i : Nat, v.i 0 = i ∧ i ≤ o.length ∧ opsN o (o.length - i) i = opsN o o.length 0) (fun v => o.length - (v.i 0).toNat) ⟨0, by simp [val_i, aget, E.ev], by omega, rfl⟩ (fun u hu => ?_)
    obtain ⟨j, j0, j1, j2⟩ := hu
    simp only [TT.sat_ret, TT.sat_ite, TT.sat_ob, TT.sat_next, put_i, put_d, put_fb, Ob.ok, B.ev, E.ev, X.ev, AL.ev, cmp_t, cmp_f, arEv, envOf_i, envOf_d, true_and, Bool.not_eq_true', Bool.not_eq_false', cell_lg, cell_lr, cmpP, val_i, aget, Nat.reduceBEq, beq_self_eq_true, Bool.false_eq_true, if_true, if_false, Nat.reduceLT, Nat.reduceSub, Nat.sub_self, Nat.lt_irrefl, j0, e2, N2b152]
    refine ⟨fun hc => ?_, fun hc => ?_⟩
    · obtain ⟨f, hf⟩ : ∃ f, o.length - j = f + 1 := ⟨o.length - j - 1, by omega⟩
      have hf' : o.length - (j + 1) = f := by omega
      rw [hf, opsN] at j2
      rw [wrap_in ((j : Int) + 1) (by omega) (by omega)]
      refine ⟨by omega, by omega, fun h => ?_, fun h => ⟨⟨j + 1, rfl, by omega, ?_⟩, by omega⟩⟩
      · rw [← j2, show opRow o j = false from h]
        simp [cmpEv]
      · rw [hf', ← j2, show opRow o j = true from h, Bool.true_and]
    · have h0 : o.length - j = 0 := by omega
      rw [h0, opsN] at j2
      rw [← j2]
structure Hgt where
  (some : Bool) (lo hi : Int)
def Hgt.upd (fr un : Int) (st : Hgt) (a b lo hi : Int) : Hgt :=
  if b < fr then st else if un < a then st else if st.some then ⟨true, sjA [.i st.lo, .i st.hi, .i lo, .i hi], sjB [.i st.lo, .i st.hi, .i lo, .i hi]⟩ else ⟨true, lo, hi⟩
def Hgt.round (r : Rows) (s p fr un : Int) (k : Nat) (st : Hgt) : Hgt :=
  Hgt.upd fr un (if (0 : Int) < k then (if 1 < p then Hgt.upd fr un st (s + k * p - p + 1) (s + k * p - 1) (sjA [.i (lg r ((k : Int) - 1) 0), .i (lg r ((k : Int) - 1) 1), .i (lg r k 0), .i (lg r k 1)]) (sjB [.i (lg r ((k : Int) - 1) 0), .i (lg r ((k : Int) - 1) 1), .i (lg r k 0), .i (lg r k 1)]) else st) else st)
    (s + k * p) (s + k * p) (lg r k 0) (lg r k 1)
def hgtN (r : Rows) (s p fr un : Int) : Nat → Hgt
  | 0 => ⟨false, 0, 0⟩
  | k + 1 => Hgt.round r s p fr un k (hgtN r s p fr un k)
def heO (ds : List D) : Bool := tideL ds && (timeB (iAt ds 3) && (timeB (iAt ds 4) && decide (iAt ds 3 ≤ iAt ds 4)))
def heX (ds : List D) : Bool := heO ds && decide (iAt ds 0 ≤ iAt ds 3 ∧ iAt ds 4 ≤ lastT (iAt ds 0) (iAt ds 1) (rAt ds 2))
def heN (ds : List D) : Hgt := hgtN (rAt ds 2) (iAt ds 0) (iAt ds 1) (iAt ds 3) (iAt ds 4) (rAt ds 2).length
def heA (ds : List D) : Int := if heX ds then (heN ds).lo else 0
def heB (ds : List D) : Int := if heX ds then (heN ds).hi else 0
def heE (ds : List D) : Int := if heX ds then 0 else if heO ds then 4 else 1
theorem tide_3 (ds : List D) : tideL [.i (iAt ds 0), .i (iAt ds 1), .l (rAt ds 2)] = tideL ds := rfl
def N3 : Interp where
  fi n l := match n with | 162 => heA l | 163 => heB l | 164 => heE l | n => N2.fi n l
  fb n l := match n with | 160 => termL l | 161 => parL l | n => N2.fb n l
  fd _ _ := []
theorem N3_N2 {ρ : Env} (h : Sees ρ N3 170) : Sees ρ N2 160 := h.trans (by decide) fun n l hn => by
  refine ⟨?_, ?_⟩
  ·
    simp only [N3]
    split <;> first | omega | rfl
  ·
    simp only [N3]
    split <;> first | omega | rfl
def cTerm := ctD [notS] fun al => .ret (bV (bF 160 termL al))
theorem cTerm_ok {ρ : Env} (h : Sees ρ N3 170) : CtOne Tryz.prog ρ 77 cTerm :=
  ctD_ok gTerm (fun _ => rfl) (fun al => by simp only [iV, bV, V.s0, V.val, V2.val, S.val, S0.val, bF_ev (s := 160) (f := termL) (fun l => by rw [(h 160 l (by decide)).2]; simp only [N3])]; try rfl)
def cPart := ctD [parS, it] fun al => .ret (bV (bF 161 parL al))
theorem cPart_ok {ρ : Env} (h : Sees ρ N3 170) : CtOne Tryz.prog ρ 78 cPart :=
  ctD_ok gPart (fun _ => rfl) (fun al => by simp only [iV, bV, V.s0, V.val, V2.val, S.val, S0.val, bF_ev (s := 161) (f := parL) (fun l => by rw [(h 161 l (by decide)).2]; simp only [N3])]; try rfl)
def cHeight := ctD [tid, it, it] fun al => .ret (.tup [.agg [sIF 162 heA al, sIF 163 heB al], .one (sIF 164 heE al)])
def ctN3 : Ct := (77, cTerm) :: (78, cPart) :: ctN2
theorem ctN3_ok {ρ : Env} (h : Sees ρ N3 170) : CtOk Tryz.prog ρ ctN3 := .cons (cTerm_ok h) <| .cons (cPart_ok h) <| (ctN2_ok (N3_N2 h))
end Go.Proofs.YtbbjlleaofgddaaGreat
/- Chapter 40: trees of notices, of the depth under a keel. -/
namespace Go.Proofs.YtbbjlleaofgddaaGreat
open Go.RowKit
-- term trNoV: call Tryz.prog ctN3 (Lt.of []) 100 39 (symArgs 0 [notS]) [] 0
def trNoV : TT OpR :=
(.ite (.cmp .lss (.var 0) (.lit 1))
 (.ret ((.v (.one (.z (.bool (.lit false))))), [], 1))
 (.ite (.cmp .gtr (.var 0) (.lit 20))
 (.ret ((.v (.one (.z (.bool (.lit false))))), [], 1))
 (.ite (.cmp .lss (.var 1) (.lit 1))
 (.ret ((.v (.one (.z (.bool (.lit false))))), [], 1))
 (.ite (.cmp .gtr (.var 1) (.lit 10000))
 (.ret ((.v (.one (.z (.bool (.lit false))))), [], 1))
 (.ite (.cmp .geq (.var 3) (.lit 0))
 (.ite (.not (.cmp .leq (.var 3) (.lit 10000000)))
 (.ret ((.v (.one (.z (.bool (.lit false))))), [], 1))
 (.ite (.not (.fn 160 (.i (.var 0) (.i (.var 1) (.i (.var 2) (.i (.var 3) (.i (.var 4) (.i (.var 5) (.x (.var 6) .nil)))))))))
 (.ret ((.v (.one (.z (.bool (.lit false))))), [], 1))
 (.ite (.cmp .gtr (.len (.var 6)) (.lit 20))
 (.ret ((.v (.one (.z (.bool (.lit false))))), [], 1))
 (.loop 0 2000 ⟨[(0, (.lit 0)), (1, (.lit 0))], [], []⟩
 (.ite (.cmp .lss (.var 2001) (.len (.var 6)))
 (.ob (.tru (.cmp .leq (.lit 0) (.var 2001)))
 (.ob (.tru (.cmp .lss (.var 2001) (.len (.var 6))))
 (.ite (.cmp .leq (.rd (.var 6) (.var 2001) 0) (.var 2000))
 (.ret ((.v (.one (.z (.bool (.lit false))))), [], 3))
 (.ite (.not (.fn 161 (.i (.rd (.var 6) (.var 2001) 0) (.x (.rd (.var 6) (.var 2001) 1) (.x (.rd (.var 6) (.var 2001) 2) (.i (.var 1) .nil))))))
 (.ret ((.v (.one (.z (.bool (.lit false))))), [], 3))
 (.next 0 ⟨[(0, (.rd (.var 6) (.var 2001) 0)), (1, (.ar .add .i64 (.var 2001) (.lit 1)))], [], []⟩)))))
 (.ret ((.v (.one (.z (.bool (.lit true))))), [], 3)))))))
 (.ret ((.v (.one (.z (.bool (.lit false))))), [], 1)))))))
-- end trNoV
set_option maxRecDepth 100000 in
theorem trNoV_is : T.norm 0 (call Tryz.prog ctN3 (Lt.of []) 100 39 (symArgs 0 [notS]) [] 0) TT.ret = trNoV := by kernel_rfl
theorem trNoV_low : trNoV.low 1000 = true := by kernel_rfl
end Go.Proofs.YtbbjlleaofgddaaGreat
/- Chapter 40: notices, the depth under a keel. -/
namespace Go.Proofs.YtbbjlleaofgddaaGreat
open Go.RowKit
theorem htB_iff {a b : Int} : htB a b = true ↔ -100000 ≤ a ∧ a ≤ b ∧ b ≤ 100000 := by
  simp only [htB, spanB, Bool.and_eq_true, decide_eq_true_eq]
  omega
/-! ### Heights stay in range -/
theorem upd_ht {fr un : Int} {st : Hgt} {a b lo hi : Int} (h : htB st.lo st.hi = true) (h1 : htB lo hi = true) : htB (Hgt.upd fr un st a b lo hi).lo (Hgt.upd fr un st a b lo hi).hi = true := by
  unfold Hgt.upd
  split
  · exact h
  · split
    · exact h
    · split
      · have e : sp22 [.i st.lo, .i st.hi, .i lo, .i hi] = true := by
          rw [htB_iff] at h h1
          show (spanB st.lo st.hi && spanB lo hi) = true
          simp only [spanB, Bool.and_eq_true, decide_eq_true_eq]; omega
        show htB (sjA [.i st.lo, .i st.hi, .i lo, .i hi]) (sjB [.i st.lo, .i st.hi, .i lo, .i hi]) = true
        unfold sjA sjB
        rw [if_pos e, if_pos e]
        rw [htB_iff] at h h1 ⊢
        show -100000 ≤ min st.lo lo ∧ min st.lo lo ≤ max st.hi hi ∧ max st.hi hi ≤ 100000
        omega
      · exact h1
theorem join_ht {a b c d : Int} (h : htB a b = true) (h1 : htB c d = true) : htB (sjA [.i a, .i b, .i c, .i d]) (sjB [.i a, .i b, .i c, .i d]) = true := by
  have e : sp22 [.i a, .i b, .i c, .i d] = true := by
    rw [htB_iff] at h h1
    show (spanB a b && spanB c d) = true
    simp only [spanB, Bool.and_eq_true, decide_eq_true_eq]; omega
  unfold sjA sjB
  rw [if_pos e, if_pos e]
  rw [htB_iff] at h h1 ⊢
  show -100000 ≤ min a c ∧ min a c ≤ max b d ∧ max b d ≤ 100000
  omega
theorem hgt_ht {r : Rows} {s p fr un : Int} (hr : ∀ j : Nat, j < r.length → htB (lg r j 0) (lg r j 1) = true) : ∀ k, k ≤ r.length → htB (hgtN r s p fr un k).lo (hgtN r s p fr un k).hi = true
  | 0, _ => by show htB 0 0 = true; decide
  | k + 1, hk => by
    have ih := hgt_ht (s := s) (p := p) (fr := fr) (un := un) hr k (by omega)
    unfold hgtN Hgt.round
    refine upd_ht ?_ (hr k (by omega))
    split
    · rename_i h0
      split
      · refine upd_ht ih ?_
        have e : ((k : Int) - 1) = ((k - 1 : Nat) : Int) := by omega
        rw [e]
        exact join_ht (hr (k - 1) (by omega)) (hr k (by omega))
      · exact ih
    · exact ih
theorem height_ht {ds : List D} (h : heE ds = 0) : htB (heA ds) (heB ds) = true := by
  unfold heE at h
  by_cases hx : heX ds = true
  · have hO : heO ds = true := by unfold heX at hx; exact (Bool.and_eq_true_iff.1 hx).1
    have ht : tideL ds = true := by unfold heO at hO; exact (Bool.and_eq_true_iff.1 hO).1
    unfold tideL tideB at ht
    simp only [Bool.and_eq_true] at ht
    obtain ⟨_, _, _, ht⟩ := ht
    rw [tideN_iff] at ht
    unfold heA heB
    rw [if_pos hx, if_pos hx]
    exact hgt_ht (fun j hj => ht j (by omega) (by omega)) _ (Nat.le_refl _)
  · rw [if_neg hx] at h
    split at h <;> omega
/-! Notices -/
def ptsN (r : Rows) (n : Int) : Nat → Nat → Int → Bool
  | 0, _, _ => true
  | f + 1, i, last => (decide (last < lg r i 0) && parB (lg r i 0) (lr r i 1) (lr r i 2) n) && ptsN r n f (i + 1) (lg r i 0)
def noticeL (ds : List D) : Bool := decide ((1 ≤ iAt ds 0 ∧ iAt ds 0 ≤ 20) ∧ (1 ≤ iAt ds 1 ∧ iAt ds 1 ≤ 10000) ∧ 0 ≤ iAt ds 3 ∧ iAt ds 3 ≤ 10000000) && (termL [.i (iAt ds 0), .i (iAt ds 1), .i (iAt ds 2), .i (iAt ds 3), .i (iAt ds 4), .i (iAt ds 5), .l (rAt ds 6)] && (decide ((rAt ds 6).length ≤ 20) && ptsN (rAt ds 6) (iAt ds 1) (rAt ds 6).length 0 0))
theorem par_4 (c : Int) (a o : Rows) (n : Int) : parL [.i c, .l a, .l o, .i n] = parB c a o n := rfl
theorem N3b160 (W : World) (ds l : List D) : (envOf N3 W ds).fb 160 l = termL l := by simp only [envOf, N3]
theorem N3b161 (W : World) (ds l : List D) : (envOf N3 W ds).fb 161 l = parL l := by simp only [envOf, N3]
theorem N3i162 (W : World) (ds l : List D) : (envOf N3 W ds).fi 162 l = heA l := by simp only [envOf, N3]
theorem N3i163 (W : World) (ds l : List D) : (envOf N3 W ds).fi 163 l = heB l := by simp only [envOf, N3]
theorem N3i164 (W : World) (ds l : List D) : (envOf N3 W ds).fi 164 l = heE l := by simp only [envOf, N3]
theorem N3b144 (W : World) (ds l : List D) : (envOf N3 W ds).fb 144 l = kevL l := by simp only [envOf, N3, N2, N1]
theorem gNoV : Gives Tryz.prog 39 [notS] (fun ds => .bool (noticeL ds)) := by
  refine GivesIf.all (fn_gives N3 (by kernel_rfl) (fun ρ h => ctN3_ok (Sees.of h 170)) (by kernel_rfl) trNoV_is trNoV_low (by decide) (fun W vals ds hr _ => ?_))
  simp only [trNoV, TT.sat_ret, TT.sat_ite, B.ev, E.ev, X.ev, AL.ev, cmp_t, cmp_f, V.plain, V2.plain, S.plain, S0.plain, V.val, V2.val, S.val, S0.val, envOf_i, envOf_d, true_and, Bool.not_eq_true', Bool.not_eq_false', cmpP, N3b160, N3b161, par_4]
  have e : noticeL ds = (decide ((1 ≤ iAt ds 0 ∧ iAt ds 0 ≤ 20) ∧ (1 ≤ iAt ds 1 ∧ iAt ds 1 ≤ 10000) ∧ 0 ≤ iAt ds 3 ∧ iAt ds 3 ≤ 10000000) && (termL [.i (iAt ds 0), .i (iAt ds 1), .i (iAt ds 2), .i (iAt ds 3), .i (iAt ds 4), .i (iAt ds 5), .l (rAt ds 6)] && (decide ((rAt ds 6).length ≤ 20) && ptsN (rAt ds 6) (iAt ds 1) (rAt ds 6).length 0 0))) := rfl
  have F : ¬ ((1 ≤ iAt ds 0 ∧ iAt ds 0 ≤ 20) ∧ (1 ≤ iAt ds 1 ∧ iAt ds 1 ≤ 10000) ∧ 0 ≤ iAt ds 3 ∧ iAt ds 3 ≤ 10000000) → Value.bool false = Value.bool (noticeL ds) := fun h => by rw [e, decide_eq_false h]; rfl
  refine ⟨fun _ => F (by omega), fun _ => ⟨fun _ => F (by omega), fun _ => ⟨fun _ => F (by omega), fun _ => ⟨fun _ => F (by omega), fun _ => ⟨fun _ => ⟨fun _ => F (by omega), fun _ => ⟨fun h => ?_, fun h => ⟨fun h1 => ?_, fun h1 => ?_⟩⟩⟩, fun _ => F (by omega)⟩⟩⟩⟩⟩
  · rw [e, h, Bool.false_and, Bool.and_false]
  · rw [e, decide_eq_false (p := (rAt ds 6).length ≤ 20) (by omega), Bool.false_and, Bool.and_false, Bool.and_false]
  rw [decide_eq_true (by omega), Bool.true_and, h, Bool.true_and, decide_eq_true (by omega), Bool.true_and] at e
  rw [e]
  clear F e hr h
  generalize e6 : rAt ds 6 = r at *
  generalize e1 : iAt ds 1 = n at *
  refine TT.sat_loop (fun v => ∃ i : Nat, v.i 1 = i ∧ i ≤ r.length ∧ ptsN r n (r.length - i) i (v.i 0) = ptsN r n r.length 0 0) (fun v => r.length - (v.i 1).toNat) ⟨0, by simp [val_i, aget, E.ev], by omega, rfl⟩ (fun v hv => ?_)
  obtain ⟨i, i0, i1, i2⟩ := hv
  simp only [TT.sat_ret, TT.sat_ite, TT.sat_ob, TT.sat_next, put_i, put_d, put_fb, Ob.ok, B.ev, E.ev, X.ev, AL.ev, cmp_t, cmp_f, arEv, envOf_i, envOf_d, true_and, Bool.not_eq_true', Bool.not_eq_false', cell_lg, cell_lr, cmpP, val_i, aget, Nat.reduceBEq, beq_self_eq_true, Bool.false_eq_true, if_true, if_false, Nat.reduceLT, Nat.reduceSub, Nat.sub_self, Nat.lt_irrefl, i0, e6, e1, N3b161, par_4]
  refine ⟨fun hc => ?_, fun hc => ?_⟩
  · obtain ⟨f, hf⟩ : ∃ f, r.length - i = f + 1 := ⟨r.length - i - 1, by omega⟩
    have hf' : r.length - (i + 1) = f := by omega
    rw [hf, ptsN] at i2
    rw [wrap_in ((i : Int) + 1) (by omega) (by omega)]
    refine ⟨by omega, by omega, fun h => ?_, fun h => ⟨fun g => ?_, fun g => ⟨⟨i + 1, rfl, by omega, ?_⟩, by omega⟩⟩⟩
    · rw [← i2, decide_eq_false (by omega)]; rfl
    · rw [← i2, g, Bool.and_false]; rfl
    · rw [hf', ← i2, g, decide_eq_true (by omega), Bool.true_and, Bool.true_and]
  · have h0 : r.length - i = 0 := by omega
    rw [h0, ptsN] at i2
    rw [← i2]
/-! The depth under a keel -/
def heD (ds : List D) : List D := [.i (iAt ds 3), .i (iAt ds 4), .l (rAt ds 5), .i (iAt ds 8), .i (iAt ds 9)]
def deO (ds : List D) : Bool := decide (0 ≤ iAt ds 6 ∧ iAt ds 6 ≤ 100000) && (kevB (iAt ds 0) (iAt ds 1) (rAt ds 2) && (decide (0 ≤ iAt ds 7 ∧ iAt ds 7 ≤ 2000) && !decide (heE (heD ds) = 1)))
def deE (ds : List D) : Int := if deO ds then (if iAt ds 7 ≤ 100 * (rAt ds 2).length then heE (heD ds) else 3) else 1
def needI (d m : Int) (r : Rows) (v : Int) : Int := d + m + (if v = 0 then 0 else lg r ((v - 1).tdiv 100) 0)
def deR (ds : List D) : Bool := decide (deE ds = 0) && decide (needI (iAt ds 0) (iAt ds 1) (rAt ds 2) (iAt ds 7) - heA (heD ds) ≤ iAt ds 6)
theorem sortN_le {r : Rows} : ∀ n, sortN r n = true → ∀ i j : Nat, i ≤ j → j ≤ n → lg r i 0 ≤ lg r j 0
  | 0, _, i, j, h1, h2 => by
    obtain rfl : i = j := by omega
    exact Int.le_refl _
  | n + 1, h, i, j, h1, h2 => by
    rw [sortN, Bool.and_eq_true, decide_eq_true_eq] at h
    by_cases e : j = n + 1
    · subst e
      by_cases e2 : i = n + 1
      · subst e2; exact Int.le_refl _
      · have q := sortN_le n h.2 i n (by omega) (Nat.le_refl _)
        push_cast at h ⊢
        omega
    · exact sortN_le n h.2 i j h1 (by omega)
theorem kev_sq {d m : Int} {r : Rows} (h : kevB d m r = true) : (1 ≤ d ∧ d ≤ 1000) ∧ (0 ≤ m ∧ m ≤ 1000) ∧ (1 ≤ r.length ∧ r.length ≤ 20) ∧ ∀ i : Nat, i < r.length → 0 ≤ lg r i 0 ∧ lg r i 0 ≤ 1000 := by
  unfold kevB at h
  simp only [Bool.and_eq_true, decide_eq_true_eq] at h
  obtain ⟨h1, h2, h3⟩ := h
  refine ⟨by omega, by omega, by omega, fun i hi => ?_⟩
  have p1 := sortN_le _ h2 0 i (Nat.zero_le _) (by omega)
  have p2 := sortN_le _ h2 i (r.length - 1) (by omega) (Nat.le_refl _)
  have e : ((r.length - 1 : Nat) : Int) = (r.length : Int) - 1 := by omega
  rw [e] at p2
  simp only [Int.natCast_zero] at p1
  omega
theorem heE_3 (ds : List D) : heE ds = 0 ∨ heE ds = 1 ∨ heE ds = 4 := by unfold heE; split; exact .inl rfl; split; exact .inr (.inr rfl); exact .inr (.inl rfl)
theorem kev_3 (d m : Int) (r : Rows) : kevL [.i d, .i m, .l r] = kevB d m r := rfl
def N4 : Interp where
  fi n l := match n with | 171 => deE l | n => N3.fi n l
  fb n l := match n with | 170 => noticeL l | 171 => deR l | n => N3.fb n l
  fd _ _ := []
theorem N4_N3 {ρ : Env} (h : Sees ρ N4 180) : Sees ρ N3 170 := h.trans (by decide) fun n l hn => by
  refine ⟨?_, ?_⟩
  ·
    simp only [N4]
    split <;> first | omega | rfl
  ·
    simp only [N4]
    split <;> first | omega | rfl
def cNoV := ctD [notS] fun al => .ret (bV (bF 170 noticeL al))
theorem cNoV_ok {ρ : Env} (h : Sees ρ N4 180) : CtOne Tryz.prog ρ 39 cNoV :=
  ctD_ok gNoV (fun _ => rfl) (fun al => by simp only [iV, bV, V.s0, V.val, V2.val, S.val, S0.val, bF_ev (s := 170) (f := noticeL) (fun l => by rw [(h 170 l (by decide)).2]; simp only [N4])]; try rfl)
def cDeep := ctD [shp, tid, it, it, it, it] fun al => .ret (.tup [.one (sBF 171 deR al), .one (sIF 171 deE al)])
def ctN4 : Ct := (39, cNoV) :: ctN3
theorem ctN4_ok {ρ : Env} (h : Sees ρ N4 180) : CtOk Tryz.prog ρ ctN4 := .cons (cNoV_ok h) <| (ctN3_ok (N4_N3 h))
end Go.Proofs.YtbbjlleaofgddaaGreat
