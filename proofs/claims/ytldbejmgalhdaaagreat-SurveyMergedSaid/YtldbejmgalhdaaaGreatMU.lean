/- MU, merged: TEd, Ed, TEe, Ee, Fa. -/
import Derived.Test.YtldbejmgalhdaaaGreatMT
import Derived.Test.YtldbejmgalhdaaaGreatMP
set_option linter.unusedSimpArgs false
set_option linter.unusedVariables false
/- Chapter 07: the tree of poly's has. -/
namespace Go.Proofs.YtldbejmgalhdaaaGreat
open Go.RowKit
-- term trHasS: call Tryz.prog ctE3 (Lt.of []) 100 195 (symArgs 0 [pts, pt, pt]) [] 0
def trHasS : TT OpR :=
(.ite (.cmp .lss (.fn 67 (.x (.var 0) (.i (.var 1) (.i (.var 2) .nil)))) (.lit 0))
 (.ret ((.v (.one (.z (.bool (.lit false))))), [], 4))
 (.ite (.cmp .lss (.fn 67 (.x (.var 0) (.i (.var 3) (.i (.var 4) .nil)))) (.lit 0))
 (.ret ((.v (.one (.z (.bool (.lit false))))), [], 4))
 (.ite (.not (.fn 116 (.x (.var 0) (.i (.var 1) (.i (.var 2) (.i (.var 3) (.i (.var 4) .nil)))))))
 (.ret ((.v (.one (.z (.bool (.lit false))))), [], 4))
 (.ite (.not (.fn 116 (.x (.var 0) (.i (.var 3) (.i (.var 4) (.i (.var 1) (.i (.var 2) .nil)))))))
 (.ret ((.v (.one (.z (.bool (.lit false))))), [], 4))
 (.loop 0 8000 ⟨[(0, (.lit 0))], [], []⟩
 (.ite (.cmp .lss (.var 8000) (.len (.var 0)))
 (.ob (.tru (.cmp .leq (.lit 0) (.var 8000)))
 (.ob (.tru (.cmp .lss (.var 8000) (.len (.var 0))))
 (.ob (.tru (.cmp .neq (.len (.var 0)) (.lit 0)))
 (.ob (.tru (.cmp .leq (.lit 0) (.ar .rem .i64 (.ar .add .i64 (.ar .add .i64 (.var 8000) (.lit 1)) (.len (.var 0))) (.len (.var 0)))))
 (.ob (.tru (.cmp .lss (.ar .rem .i64 (.ar .add .i64 (.ar .add .i64 (.var 8000) (.lit 1)) (.len (.var 0))) (.len (.var 0))) (.len (.var 0))))
 (.ite (.cmp .lss (.ar .mul .i64 (.fn 15 (.i (.var 1) (.i (.var 2) (.i (.var 3) (.i (.var 4) (.i (.rd (.var 0) (.var 8000) 0) (.i (.rd (.var 0) (.var 8000) 1) .nil))))))) (.fn 15 (.i (.var 1) (.i (.var 2) (.i (.var 3) (.i (.var 4) (.i (.rd (.var 0) (.ar .rem .i64 (.ar .add .i64 (.ar .add .i64 (.var 8000) (.lit 1)) (.len (.var 0))) (.len (.var 0))) 0) (.i (.rd (.var 0) (.ar .rem .i64 (.ar .add .i64 (.ar .add .i64 (.var 8000) (.lit 1)) (.len (.var 0))) (.len (.var 0))) 1) .nil)))))))) (.lit 0))
 (.ite (.cmp .lss (.ar .mul .i64 (.fn 15 (.i (.rd (.var 0) (.var 8000) 0) (.i (.rd (.var 0) (.var 8000) 1) (.i (.rd (.var 0) (.ar .rem .i64 (.ar .add .i64 (.ar .add .i64 (.var 8000) (.lit 1)) (.len (.var 0))) (.len (.var 0))) 0) (.i (.rd (.var 0) (.ar .rem .i64 (.ar .add .i64 (.ar .add .i64 (.var 8000) (.lit 1)) (.len (.var 0))) (.len (.var 0))) 1) (.i (.var 1) (.i (.var 2) .nil))))))) (.fn 15 (.i (.rd (.var 0) (.var 8000) 0) (.i (.rd (.var 0) (.var 8000) 1) (.i (.rd (.var 0) (.ar .rem .i64 (.ar .add .i64 (.ar .add .i64 (.var 8000) (.lit 1)) (.len (.var 0))) (.len (.var 0))) 0) (.i (.rd (.var 0) (.ar .rem .i64 (.ar .add .i64 (.ar .add .i64 (.var 8000) (.lit 1)) (.len (.var 0))) (.len (.var 0))) 1) (.i (.var 3) (.i (.var 4) .nil)))))))) (.lit 0))
 (.ret ((.v (.one (.z (.bool (.lit false))))), [], 28))
 (.ite (.not (.and (.cmp .eql (.rd (.var 0) (.var 8000) 0) (.var 1)) (.cmp .eql (.rd (.var 0) (.var 8000) 1) (.var 2))))
 (.ite (.not (.and (.cmp .eql (.rd (.var 0) (.var 8000) 0) (.var 3)) (.cmp .eql (.rd (.var 0) (.var 8000) 1) (.var 4))))
 (.ite (.fn 61 (.i (.rd (.var 0) (.var 8000) 0) (.i (.rd (.var 0) (.var 8000) 1) (.i (.var 1) (.i (.var 2) (.i (.var 3) (.i (.var 4) .nil)))))))
 (.ob (.tru (.cmp .leq (.lit 0) (.var 8000)))
 (.ob (.tru (.cmp .lss (.var 8000) (.len (.var 0))))
 (.ite (.fn 115 (.x (.var 0) (.i (.var 8000) (.i (.var 1) (.i (.var 2) .nil)))))
 (.ob (.tru (.cmp .leq (.lit 0) (.var 8000)))
 (.ob (.tru (.cmp .lss (.var 8000) (.len (.var 0))))
 (.ite (.not (.fn 115 (.x (.var 0) (.i (.var 8000) (.i (.var 3) (.i (.var 4) .nil))))))
 (.ret ((.v (.one (.z (.bool (.lit false))))), [], 28))
 (.next 0 ⟨[(0, (.ar .add .i64 (.var 8000) (.lit 1)))], [], []⟩))))
 (.ret ((.v (.one (.z (.bool (.lit false))))), [], 28)))))
 (.next 0 ⟨[(0, (.ar .add .i64 (.var 8000) (.lit 1)))], [], []⟩))
 (.next 0 ⟨[(0, (.ar .add .i64 (.var 8000) (.lit 1)))], [], []⟩))
 (.next 0 ⟨[(0, (.ar .add .i64 (.var 8000) (.lit 1)))], [], []⟩)))
 (.ite (.not (.and (.cmp .eql (.rd (.var 0) (.var 8000) 0) (.var 1)) (.cmp .eql (.rd (.var 0) (.var 8000) 1) (.var 2))))
 (.ite (.not (.and (.cmp .eql (.rd (.var 0) (.var 8000) 0) (.var 3)) (.cmp .eql (.rd (.var 0) (.var 8000) 1) (.var 4))))
 (.ite (.fn 61 (.i (.rd (.var 0) (.var 8000) 0) (.i (.rd (.var 0) (.var 8000) 1) (.i (.var 1) (.i (.var 2) (.i (.var 3) (.i (.var 4) .nil)))))))
 (.ob (.tru (.cmp .leq (.lit 0) (.var 8000)))
 (.ob (.tru (.cmp .lss (.var 8000) (.len (.var 0))))
 (.ite (.fn 115 (.x (.var 0) (.i (.var 8000) (.i (.var 1) (.i (.var 2) .nil)))))
 (.ob (.tru (.cmp .leq (.lit 0) (.var 8000)))
 (.ob (.tru (.cmp .lss (.var 8000) (.len (.var 0))))
 (.ite (.not (.fn 115 (.x (.var 0) (.i (.var 8000) (.i (.var 3) (.i (.var 4) .nil))))))
 (.ret ((.v (.one (.z (.bool (.lit false))))), [], 28))
 (.next 0 ⟨[(0, (.ar .add .i64 (.var 8000) (.lit 1)))], [], []⟩))))
 (.ret ((.v (.one (.z (.bool (.lit false))))), [], 28)))))
 (.next 0 ⟨[(0, (.ar .add .i64 (.var 8000) (.lit 1)))], [], []⟩))
 (.next 0 ⟨[(0, (.ar .add .i64 (.var 8000) (.lit 1)))], [], []⟩))
 (.next 0 ⟨[(0, (.ar .add .i64 (.var 8000) (.lit 1)))], [], []⟩))))))))
 (.ret ((.v (.one (.z (.bool (.lit true))))), [], 28))))))))
-- end trHasS
set_option maxRecDepth 100000 in
theorem trHasS_is : T.norm 0 (call Tryz.prog ctE3 (Lt.of []) 100 195 (symArgs 0 [pts, pt, pt]) [] 0) TT.ret = trHasS := by kernel_rfl
theorem trHasS_low : trHasS.low 1000 = true := by kernel_rfl
end Go.Proofs.YtldbejmgalhdaaaGreat
/- Chapter 07: poly's has. -/
namespace Go.Proofs.YtldbejmgalhdaaaGreat
open Go.RowKit
def tur (a b c d e f : Int) : Int := turnR [.i a, .i b, .i c, .i d, .i e, .i f]
def phC (r : Rows) (ax ay bx by' : Int) (i : Nat) : Bool :=
  decide (tur ax ay bx by' (lg r i 0) (lg r i 1) * tur ax ay bx by' (lg r (nxt r.length i) 0) (lg r (nxt r.length i) 1) < 0 ∧
    tur (lg r i 0) (lg r i 1) (lg r (nxt r.length i) 0) (lg r (nxt r.length i) 1) ax ay * tur (lg r i 0) (lg r i 1) (lg r (nxt r.length i) 0) (lg r (nxt r.length i) 1) bx by' < 0)
def phI (r : Rows) (ax ay bx by' : Int) (i : Nat) : Bool :=
  !phC r ax ay bx by' i && (decide ((lg r i 0 = ax ∧ lg r i 1 = ay) ∨ (lg r i 0 = bx ∧ lg r i 1 = by')) || (!onR [.i (lg r i 0), .i (lg r i 1), .i ax, .i ay, .i bx, .i by'] || (opB r i ax ay && opB r i bx by')))
def phN (r : Rows) (ax ay bx by' : Int) : Nat → Nat → Bool
  | 0, _ => true
  | f + 1, i => phI r ax ay bx by' i && phN r ax ay bx by' f (i + 1)
def phB (r : Rows) (ax ay bx by' : Int) : Bool :=
  decide (0 ≤ placeN r ax ay r.length 0 false) && (decide (0 ≤ placeN r bx by' r.length 0 false) && (leN r ax ay bx by' r.length 0 && (leN r bx by' ax ay r.length 0 && phN r ax ay bx by' r.length 0)))
def phL (ds : List D) : Bool := phB (rAt ds 0) (iAt ds 1) (iAt ds 2) (iAt ds 3) (iAt ds 4)
theorem turnR_3 (l : List D) : turnR l = -1 ∨ turnR l = 0 ∨ turnR l = 1 := by
  unfold turnR turnL turnI sgn
  split
  · split
    · exact .inl rfl
    · split
      · exact .inr (.inr rfl)
      · exact .inr (.inl rfl)
  · exact .inr (.inl rfl)
theorem wrap_turn (a b : List D) : IntKind.i64.wrap (turnR a * turnR b) = turnR a * turnR b := by
  rcases turnR_3 a with h | h | h <;> rcases turnR_3 b with h' | h' | h' <;> rw [h, h'] <;> rfl
theorem K73b61 (W : World) (ds l : List D) : (envOf K73 W ds).fb 61 l = onR l := by simp only [envOf, K73, K72, K71, KI, KH, KG, KF, KE, KD, KC, KB, KA, K9, K8, K7, K6, K5, K]
theorem K73b115 (W : World) (ds l : List D) : (envOf K73 W ds).fb 115 l = opL l := by simp only [envOf, K73, K72]
theorem K73i15 (W : World) (ds l : List D) : (envOf K73 W ds).fi 15 l = turnR l := by simp only [envOf, K73, K72, K71, KI, KH, KG, KF, KE, KD, KC, KB, KA, K9, K8, K7, K6, K5, K]
theorem K73b116 (W : World) (ds l : List D) : (envOf K73 W ds).fb 116 l = leL l := by simp only [envOf, K73]
theorem K73i67 (W : World) (ds l : List D) : (envOf K73 W ds).fi 67 l = placeI l := by simp only [envOf, K73, K72, K71, KI, KH, KG, KF, KE, KD, KC, KB, KA, K9, K8, K7, K6, K5, K]
theorem le_five (r : Rows) (a b c d : Int) : leL [.l r, .i a, .i b, .i c, .i d] = leN r a b c d r.length 0 := rfl
set_option maxHeartbeats 2000000 in
theorem gHasS : Gives Tryz.prog 195 [pts, pt, pt] (fun ds => .bool (phL ds)) := by
  refine GivesIf.all (fn_gives K73 (by kernel_rfl) (fun ρ h => ctE3_ok (Sees.of h 117)) (by kernel_rfl) trHasS_is trHasS_low (by decide) (fun W vals ds hr _ => ?_))
  have hlen := pts_len hr
  simp only [trHasS, TT.sat_ret, TT.sat_ite, TT.sat_ob, TT.sat_next, TT.sat_stuck, put_i, put_b, put_d, put_fi, put_fb, put_fd, Ob.ok, B.ev, E.ev, X.ev, AL.ev, cmp_t, cmp_f, arEv, V.plain, V2.plain, S.plain, S0.plain, V.val, V2.val, S.val, S0.val, bV, iV, List.all_cons, List.all_nil, Bool.and_true, Bool.and_self, envOf_i, envOf_b, envOf_d, List.map_cons, List.map_nil, true_and, Bool.not_eq_true', Bool.not_eq_false', Bool.not_not, Bool.and_eq_true, and_f, cell_lg, cell_lb, cell_lr, cmpP, val_i, val_b, val_d, aget, Nat.reduceBEq, beq_self_eq_true, Bool.false_eq_true, if_true, if_false, Nat.reduceLT, Nat.reduceSub, Nat.sub_self, Nat.lt_irrefl, K73i67, K73b116, placeI_three, le_five]
  have hP : phL ds = phB (rAt ds 0) (iAt ds 1) (iAt ds 2) (iAt ds 3) (iAt ds 4) := rfl
  rw [hP]
  clear hP hr
  generalize e0 : rAt ds 0 = r at *
  generalize e1 : iAt ds 1 = x at *
  generalize e2 : iAt ds 2 = y at *
  generalize e3 : iAt ds 3 = s at *
  generalize e4 : iAt ds 4 = t at *
  refine ⟨fun h => ?_, fun h1 => ⟨fun h => ?_, fun h2 => ⟨fun h => ?_, fun h3 => ⟨fun h => ?_, fun h4 => ?_⟩⟩⟩⟩
  · rw [phB, decide_eq_false (p := 0 ≤ placeN r x y r.length 0 false) (by omega)]; rfl
  · rw [phB, decide_eq_false (p := 0 ≤ placeN r s t r.length 0 false) (by omega), Bool.false_and, Bool.and_false]
  · rw [phB, h]; simp
  · rw [phB, h]; simp
  have hG : phN r x y s t r.length 0 = phB r x y s t := by
    rw [phB, decide_eq_true (p := 0 ≤ placeN r x y r.length 0 false) (by omega), decide_eq_true (p := 0 ≤ placeN r s t r.length 0 false) (by omega), h3, h4]; rfl
  generalize hg : phB r x y s t = G at *
  refine TT.sat_loop (fun v => ∃ i : Nat, v.i 0 = i ∧ i ≤ r.length ∧ phN r x y s t (r.length - i) i = G) (fun v => r.length - (v.i 0).toNat)
    ⟨0, by simp [val_i, aget, E.ev], by omega, hG⟩ (fun v hv => ?_)
  obtain ⟨i, i0, i1, i2⟩ := hv
  simp only [TT.sat_ret, TT.sat_ite, TT.sat_ob, TT.sat_next, TT.sat_stuck, put_i, put_b, put_d, put_fi, put_fb, put_fd, Ob.ok, B.ev, E.ev, X.ev, AL.ev, cmp_t, cmp_f, arEv, V.plain, V2.plain, S.plain, S0.plain, V.val, V2.val, S.val, S0.val, bV, iV, List.all_cons, List.all_nil, Bool.and_true, Bool.and_self, envOf_i, envOf_b, envOf_d, List.map_cons, List.map_nil, true_and, Bool.not_eq_true', Bool.not_eq_false', Bool.not_not, Bool.and_eq_true, and_f, cell_lg, cell_lb, cell_lr, cmpP, val_i, val_b, val_d, aget, Nat.reduceBEq, beq_self_eq_true, Bool.false_eq_true, if_true, if_false, Nat.reduceLT, Nat.reduceSub, Nat.sub_self, Nat.lt_irrefl, i0, e0, e1, e2, e3, e4, K73b115, op_four, K73i15, K73b61]
  refine ⟨fun hc => ?_, fun hc => ?_⟩
  · have hi : i < r.length := by omega
    have hn := nxt_lt hi
    obtain ⟨f, hf⟩ : ∃ f, r.length - i = f + 1 := ⟨r.length - i - 1, by omega⟩
    rw [hf, phN] at i2
    have hf' : r.length - (i + 1) = f := by omega
    rw [wrap_in ((i : Int) + 1) (by omega) (by omega)]
    have hw : (IntKind.i64.wrap ((i : Int) + 1 + (r.length : Int))).tmod (r.length : Int) = (nxt r.length i : Int) := by
      have := rem_next hi hlen
      rwa [wrap_in ((i : Int) + 1) (by omega) (by omega)] at this
    rw [hw, wrap_turn, wrap_turn]
    have N : phI r x y s t i = true → (∃ j : Nat, (i : Int) + 1 = j ∧ j ≤ r.length ∧ phN r x y s t (r.length - j) j = G) ∧ r.length - ((i : Int) + 1).toNat < r.length - (i : Int).toNat :=
      fun h => ⟨⟨i + 1, rfl, by omega, by rw [hf', ← i2, h]; rfl⟩, by omega⟩
    have B : phI r x y s t i = false → Value.bool false = Value.bool G := fun h => by rw [← i2, h]; rfl
    have C : ∀ {b : Bool}, phC r x y s t i = b → phI r x y s t i = (!b && (decide ((lg r i 0 = x ∧ lg r i 1 = y) ∨ (lg r i 0 = s ∧ lg r i 1 = t)) || (!onR [.i (lg r i 0), .i (lg r i 1), .i x, .i y, .i s, .i t] || (opB r i x y && opB r i s t)))) := fun h => by rw [phI, h]
    have C1 : tur x y s t (lg r i 0) (lg r i 1) * tur x y s t (lg r (nxt r.length i) 0) (lg r (nxt r.length i) 1) < 0 → tur (lg r i 0) (lg r i 1) (lg r (nxt r.length i) 0) (lg r (nxt r.length i) 1) x y * tur (lg r i 0) (lg r i 1) (lg r (nxt r.length i) 0) (lg r (nxt r.length i) 1) s t < 0 → phC r x y s t i = true :=
      fun a b => decide_eq_true ⟨a, b⟩
    have C2 : ¬ (tur x y s t (lg r i 0) (lg r i 1) * tur x y s t (lg r (nxt r.length i) 0) (lg r (nxt r.length i) 1) < 0 ∧ tur (lg r i 0) (lg r i 1) (lg r (nxt r.length i) 0) (lg r (nxt r.length i) 1) x y * tur (lg r i 0) (lg r i 1) (lg r (nxt r.length i) 0) (lg r (nxt r.length i) 1) s t < 0) → phC r x y s t i = false :=
      fun a => decide_eq_false a
    refine ⟨by omega, by omega, by omega, by omega, by omega, fun a => ⟨fun b => ?_, fun b => ?_⟩, fun a => ?_⟩
    · exact B (by rw [C (C1 a b)]; rfl)
    · have c := C (C2 (fun q => b q.2))
      clear C C1 C2
      generalize onR [.i (lg r i 0), .i (lg r i 1), .i x, .i y, .i s, .i t] = o at *
      generalize opB r i x y = o1 at *
      generalize opB r i s t = o2 at *
      refine ⟨fun d => ⟨fun e => ⟨fun k => ⟨by omega, by omega, fun k1 => ⟨by omega, by omega, fun k2 => B ?_, fun k2 => N ?_⟩, fun k1 => B ?_⟩, fun k => N ?_⟩, fun e => N ?_⟩, fun d => N ?_⟩
      all_goals (rw [c]; clear B N c i2; simp [*])
    · have c := C (C2 (fun q => a q.1))
      clear C C1 C2
      generalize onR [.i (lg r i 0), .i (lg r i 1), .i x, .i y, .i s, .i t] = o at *
      generalize opB r i x y = o1 at *
      generalize opB r i s t = o2 at *
      refine ⟨fun d => ⟨fun e => ⟨fun k => ⟨by omega, by omega, fun k1 => ⟨by omega, by omega, fun k2 => B ?_, fun k2 => N ?_⟩, fun k1 => B ?_⟩, fun k => N ?_⟩, fun e => N ?_⟩, fun d => N ?_⟩
      all_goals (rw [c]; clear B N c i2; simp [*])
  · have : r.length - i = 0 := by omega
    rw [this, phN] at i2
    rw [← i2]
def K74 : Interp where
  fi n l := K73.fi n l
  fb n l := match n with | 117 => phL l | n => K73.fb n l
  fd _ _ := []
theorem K74_K73 {ρ : Env} (h : Sees ρ K74 118) : Sees ρ K73 117 := h.trans (by decide) fun n l hn => by
  refine ⟨?_, ?_⟩
  ·
    rfl
  ·
    simp only [K74]
    split <;> first | omega | rfl
def cHasS := ctD [pts, pt, pt] fun al => .ret (bV (bF 117 phL al))
theorem cHasS_ok {ρ : Env} (h : Sees ρ K74 118) : CtOne Tryz.prog ρ 195 cHasS :=
  ctD_ok gHasS (fun _ => rfl) (fun al => by simp only [iV, bV, V.s0, V.val, V2.val, S.val, S0.val, bF_ev (s := 117) (f := phL) (fun l => by rw [(h 117 l (by decide)).2]; simp only [K74])]; try rfl)
def ctE4 : Ct := (195, cHasS) :: ctE3
theorem ctE4_ok {ρ : Env} (h : Sees ρ K74 118) : CtOk Tryz.prog ρ ctE4 := .cons (cHasS_ok h) (ctE3_ok (K74_K73 h))
end Go.Proofs.YtldbejmgalhdaaaGreat
/- Chapter 07: the tree of poly.Holds. -/
namespace Go.Proofs.YtldbejmgalhdaaaGreat
open Go.RowKit
-- term trPoHolds: call Tryz.prog ctE4 (Lt.of []) 100 190 (symArgs 0 [pts, pts]) [] 0
def trPoHolds : TT OpR :=
(.ite (.not (.fn 69 (.x (.var 0) .nil)))
 (.ret ((.tup [(.one (.z (.bool (.lit false)))), (.one (.z (.int .i64 (.lit 1))))]), [], 2))
 (.ite (.not (.fn 69 (.x (.var 1) .nil)))
 (.ret ((.tup [(.one (.z (.bool (.lit false)))), (.one (.z (.int .i64 (.lit 1))))]), [], 2))
 (.loop 0 7000 ⟨[(0, (.lit 0))], [], []⟩
 (.ite (.cmp .lss (.var 7000) (.len (.var 1)))
 (.ob (.tru (.cmp .leq (.lit 0) (.var 7000)))
 (.ob (.tru (.cmp .lss (.var 7000) (.len (.var 1))))
 (.ob (.tru (.cmp .neq (.len (.var 1)) (.lit 0)))
 (.ob (.tru (.cmp .leq (.lit 0) (.ar .rem .i64 (.ar .add .i64 (.ar .add .i64 (.var 7000) (.lit 1)) (.len (.var 1))) (.len (.var 1)))))
 (.ob (.tru (.cmp .lss (.ar .rem .i64 (.ar .add .i64 (.ar .add .i64 (.var 7000) (.lit 1)) (.len (.var 1))) (.len (.var 1))) (.len (.var 1))))
 (.ite (.not (.fn 117 (.x (.var 0) (.i (.rd (.var 1) (.var 7000) 0) (.i (.rd (.var 1) (.var 7000) 1) (.i (.rd (.var 1) (.ar .rem .i64 (.ar .add .i64 (.ar .add .i64 (.var 7000) (.lit 1)) (.len (.var 1))) (.len (.var 1))) 0) (.i (.rd (.var 1) (.ar .rem .i64 (.ar .add .i64 (.ar .add .i64 (.var 7000) (.lit 1)) (.len (.var 1))) (.len (.var 1))) 1) .nil)))))))
 (.ret ((.tup [(.one (.z (.bool (.lit false)))), (.one (.z (.int .i64 (.lit 0))))]), [], 10))
 (.next 0 ⟨[(0, (.ar .add .i64 (.var 7000) (.lit 1)))], [], []⟩)))))))
 (.ret ((.tup [(.one (.z (.bool (.lit true)))), (.one (.z (.int .i64 (.lit 0))))]), [], 10))))))
-- end trPoHolds
def trPoHolds_h : List (Nat × St) := [
(6, ⟨([(.v (.one (.z (.yl 5)))), (.v (.one (.z (.ptr 3 0)))), (.v (.one (.z .any))), (.v (.one (.z .any))), (.v (.one (.z .any))), (.v (.one (.z (.ext [(.int .i64), (.int .i64)] (.var 1) false)))), (.v (.one (.z (.int .i64 (.len (.var 1)))))), (.v (.one (.z (.int .i64 (.var 7000)))))] ++ List.replicate 15 V.any), [(5, (.loop .ready none ([(.v (.one (.z (.ext [(.int .i64), (.int .i64)] (.var 0) false)))), (.v (.one (.z (.ext [(.int .i64), (.int .i64)] (.var 1) false)))), (.v (.one (.z .any))), (.v (.one (.z .any))), (.v (.one (.z (.ptr 0 0)))), (.v (.one (.z (.ptr 1 0)))), (.v (.one (.z (.ptr 2 0)))), (.v (.one (.z .any))), (.v (.one (.z .any))), (.v (.one (.z (.ext [(.int .i64), (.int .i64)] (.var 0) false)))), (.v (.one (.z (.bool (.fn 69 (.x (.var 0) .nil)))))), (.v (.one (.z (.bool (.not (.fn 69 (.x (.var 0) .nil))))))), (.v (.one (.z (.bool (.lit false))))), (.v (.one (.z (.ext [(.int .i64), (.int .i64)] (.var 1) false)))), (.v (.one (.z (.bool (.fn 69 (.x (.var 1) .nil)))))), (.v (.one (.z (.bool (.not (.fn 69 (.x (.var 1) .nil))))))), (.v (.one (.z (.bool (.not (.fn 69 (.x (.var 1) .nil))))))), (.v (.one (.z (.ext [(.int .i64), (.int .i64)] (.var 0) false)))), (.v (.one (.via none 102 false [(.ext [(.int .i64), (.int .i64)] (.var 0) false)]))), (.v (.one (.z (.ext [(.int .i64), (.int .i64)] (.var 1) false)))), (.v (.one (.z (.clo 54 [(3, 0)]))))] ++ List.replicate 9 V.any) [] .skip .skip 4)), (4, (.dfd false)), (3, (.cells 74 [(.z (.ext [(.int .i64), (.int .i64)] (.var 1) false))])), (2, (.cells 137 [(.via none 102 false [(.ext [(.int .i64), (.int .i64)] (.var 0) false)])])), (1, (.cells 29 [(.z (.int .i64 (.lit 0)))])), (0, (.cells 4 [(.z (.bool (.lit false)))]))], 7, []⟩)]
def trPoHolds_j : List (FuncId × Nat × Nat × St) := [
]
set_option maxRecDepth 100000 in
theorem trPoHolds_is : T.norm 0 (call Tryz.prog ctE4 ⟨Lt.un (Lt.of []), trPoHolds_h, trPoHolds_j⟩ 100 190 (symArgs 0 [pts, pts]) [] 0) TT.ret = trPoHolds := by kernel_rfl
theorem trPoHolds_low : trPoHolds.low 1000 = true := by kernel_rfl
end Go.Proofs.YtldbejmgalhdaaaGreat
/- Chapter 07: poly.Holds. -/
namespace Go.Proofs.YtldbejmgalhdaaaGreat
open Go.RowKit
def hoN (p q : Rows) : Nat → Nat → Bool
  | 0, _ => true
  | f + 1, i => phB p (lg q i 0) (lg q i 1) (lg q (nxt q.length i) 0) (lg q (nxt q.length i) 1) && hoN p q f (i + 1)
def hoX (p q : Rows) : Bool := hoN p q q.length 0
def hoR (ds : List D) : Bool := touO ds && hoX (rAt ds 0) (rAt ds 1)
theorem K74b69 (W : World) (ds l : List D) : (envOf K74 W ds).fb 69 l = polyL l := by simp only [envOf, K74, K73, K72, K71, KI, KH, KG, KF, KE, KD, KC, KB]
theorem K74b117 (W : World) (ds l : List D) : (envOf K74 W ds).fb 117 l = phL l := by simp only [envOf, K74]
theorem ph_five (r : Rows) (a b c d : Int) : phL [.l r, .i a, .i b, .i c, .i d] = phB r a b c d := rfl
theorem gPoHolds : Gives Tryz.prog 190 [pts, pts] (fun ds => .tuple #[.bool (hoR ds), .int .i64 (touE ds)]) := by
  refine GivesIf.all (fn_gives K74 (by kernel_rfl) (fun ρ h => ctE4_ok (Sees.of h 118)) (by kernel_rfl) trPoHolds_is trPoHolds_low (by decide) (fun W vals ds hr _ => ?_))
  simp only [trPoHolds, TT.sat_ret, TT.sat_ite, TT.sat_ob, TT.sat_next, TT.sat_stuck, put_i, put_b, put_d, put_fi, put_fb, put_fd, Ob.ok, B.ev, E.ev, X.ev, AL.ev, cmp_t, cmp_f, arEv, V.plain, V2.plain, S.plain, S0.plain, V.val, V2.val, S.val, S0.val, bV, iV, List.all_cons, List.all_nil, Bool.and_true, Bool.and_self, envOf_i, envOf_b, envOf_d, List.map_cons, List.map_nil, true_and, Bool.not_eq_true', Bool.not_eq_false', Bool.not_not, Bool.and_eq_true, and_f, cell_lg, cell_lb, cell_lr, cmpP, val_i, val_b, val_d, aget, Nat.reduceBEq, beq_self_eq_true, Bool.false_eq_true, if_true, if_false, Nat.reduceLT, Nat.reduceSub, Nat.sub_self, Nat.lt_irrefl, K74b69, poly_one]
  have F : touO ds = false → Value.tuple #[.bool false, .int .i64 1] = Value.tuple #[.bool (hoR ds), .int .i64 (touE ds)] := fun h => by simp [hoR, touE, h]
  refine ⟨fun h => F ?_, fun h1 => ⟨fun h => F ?_, fun h2 => ?_⟩⟩
  · simp only [touO, h, Bool.false_and]
  · simp only [touO, h, Bool.and_false]
  have T : ∀ b, hoX (rAt ds 0) (rAt ds 1) = b → Value.tuple #[.bool b, .int .i64 0] = Value.tuple #[.bool (hoR ds), .int .i64 (touE ds)] := fun b h => by simp [hoR, touE, touO, h1, h2, h]
  clear F hr
  have l1 := polyB_len h1
  have l2 := polyB_len h2
  generalize hp : rAt ds 0 = p at *
  generalize hq : rAt ds 1 = q at *
  refine TT.sat_loop (fun v => ∃ i : Nat, v.i 0 = i ∧ i ≤ q.length ∧ hoN p q (q.length - i) i = hoX p q) (fun v => q.length - (v.i 0).toNat)
    ⟨0, by simp [val_i, aget, E.ev], by omega, rfl⟩ (fun v hv => ?_)
  obtain ⟨i, i0, i1, i2⟩ := hv
  simp only [TT.sat_ret, TT.sat_ite, TT.sat_ob, TT.sat_next, TT.sat_stuck, put_i, put_b, put_d, put_fi, put_fb, put_fd, Ob.ok, B.ev, E.ev, X.ev, AL.ev, cmp_t, cmp_f, arEv, V.plain, V2.plain, S.plain, S0.plain, V.val, V2.val, S.val, S0.val, bV, iV, List.all_cons, List.all_nil, Bool.and_true, Bool.and_self, envOf_i, envOf_b, envOf_d, List.map_cons, List.map_nil, true_and, Bool.not_eq_true', Bool.not_eq_false', Bool.not_not, Bool.and_eq_true, and_f, cell_lg, cell_lb, cell_lr, cmpP, val_i, val_b, val_d, aget, Nat.reduceBEq, beq_self_eq_true, Bool.false_eq_true, if_true, if_false, Nat.reduceLT, Nat.reduceSub, Nat.sub_self, Nat.lt_irrefl, i0, hp, hq, K74b117, ph_five]
  refine ⟨fun hc => ?_, fun hc => ?_⟩
  · have hi : i < q.length := by omega
    have hn := nxt_lt hi
    obtain ⟨f, hf⟩ : ∃ f, q.length - i = f + 1 := ⟨q.length - i - 1, by omega⟩
    rw [hf, hoN] at i2
    have hf' : q.length - (i + 1) = f := by omega
    rw [rem_next hi (by omega), wrap_in ((i : Int) + 1) (by omega) (by omega)]
    refine ⟨by omega, by omega, by omega, by omega, by omega, fun h => T _ ?_, fun h => ⟨⟨i + 1, rfl, by omega, ?_⟩, by omega⟩⟩
    · rw [← i2, h]; rfl
    · rw [hf', ← i2, h]; rfl
  · have : q.length - i = 0 := by omega
    rw [this, hoN] at i2
    exact T _ i2.symm
def K75 : Interp where
  fi n l := K74.fi n l
  fb n l := match n with | 118 => hoR l | n => K74.fb n l
  fd _ _ := []
theorem K75_K74 {ρ : Env} (h : Sees ρ K75 119) : Sees ρ K74 118 := h.trans (by decide) fun n l hn => by
  refine ⟨?_, ?_⟩
  ·
    rfl
  ·
    simp only [K75]
    split <;> first | omega | rfl
def cPoHolds := ctD [pts, pts] fun al => .ret (.tup [.one (sBF 118 hoR al), .one (sIF 112 touE al)])
theorem cPoHolds_ok {ρ : Env} (h : Sees ρ K75 119) : CtOne Tryz.prog ρ 190 cPoHolds :=
  ctD_ok gPoHolds (fun _ => rfl) (fun al => by simp only [V.val, V2.val, S.val, S0.val, sIF, sBF, List.map_cons, List.map_nil, bF_ev (s := 118) (f := hoR) (fun l => by rw [(h 118 l (by decide)).2]; simp only [K75]), iF_ev (s := 112) (f := touE) (fun l => by rw [(h 112 l (by decide)).1]; simp only [K75, K74, K73, K72])]; try rfl)
def ctE5 : Ct := (190, cPoHolds) :: ctE4
theorem ctE5_ok {ρ : Env} (h : Sees ρ K75 119) : CtOk Tryz.prog ρ ctE5 := .cons (cPoHolds_ok h) (ctE4_ok (K75_K74 h))
end Go.Proofs.YtldbejmgalhdaaaGreat
/- Chapter 07: common points of polygons and discs, no program. -/
namespace Go.Proofs.YtldbejmgalhdaaaGreat
open Go.RowKit
/-! ### Discs and polygons -/
end Go.Proofs.YtldbejmgalhdaaaGreat
