/- MD, merged: Cg0, Yk, TCg, Cg, TCh, Ch, TCi, Ci, TCj, Cj, TCk, Ck, Cl, TCm, Cm, TCn, Cn. -/
import Derived.Test.YtldbejmgalhdaaaGreatMC
import Derived.Test.YtldbejmgalhdaaaGreatMY
set_option linter.unusedSimpArgs false
set_option linter.unusedVariables false
/- Contracts that reckon where all is known; contracts of plane.turn and plane.on. -/
namespace Go.Proofs.YtldbejmgalhdaaaGreat
open Go.RowKit

mutual
def litX : X → Option Rows
  | .nil => some []
  | .row l => match litA l with | some a => some [a] | none => none
  | .app x y => match litX x, litX y with | some a, some b => some (a ++ b) | _, _ => none
  | _ => none
def litA : AL → Option (List D)
  | .nil => some []
  | .i (.lit n) r => match litA r with | some l => some (.i n :: l) | none => none
  | .b (.lit b) r => match litA r with | some l => some (.b b :: l) | none => none
  | .x x r => match litX x, litA r with | some a, some l => some (.l a :: l) | _, _ => none
  | _ => none
end
mutual
theorem litX_ev (ρ : Env) : ∀ (x : X) (r : Rows), litX x = some r → x.ev ρ = r
  | .nil, r, h => by simp only [litX, Option.some.injEq] at h; subst h; simp [X.ev]
  | .row l, r, h => by
    simp only [litX] at h
    split at h
    · rename_i a ha
      simp only [Option.some.injEq] at h; subst h
      simp only [X.ev, litA_ev ρ l a ha]
    · cases h
  | .app x y, r, h => by
    simp only [litX] at h
    split at h
    · rename_i a b ha hb
      simp only [Option.some.injEq] at h; subst h
      simp only [X.ev, litX_ev ρ x a ha, litX_ev ρ y b hb]
    · cases h
  | .var _, r, h => by simp [litX] at h
  | .rd _ _ _, r, h => by simp [litX] at h
  | .sub _ _ _, r, h => by simp [litX] at h
  | .upd _ _ _ _, r, h => by simp [litX] at h
  | .fn _ _, r, h => by simp [litX] at h
  | .rep _ _, r, h => by simp [litX] at h
theorem litA_ev (ρ : Env) : ∀ (a : AL) (l : List D), litA a = some l → a.ev ρ = l
  | .nil, l, h => by simp only [litA, Option.some.injEq] at h; subst h; simp [AL.ev]
  | .i e r, l, h => by
    cases e <;> simp only [litA, reduceCtorEq] at h
    split at h
    · rename_i m hm
      simp only [Option.some.injEq] at h; subst h
      simp only [AL.ev, E.ev, litA_ev ρ r m hm]
    · cases h
  | .b e r, l, h => by
    cases e <;> simp only [litA, reduceCtorEq] at h
    split at h
    · rename_i m hm
      simp only [Option.some.injEq] at h; subst h
      simp only [AL.ev, B.ev, litA_ev ρ r m hm]
    · cases h
  | .x x r, l, h => by
    simp only [litA] at h
    split at h
    · rename_i a m ha hm
      simp only [Option.some.injEq] at h; subst h
      simp only [AL.ev, litX_ev ρ x a ha, litA_ev ρ r m hm]
    · cases h
end
def bF (s : Nat) (f : List D → Bool) (al : AL) : B := match litA al with | some l => .lit (f l) | none => .fn s al
def iF (s : Nat) (f : List D → Int) (al : AL) : E := match litA al with | some l => .lit (f l) | none => .fn s al
theorem bF_ev {ρ : Env} {s : Nat} {f : List D → Bool} (h : ∀ l, ρ.fb s l = f l) (al : AL) : (bF s f al).ev ρ = f (al.ev ρ) := by
  unfold bF
  split
  · rename_i l hl; simp only [B.ev, litA_ev ρ al l hl]
  · simp only [B.ev, h]
theorem iF_ev {ρ : Env} {s : Nat} {f : List D → Int} (h : ∀ l, ρ.fi s l = f l) (al : AL) : (iF s f al).ev ρ = f (al.ev ρ) := by
  unfold iF
  split
  · rename_i l hl; simp only [E.ev, litA_ev ρ al l hl]
  · simp only [E.ev, h]
def sBF (s : Nat) (f : List D → Bool) (al : AL) : S := .z (.bool (bF s f al))
def sIF (s : Nat) (f : List D → Int) (al : AL) : S := .z (.int .i64 (iF s f al))

/-! ### plane.turn, plane.on: three valid places are asked for -/
def iniI : Interp := { fi := fun n l => match n with | 0 => turnL l | _ => 0, fb := fun n l => match n with | 1 => six6 l | 3 => placeL l | 4 => onL l | _ => false, fd := fun _ _ => [] }
def cTurn1 := ctD [pt, pt, pt] fun al => .ob (.tru (bF 1 six6 al)) (.ret (iV .i64 (iF 0 turnL al)))
def cOn1 := ctD [pt, pt, pt] fun al => .ob (.tru (bF 1 six6 al)) (.ret (bV (bF 4 onL al)))
theorem cTurn1_ok {ρ : Env} (h1 : ∀ l, ρ.fb 1 l = six6 l) (h0 : ∀ l, ρ.fi 0 l = turnL l) : CtOne Tryz.prog ρ 153 cTurn1 := by
  refine ctD_if gTurn0 (fun al v hv => ?_)
  obtain ⟨ho, hv⟩ := hv
  obtain rfl := res_ret hv
  have ho : (bF 1 six6 al).ev ρ = true := ho
  rw [bF_ev h1] at ho
  refine ⟨rfl, six_of ho, ?_⟩
  simp only [iV, V.s0, V.val, V2.val, S.val, S0.val, iF_ev h0, turnL]
theorem cOn1_ok {ρ : Env} (h1 : ∀ l, ρ.fb 1 l = six6 l) (h4 : ∀ l, ρ.fb 4 l = onL l) : CtOne Tryz.prog ρ 163 cOn1 := by
  refine ctD_if gOn0 (fun al v hv => ?_)
  obtain ⟨ho, hv⟩ := hv
  obtain rfl := res_ret hv
  have ho : (bF 1 six6 al).ev ρ = true := ho
  rw [bF_ev h1] at ho
  refine ⟨rfl, ho, ?_⟩
  simp only [bV, V.s0, V.val, V2.val, S.val, S0.val, bF_ev h4]
def ctM : Ct := [(153, cTurn1), (163, cOn1)]
theorem ctM_ok {ρ : Env} (h : ρ.has iniI) : CtOk Tryz.prog ρ ctM :=
  .cons (cTurn1_ok (fun l => by rw [h.2.1]; rfl) (fun l => by rw [h.1]; rfl)) <| .cons (cOn1_ok (fun l => by rw [h.2.1]; rfl) (fun l => by rw [h.2.1]; rfl)) .nil
end Go.Proofs.YtldbejmgalhdaaaGreat
/- A contract that answers with one new list of flat rows: its arguments may lie in the call's own memory, and what is spelt out is reckoned. -/
namespace Go.Proofs.YtldbejmgalhdaaaGreat
open Go.RowKit
def SeesD (ρ : Env) (I : Interp) (c : Nat) : Prop := ∀ n l, n < c → ρ.fd n l = I.fd n l
theorem SeesD.of {ρ : Env} {I : Interp} (h : ρ.has I) (c : Nat) : SeesD ρ I c := fun n l _ => by rw [h.2.2]
def dA : List D → Option AL
  | [] => some .nil
  | .i n :: r => (dA r).map (.i (.lit n))
  | .b x :: r => (dA r).map (.b (.lit x))
  | .l _ :: _ => none
def dX : Rows → Option X
  | [] => some .nil
  | r :: t => match dA r, dX t with | some a, some x => some (.app (.row a) x) | _, _ => none
theorem dA_ev (ρ : Env) : ∀ (r : List D) (a : AL), dA r = some a → a.ev ρ = r
  | [], a, h => by simp only [dA, Option.some.injEq] at h; subst h; simp [AL.ev]
  | .i n :: r, a, h => by
    simp only [dA, Option.map_eq_some_iff] at h
    obtain ⟨b, hb, rfl⟩ := h
    simp [AL.ev, E.ev, dA_ev ρ r b hb]
  | .b n :: r, a, h => by
    simp only [dA, Option.map_eq_some_iff] at h
    obtain ⟨b, hb, rfl⟩ := h
    simp [AL.ev, B.ev, dA_ev ρ r b hb]
  | .l _ :: _, a, h => by simp [dA] at h
theorem dX_ev (ρ : Env) : ∀ (r : Rows) (x : X), dX r = some x → x.ev ρ = r
  | [], x, h => by simp only [dX, Option.some.injEq] at h; subst h; simp [X.ev]
  | r :: t, x, h => by
    simp only [dX] at h
    split at h
    · rename_i a y ha hy
      simp only [Option.some.injEq] at h
      subst h
      simp [X.ev, dA_ev ρ r a ha, dX_ev ρ t y hy]
    · cases h
def dF (s : Nat) (f : List D → Rows) (al : AL) : X := match litA al with
  | some l => match dX (f l) with | some x => x | none => .fn s al
  | none => .fn s al
theorem dF_ev {ρ : Env} {s : Nat} {f : List D → Rows} (h : ∀ l, ρ.fd s l = f l) (al : AL) : (dF s f al).ev ρ = f (al.ev ρ) := by
  unfold dF
  split
  · rename_i l hl
    split
    · rename_i x hx
      rw [dX_ev ρ _ x hx, litA_ev ρ al l hl]
    · simp only [X.ev, h]
  · simp only [X.ev, h]
def cNew1 (sh : List Sh) (l : NL) (obs : AL → List Ob) (args : List V) (mem : Mem) (nx : Nat) : T OpR := match argsA mem sh args with
  | some al => .obs (obs al) (.ret (.s0 (.own nx (.lit 0)), [(nx, .own l.e l.ks (dF l.s l.rows al) (.lit 0))], nx + 1))
  | none => .stuck "new list"
theorem cNew1_ok {P : Program} {ρ : Env} {f : FuncId} {sh : List Sh} {l : NL} {ok : List D → Prop} (hg : GivesN P f sh [l] ok (fun _ _ vs u => ∃ v, vs = [v] ∧ u = v)) (hf : l.ks.all CK.flat = true) {obs : AL → List Ob}
    (hobs : ∀ al, (∀ o ∈ obs al, o.ok ρ) → ok (al.ev ρ)) (hs : ∀ a, ρ.fd l.s a = l.rows a) : CtOne P ρ f (cNew1 sh l obs) := by
  intro args mem nx q hq hle σ W vals hr hfr hd
  unfold cNew1 at hq
  split at hq
  · rename_i al ha
    obtain ⟨ho, hq⟩ := T.res_obs hq
    obtain rfl := res_ret hq
    have hc := hg W W vals (al.ev ρ) (Below.refl _ _) (argsA_ok hr sh args al ha vals hd) (hobs al ho)
    have hw : CallsIn Fence.wide 0 P f vals.toArray W _ := callsIn_wide.2 hc
    refine CallsIn.mono (F := FR none) hw ?_
    rintro en W' ⟨vs, u, rfl, ⟨v, rfl, rfl⟩, hb, hn⟩
    obtain ⟨xs, h1, h2, h3, ⟨a, c, rfl⟩, h5⟩ := hn.each 0 l _ rfl rfl
    have hnx := hfr nx (Nat.le_refl _) (Nat.lt_succ_self _)
    have hnone : ∀ k, σ.h nx k = .none := fun k => by
      cases hk : σ.h nx k with
      | none => rfl
      | some y => exact absurd (.inr ⟨k, y, hk⟩) hnx
    have hx := dF_ev (ρ := ρ) (s := l.s) (f := l.rows) hs al
    have hstep := step_say (ρ := ρ) (σ := σ) (W := W) (id := nx) (t := l.e) (ks := l.ks) (x := dF l.s l.rows al) (ver := .lit 0) (v := .slice .none 0 0) (W' := W') (xs := xs) (fun i a hi => hr.lt i a hi) (hnone _) (fun u _ => hnone u) hr.inj (fun k hk => by cases hk)
      (by
        rw [hx]
        exact ⟨h1.base hr.base.size, hb.os, hb.tape, hb.output, hb.size, fun k hk _ => hb.block k hk, fun k hk => .inr (h5 k hk), Keep.of_eq (fun k hk => hb.block k hk), a, c, rfl⟩)
      (by rw [hx]; exact fun i row hi => reps_flat hf (h2.2 i row hi)) (by rw [hx]; exact h3)
    exact ⟨_, _, rfl, ⟨⟨a, _, c, rfl⟩, As.say_self⟩, hstep, fun i hi => (say_has hi).imp (fun h => h) (fun h => ⟨by omega, by show i < nx + 1; omega⟩)⟩
  · exact hq.elim
def cNewT (sh : List Sh) (l : NL) (obs : AL → List Ob) (out : AL → Nat → V) (args : List V) (mem : Mem) (nx : Nat) : T OpR := match argsA mem sh args with
  | some al => .obs (obs al) (.ret (out al nx, [(nx, .own l.e l.ks (dF l.s l.rows al) (.lit 0))], nx + 1))
  | none => .stuck "new list"
theorem cNewT_ok {P : Program} {ρ : Env} {f : FuncId} {sh : List Sh} {l : NL} {ok : List D → Prop} {res : List D → Value → Value} (hg : GivesN P f sh [l] ok (fun _ ds vs u => ∃ v, vs = [v] ∧ u = res ds v)) (hf : l.ks.all CK.flat = true) {obs : AL → List Ob}
    (hobs : ∀ al, (∀ o ∈ obs al, o.ok ρ) → ok (al.ev ρ)) (hs : ∀ a, ρ.fd l.s a = l.rows a) {out : AL → Nat → V}
    (hout : ∀ (al : AL) (nx : Nat) (σ' : As) (v : Value), (S0.own nx (.lit 0)).den ρ σ' v → (out al nx).den ρ σ' (res (al.ev ρ) v)) : CtOne P ρ f (cNewT sh l obs out) := by
  intro args mem nx q hq hle σ W vals hr hfr hd
  unfold cNewT at hq
  split at hq
  · rename_i al ha
    obtain ⟨ho, hq⟩ := T.res_obs hq
    obtain rfl := res_ret hq
    have hc := hg W W vals (al.ev ρ) (Below.refl _ _) (argsA_ok hr sh args al ha vals hd) (hobs al ho)
    have hw : CallsIn Fence.wide 0 P f vals.toArray W _ := callsIn_wide.2 hc
    refine CallsIn.mono (F := FR none) hw ?_
    rintro en W' ⟨vs, u, rfl, ⟨v, rfl, rfl⟩, hb, hn⟩
    obtain ⟨xs, h1, h2, h3, ⟨a, c, rfl⟩, h5⟩ := hn.each 0 l _ rfl rfl
    have hnx := hfr nx (Nat.le_refl _) (Nat.lt_succ_self _)
    have hnone : ∀ k, σ.h nx k = .none := fun k => by
      cases hk : σ.h nx k with
      | none => rfl
      | some y => exact absurd (.inr ⟨k, y, hk⟩) hnx
    have hx := dF_ev (ρ := ρ) (s := l.s) (f := l.rows) hs al
    have hstep := step_say (ρ := ρ) (σ := σ) (W := W) (id := nx) (t := l.e) (ks := l.ks) (x := dF l.s l.rows al) (ver := .lit 0) (v := .slice .none 0 0) (W' := W') (xs := xs) (fun i a hi => hr.lt i a hi) (hnone _) (fun u _ => hnone u) hr.inj (fun k hk => by cases hk)
      (by
        rw [hx]
        exact ⟨h1.base hr.base.size, hb.os, hb.tape, hb.output, hb.size, fun k hk _ => hb.block k hk, fun k hk => .inr (h5 k hk), Keep.of_eq (fun k hk => hb.block k hk), a, c, rfl⟩)
      (by rw [hx]; exact fun i row hi => reps_flat hf (h2.2 i row hi)) (by rw [hx]; exact h3)
    exact ⟨_, _, rfl, hout al nx _ _ ⟨⟨a, _, c, rfl⟩, As.say_self⟩, hstep, fun i hi => (say_has hi).imp (fun h => h) (fun h => ⟨by omega, by show i < nx + 1; omega⟩)⟩
  · exact hq.elim
end Go.Proofs.YtldbejmgalhdaaaGreat
/- Chapter 38: the tree of plane.meet. -/
namespace Go.Proofs.YtldbejmgalhdaaaGreat
open Go.RowKit
-- term trMeet0: call Tryz.prog ctM (Lt.of []) 100 155 (symArgs 0 [pt, pt, pt, pt]) [] 0
def trMeet0 : TT OpR :=
(.ob (.tru (.fn 1 (.i (.var 0) (.i (.var 1) (.i (.var 2) (.i (.var 3) (.i (.var 4) (.i (.var 5) .nil))))))))
(.ob (.tru (.fn 1 (.i (.var 0) (.i (.var 1) (.i (.var 2) (.i (.var 3) (.i (.var 6) (.i (.var 7) .nil))))))))
(.ite (.cmp .lss (.ar .mul .i64 (.fn 0 (.i (.var 0) (.i (.var 1) (.i (.var 2) (.i (.var 3) (.i (.var 4) (.i (.var 5) .nil))))))) (.fn 0 (.i (.var 0) (.i (.var 1) (.i (.var 2) (.i (.var 3) (.i (.var 6) (.i (.var 7) .nil)))))))) (.lit 0))
 (.ob (.tru (.fn 1 (.i (.var 4) (.i (.var 5) (.i (.var 6) (.i (.var 7) (.i (.var 0) (.i (.var 1) .nil))))))))
 (.ob (.tru (.fn 1 (.i (.var 4) (.i (.var 5) (.i (.var 6) (.i (.var 7) (.i (.var 2) (.i (.var 3) .nil))))))))
 (.ite (.cmp .lss (.ar .mul .i64 (.fn 0 (.i (.var 4) (.i (.var 5) (.i (.var 6) (.i (.var 7) (.i (.var 0) (.i (.var 1) .nil))))))) (.fn 0 (.i (.var 4) (.i (.var 5) (.i (.var 6) (.i (.var 7) (.i (.var 2) (.i (.var 3) .nil)))))))) (.lit 0))
 (.ret ((.v (.one (.z (.bool (.lit true))))), [], 4))
 (.ob (.tru (.fn 1 (.i (.var 0) (.i (.var 1) (.i (.var 4) (.i (.var 5) (.i (.var 6) (.i (.var 7) .nil))))))))
 (.ite (.fn 4 (.i (.var 0) (.i (.var 1) (.i (.var 4) (.i (.var 5) (.i (.var 6) (.i (.var 7) .nil)))))))
 (.ret ((.v (.one (.z (.bool (.lit true))))), [], 4))
 (.ob (.tru (.fn 1 (.i (.var 2) (.i (.var 3) (.i (.var 4) (.i (.var 5) (.i (.var 6) (.i (.var 7) .nil))))))))
 (.ite (.fn 4 (.i (.var 2) (.i (.var 3) (.i (.var 4) (.i (.var 5) (.i (.var 6) (.i (.var 7) .nil)))))))
 (.ret ((.v (.one (.z (.bool (.lit true))))), [], 4))
 (.ob (.tru (.fn 1 (.i (.var 4) (.i (.var 5) (.i (.var 0) (.i (.var 1) (.i (.var 2) (.i (.var 3) .nil))))))))
 (.ite (.fn 4 (.i (.var 4) (.i (.var 5) (.i (.var 0) (.i (.var 1) (.i (.var 2) (.i (.var 3) .nil)))))))
 (.ret ((.v (.one (.z (.bool (.lit true))))), [], 4))
 (.ob (.tru (.fn 1 (.i (.var 6) (.i (.var 7) (.i (.var 0) (.i (.var 1) (.i (.var 2) (.i (.var 3) .nil))))))))
 (.ret ((.v (.one (.z (.bool (.fn 4 (.i (.var 6) (.i (.var 7) (.i (.var 0) (.i (.var 1) (.i (.var 2) (.i (.var 3) .nil))))))))))), [], 4))))))))))))
 (.ob (.tru (.fn 1 (.i (.var 0) (.i (.var 1) (.i (.var 4) (.i (.var 5) (.i (.var 6) (.i (.var 7) .nil))))))))
 (.ite (.fn 4 (.i (.var 0) (.i (.var 1) (.i (.var 4) (.i (.var 5) (.i (.var 6) (.i (.var 7) .nil)))))))
 (.ret ((.v (.one (.z (.bool (.lit true))))), [], 4))
 (.ob (.tru (.fn 1 (.i (.var 2) (.i (.var 3) (.i (.var 4) (.i (.var 5) (.i (.var 6) (.i (.var 7) .nil))))))))
 (.ite (.fn 4 (.i (.var 2) (.i (.var 3) (.i (.var 4) (.i (.var 5) (.i (.var 6) (.i (.var 7) .nil)))))))
 (.ret ((.v (.one (.z (.bool (.lit true))))), [], 4))
 (.ob (.tru (.fn 1 (.i (.var 4) (.i (.var 5) (.i (.var 0) (.i (.var 1) (.i (.var 2) (.i (.var 3) .nil))))))))
 (.ite (.fn 4 (.i (.var 4) (.i (.var 5) (.i (.var 0) (.i (.var 1) (.i (.var 2) (.i (.var 3) .nil)))))))
 (.ret ((.v (.one (.z (.bool (.lit true))))), [], 4))
 (.ob (.tru (.fn 1 (.i (.var 6) (.i (.var 7) (.i (.var 0) (.i (.var 1) (.i (.var 2) (.i (.var 3) .nil))))))))
 (.ret ((.v (.one (.z (.bool (.fn 4 (.i (.var 6) (.i (.var 7) (.i (.var 0) (.i (.var 1) (.i (.var 2) (.i (.var 3) .nil))))))))))), [], 4))))))))))))
-- end trMeet0
set_option maxRecDepth 100000 in
theorem trMeet0_is : T.norm 0 (call Tryz.prog ctM (Lt.of []) 100 155 (symArgs 0 [pt, pt, pt, pt]) [] 0) TT.ret = trMeet0 := by kernel_rfl
theorem trMeet0_low : trMeet0.low 1000 = true := by kernel_rfl
end Go.Proofs.YtldbejmgalhdaaaGreat
/- Chapter 38: what plane.meet computes; contracts for the exported functions of package plane. -/
namespace Go.Proofs.YtldbejmgalhdaaaGreat
open Go.RowKit

def meetB (ax ay bx by' cx cy dx dy : Int) : Bool :=
  decide (turnI ax ay bx by' cx cy * turnI ax ay bx by' dx dy < 0 ∧ turnI cx cy dx dy ax ay * turnI cx cy dx dy bx by' < 0) ||
  (onB ax ay cx cy dx dy || (onB bx by' cx cy dx dy || (onB cx cy ax ay bx by' || onB dx dy ax ay bx by')))
def meetL (ds : List D) : Bool := meetB (iAt ds 0) (iAt ds 1) (iAt ds 2) (iAt ds 3) (iAt ds 4) (iAt ds 5) (iAt ds 6) (iAt ds 7)
def eight (ds : List D) : Bool := placeB (iAt ds 0) (iAt ds 1) && (placeB (iAt ds 2) (iAt ds 3) && (placeB (iAt ds 4) (iAt ds 5) && placeB (iAt ds 6) (iAt ds 7)))
theorem sgn_le (n : Int) : -1 ≤ sgn n ∧ sgn n ≤ 1 := by unfold sgn; split <;> (try split) <;> omega
theorem on_six (a b c d e f : Int) : onL [.i a, .i b, .i c, .i d, .i e, .i f] = onB a b c d e f := rfl
theorem iniI_1 (W : World) (ds l : List D) : (envOf iniI W ds).fb 1 l = six6 l := rfl
theorem iniI_4 (W : World) (ds l : List D) : (envOf iniI W ds).fb 4 l = onL l := rfl
theorem iniI_0 (W : World) (ds l : List D) : (envOf iniI W ds).fi 0 l = turnL l := rfl
theorem w_sgn (a b : Int) : IntKind.i64.wrap (sgn a * sgn b) = sgn a * sgn b := by
  have h1 := sgn_le a
  have h2 := sgn_le b
  have := mul_abs (a := sgn a) (b := sgn b) (A := 1) (B := 1) (by omega) (by omega) (by omega) (by omega)
  exact wrap_in _ (by omega) (by omega)
theorem w_turn (a b c d e f a' b' c' d' e' f' : Int) : IntKind.i64.wrap (turnI a b c d e f * turnI a' b' c' d' e' f') = turnI a b c d e f * turnI a' b' c' d' e' f' := w_sgn _ _
theorem gMeet0 : GivesIf Tryz.prog 155 [pt, pt, pt, pt] (fun ds => eight ds = true) (fun ds => .bool (meetL ds)) := by
  refine fn_gives iniI (by kernel_rfl) (fun ρ h => ctM_ok h) (by kernel_rfl) trMeet0_is trMeet0_low (by decide) (fun W vals ds _ hok => ?_)
  simp only [eight, Bool.and_eq_true] at hok
  obtain ⟨p1, p2, p3, p4⟩ := hok
  simp only [trMeet0, TT.sat_ret, TT.sat_ite, TT.sat_ob, Ob.ok, B.ev, E.ev, AL.ev, cmp_t, cmp_f, arEv, V.plain, V2.plain, S.plain, S0.plain, V.val, V2.val, S.val, S0.val, envOf_i, true_and, Bool.and_eq_true, cmpP, iniI_1, iniI_4, iniI_0, six_six, turn_six, on_six]
  simp only [p1, p2, p3, p4, and_self, true_and, w_turn]
  simp only [meetL, meetB]
  generalize onB (iAt ds 0) (iAt ds 1) (iAt ds 4) (iAt ds 5) (iAt ds 6) (iAt ds 7) = o1
  generalize onB (iAt ds 2) (iAt ds 3) (iAt ds 4) (iAt ds 5) (iAt ds 6) (iAt ds 7) = o2
  generalize onB (iAt ds 4) (iAt ds 5) (iAt ds 0) (iAt ds 1) (iAt ds 2) (iAt ds 3) = o3
  generalize onB (iAt ds 6) (iAt ds 7) (iAt ds 0) (iAt ds 1) (iAt ds 2) (iAt ds 3) = o4
  refine ⟨fun h => ⟨fun h' => ?_, fun h' => ?_⟩, fun h => ?_⟩
  · rw [decide_eq_true ⟨h, h'⟩]; rfl
  · rw [decide_eq_false (fun q => h' q.2)]
    cases o1 <;> cases o2 <;> cases o3 <;> cases o4 <;> simp
  · rw [decide_eq_false (fun q => h q.1)]
    cases o1 <;> cases o2 <;> cases o3 <;> cases o4 <;> simp

/-! ### Contracts for plane.Close -/
def cMeet1 := ctD [pt, pt, pt, pt] fun al => .ob (.tru (bF 5 eight al)) (.ret (bV (bF 6 meetL al)))
def cPlace1 := ctD [pt] fun al => .ret (bV (bF 3 placeL al))
theorem cMeet1_ok {ρ : Env} (h5 : ∀ l, ρ.fb 5 l = eight l) (h6 : ∀ l, ρ.fb 6 l = meetL l) : CtOne Tryz.prog ρ 155 cMeet1 := by
  refine ctD_if gMeet0 (fun al v hv => ?_)
  obtain ⟨ho, hv⟩ := hv
  obtain rfl := res_ret hv
  have ho : (bF 5 eight al).ev ρ = true := ho
  rw [bF_ev h5] at ho
  refine ⟨rfl, ho, ?_⟩
  simp only [bV, V.s0, V.val, V2.val, S.val, S0.val, bF_ev h6]
theorem cPlace1_ok {ρ : Env} (h : ∀ l, ρ.fb 3 l = placeL l) : CtOne Tryz.prog ρ 54 cPlace1 :=
  ctD_ok gValid (fun _ => rfl) (fun al => by simp only [bV, V.s0, V.val, V2.val, S.val, S0.val, bF_ev h, placeL])
end Go.Proofs.YtldbejmgalhdaaaGreat
/- Chapter 38: the tree of plane.Close. -/
namespace Go.Proofs.YtldbejmgalhdaaaGreat
open Go.RowKit
end Go.Proofs.YtldbejmgalhdaaaGreat
/- Chapter 38: what plane.Close answers; contracts of plane and passage that reckon; the law's head. -/
namespace Go.Proofs.YtldbejmgalhdaaaGreat
open Go.RowKit

def closeB (ax ay bx by' cx cy dx dy r : Int) : Bool :=
  meetB ax ay bx by' cx cy dx dy || (nearB ax ay cx cy dx dy r || (nearB bx by' cx cy dx dy r || (nearB cx cy ax ay bx by' r || nearB dx dy ax ay bx by' r)))
def closeL (ds : List D) : Bool := closeB (iAt ds 0) (iAt ds 1) (iAt ds 2) (iAt ds 3) (iAt ds 4) (iAt ds 5) (iAt ds 6) (iAt ds 7) (iAt ds 8)
theorem eight_eight (a b c d e f g h : Int) : eight [.i a, .i b, .i c, .i d, .i e, .i f, .i g, .i h] = (placeB a b && (placeB c d && (placeB e f && placeB g h))) := rfl
theorem meet_eight (a b c d e f g h : Int) : meetL [.i a, .i b, .i c, .i d, .i e, .i f, .i g, .i h] = meetB a b c d e f g h := by
  unfold meetL iAt; simp only [List.getD_cons_zero, List.getD_cons_succ, D.int]
def closeOk (ds : List D) : Bool := eight ds && distB (iAt ds 8)
/-! ### Contracts of plane's exported functions, that reckon -/
def nearO (ds : List D) : Bool := six6 ds && distB (iAt ds 6)
def nearR (ds : List D) : Bool := nearO ds && nearL ds
def nearE (ds : List D) : Int := if nearO ds then 0 else 1
def closeR (ds : List D) : Bool := closeOk ds && closeL ds
def closeE (ds : List D) : Int := if closeOk ds then 0 else 1
def turnR (ds : List D) : Int := if six6 ds then turnL ds else 0
def turnE (ds : List D) : Int := if six6 ds then 0 else 1
/-! What passage's functions answer, part by part -/
def arrO (ds : List D) : Bool := psgB (iAt ds 0) (iAt ds 1) (iAt ds 2) (rAt ds 3) && decide (0 ≤ iAt ds 4 ∧ iAt ds 4 ≤ (rAt ds 3).length)
def arrX (ds : List D) : Bool := arrO ds && !decide (10000000 < tHi (rAt ds 3) (iAt ds 1) (iAt ds 4).toNat)
def arrL (ds : List D) : Int := if arrX ds then tLo (rAt ds 3) (iAt ds 0) (iAt ds 4).toNat else 0
def arrH (ds : List D) : Int := if arrX ds then tHi (rAt ds 3) (iAt ds 1) (iAt ds 4).toNat else 0
def arrE (ds : List D) : Int := if arrO ds then (if arrX ds then 0 else 3) else 1
def durO (ds : List D) : Bool := psgB (iAt ds 0) (iAt ds 1) (iAt ds 2) (rAt ds 3) && decide (0 ≤ iAt ds 4 ∧ iAt ds 4 < (rAt ds 3).length)
def durX (ds : List D) : Bool := durO ds && !decide (10000000 < tHi (rAt ds 3) (iAt ds 1) ((iAt ds 4).toNat + 1))
def durL (ds : List D) : Int := if durX ds then tLo (rAt ds 3) (iAt ds 0) (iAt ds 4).toNat else 0
def durH (ds : List D) : Int := if durX ds then tHi (rAt ds 3) (iAt ds 1) ((iAt ds 4).toNat + 1) else 0
def durE (ds : List D) : Int := if durO ds then (if durX ds then 0 else 3) else 1
def restK (ds : List D) : Int := (restI ds).1
def restE (ds : List D) : Int := (restI ds).2
def K : Interp where
  fi n l := match n with | 0 => turnL l | 10 => distIL l | 11 => distIH l | 12 => distIE l | 13 => nearE l | 14 => closeE l | 15 => turnR l | 16 => turnE l | 21 => arrL l | 22 => arrH l | 23 => arrE l | 24 => durL l | 25 => durH l | 26 => durE l | 27 => restK l | 28 => restE l | _ => 0
  fb n l := match n with | 0 => mostB l | 1 => six6 l | 2 => nearL l | 3 => placeL l | 4 => onL l | 5 => eight l | 6 => meetL l | 7 => nearR l | 8 => closeR l | 20 => psgL l | _ => false
  fd _ _ := []
def cNearA := ctD [pt, pt, pt, it] fun al => .ret (.tup [.one (sBF 7 nearR al), .one (sIF 13 nearE al)])
def cTurnA := ctD [pt, pt, pt] fun al => .ret (.tup [.one (sIF 15 turnR al), .one (sIF 16 turnE al)])
def Sees (ρ : Env) (I : Interp) (c : Nat) : Prop := ∀ n l, n < c → ρ.fi n l = I.fi n l ∧ ρ.fb n l = I.fb n l
theorem Sees.of {ρ : Env} {I : Interp} (h : ρ.has I) (c : Nat) : Sees ρ I c := fun n l _ => by rw [h.1, h.2.1]; exact ⟨rfl, rfl⟩
theorem Sees.trans {ρ : Env} {I J : Interp} {c d : Nat} (h : Sees ρ I c) (hd : d ≤ c) (hj : ∀ n l, n < d → I.fi n l = J.fi n l ∧ I.fb n l = J.fb n l) : Sees ρ J d :=
  fun n l hn => ⟨(h n l (Nat.lt_of_lt_of_le hn hd)).1.trans (hj n l hn).1, (h n l (Nat.lt_of_lt_of_le hn hd)).2.trans (hj n l hn).2⟩
section
variable {ρ : Env} (h : Sees ρ K 30)
include h
theorem cNearA_ok : CtOne Tryz.prog ρ 193 cNearA :=
  ctD_ok gNear (fun _ => rfl) (fun al => by
    simp only [V.val, V2.val, S.val, S0.val, sIF, sBF, List.map_cons, List.map_nil, bF_ev (s := 7) (f := nearR) (fun l => by rw [(h 7 l (by decide)).2]; simp only [K]), iF_ev (s := 13) (f := nearE) (fun l => by rw [(h 13 l (by decide)).1]; simp only [K])]; rfl)
end
end Go.Proofs.YtldbejmgalhdaaaGreat
/- Chapter 38: the tree of span.Valid. -/
namespace Go.Proofs.YtldbejmgalhdaaaGreat
open Go.RowKit
def sp : Sh := .agg [.int .i64, .int .i64]
def bx : Sh := .agg [.int .i64, .int .i64, .int .i64, .int .i64]
end Go.Proofs.YtldbejmgalhdaaaGreat
/- Chapter 38: span.Valid. -/
namespace Go.Proofs.YtldbejmgalhdaaaGreat
open Go.RowKit
def spanB (a b : Int) : Bool := decide (-1000000000000 ≤ a ∧ a ≤ b ∧ b ≤ 1000000000000)
def spanL (ds : List D) : Bool := spanB (iAt ds 0) (iAt ds 1)
end Go.Proofs.YtldbejmgalhdaaaGreat
/- Chapter 38: the tree of span.ValidBox. -/
namespace Go.Proofs.YtldbejmgalhdaaaGreat
open Go.RowKit
end Go.Proofs.YtldbejmgalhdaaaGreat
/- Chapter 38: span.ValidBox. -/
namespace Go.Proofs.YtldbejmgalhdaaaGreat
open Go.RowKit
def boxB (a b c d : Int) : Bool := decide ((-1000000 ≤ a ∧ a ≤ b ∧ b ≤ 1000000) ∧ -1000000 ≤ c ∧ c ≤ d ∧ d ≤ 1000000)
def boxL (ds : List D) : Bool := boxB (iAt ds 0) (iAt ds 1) (iAt ds 2) (iAt ds 3)
end Go.Proofs.YtldbejmgalhdaaaGreat
/- Chapter 38: trees of span's boxes. -/
namespace Go.Proofs.YtldbejmgalhdaaaGreat
open Go.RowKit
end Go.Proofs.YtldbejmgalhdaaaGreat
/- Chapter 38: span.JoinBox, MeetBox, GrowBox. -/
namespace Go.Proofs.YtldbejmgalhdaaaGreat
open Go.RowKit
def box8 (ds : List D) : Bool := boxB (iAt ds 0) (iAt ds 1) (iAt ds 2) (iAt ds 3) && boxB (iAt ds 4) (iAt ds 5) (iAt ds 6) (iAt ds 7)
def meetOn (ds : List D) : Bool := decide (max (iAt ds 0) (iAt ds 4) ≤ min (iAt ds 1) (iAt ds 5) ∧ max (iAt ds 2) (iAt ds 6) ≤ min (iAt ds 3) (iAt ds 7))
end Go.Proofs.YtldbejmgalhdaaaGreat
/- Chapter 38: contracts of span's boxes; all symbols so far. -/
namespace Go.Proofs.YtldbejmgalhdaaaGreat
open Go.RowKit
def uniA (ds : List D) : Int := if box8 ds then min (iAt ds 0) (iAt ds 4) else 0
def uniB (ds : List D) : Int := if box8 ds then max (iAt ds 1) (iAt ds 5) else 0
def uniC (ds : List D) : Int := if box8 ds then min (iAt ds 2) (iAt ds 6) else 0
def uniD (ds : List D) : Int := if box8 ds then max (iAt ds 3) (iAt ds 7) else 0
def uniE (ds : List D) : Int := if box8 ds then 0 else 1
def meet8 (ds : List D) : Bool := box8 ds && meetOn ds
def meetA (ds : List D) : Int := if meet8 ds then max (iAt ds 0) (iAt ds 4) else 0
def meetBB (ds : List D) : Int := if meet8 ds then min (iAt ds 1) (iAt ds 5) else 0
def meetC (ds : List D) : Int := if meet8 ds then max (iAt ds 2) (iAt ds 6) else 0
def meetD (ds : List D) : Int := if meet8 ds then min (iAt ds 3) (iAt ds 7) else 0
def meetE (ds : List D) : Int := if meet8 ds then 0 else if box8 ds then 4 else 1
def growO (ds : List D) : Bool := boxB (iAt ds 0) (iAt ds 1) (iAt ds 2) (iAt ds 3) && decide (0 ≤ iAt ds 4 ∧ iAt ds 4 ≤ 3000000)
def growX (ds : List D) : Bool := growO ds && boxB (iAt ds 0 - iAt ds 4) (iAt ds 1 + iAt ds 4) (iAt ds 2 - iAt ds 4) (iAt ds 3 + iAt ds 4)
def growA (ds : List D) : Int := if growX ds then iAt ds 0 - iAt ds 4 else 0
def growB (ds : List D) : Int := if growX ds then iAt ds 1 + iAt ds 4 else 0
def growC (ds : List D) : Int := if growX ds then iAt ds 2 - iAt ds 4 else 0
def growD (ds : List D) : Int := if growX ds then iAt ds 3 + iAt ds 4 else 0
def growE (ds : List D) : Int := if growX ds then 0 else if growO ds then 3 else 1
def K5 : Interp where
  fi n l := match n with | 32 => uniA l | 33 => uniB l | 34 => uniC l | 35 => uniD l | 36 => uniE l | 37 => meetA l | 38 => meetBB l | 39 => meetC l | 40 => meetD l | 41 => meetE l | 42 => growA l | 43 => growB l | 44 => growC l | 45 => growD l | 46 => growE l | n => K.fi n l
  fb n l := match n with | 30 => spanL l | 31 => boxL l | n => K.fb n l
  fd _ _ := []
section
variable {ρ : Env} (h : Sees ρ K5 50)
include h
end
end Go.Proofs.YtldbejmgalhdaaaGreat
/- Chapter 38: trees of span.WithinBox, InBox; passage.Zone, Holds, Concerns. -/
namespace Go.Proofs.YtldbejmgalhdaaaGreat
open Go.RowKit
end Go.Proofs.YtldbejmgalhdaaaGreat
/- Chapter 38: span.WithinBox; passage.Zone, Holds. -/
namespace Go.Proofs.YtldbejmgalhdaaaGreat
open Go.RowKit
section
variable (W : World) (ds l : List D)
end
/-! ### Is a box in another one? -/
def withinR (ds : List D) : Bool := box8 ds && decide (iAt ds 4 ≤ iAt ds 0 ∧ iAt ds 1 ≤ iAt ds 5 ∧ iAt ds 6 ≤ iAt ds 2 ∧ iAt ds 3 ≤ iAt ds 7)
/-! ### The zone of a leg -/
def zoneO (ds : List D) : Bool := psgB (iAt ds 0) (iAt ds 1) (iAt ds 2) (rAt ds 3) && decide (0 ≤ iAt ds 4 ∧ iAt ds 4 < (rAt ds 3).length)
def zoneL (ds : List D) : List D := [.i (min (lg (rAt ds 3) (iAt ds 4) 0) (lg (rAt ds 3) (iAt ds 4) 2)), .i (max (lg (rAt ds 3) (iAt ds 4) 0) (lg (rAt ds 3) (iAt ds 4) 2)), .i (min (lg (rAt ds 3) (iAt ds 4) 1) (lg (rAt ds 3) (iAt ds 4) 3)), .i (max (lg (rAt ds 3) (iAt ds 4) 1) (lg (rAt ds 3) (iAt ds 4) 3)), .i (iAt ds 2)]
/-! ### Can the ship be there? -/
def holdsR (ds : List D) : Bool := placeB (iAt ds 6) (iAt ds 7) && timeB (iAt ds 5) && decide (durE ds = 0) && nearR [.i (iAt ds 6), .i (iAt ds 7), .i (lg (rAt ds 3) (iAt ds 4) 0), .i (lg (rAt ds 3) (iAt ds 4) 1), .i (lg (rAt ds 3) (iAt ds 4) 2), .i (lg (rAt ds 3) (iAt ds 4) 3), .i (iAt ds 2)] && decide (durL ds ≤ iAt ds 5 ∧ iAt ds 5 ≤ durH ds)
def holdsE (ds : List D) : Int := if placeB (iAt ds 6) (iAt ds 7) && timeB (iAt ds 5) then durE ds else 1
/-! ### Contracts -/
def zoneA (ds : List D) : Int := if zoneO ds then growA (zoneL ds) else 0
def zoneB (ds : List D) : Int := if zoneO ds then growB (zoneL ds) else 0
def zoneC (ds : List D) : Int := if zoneO ds then growC (zoneL ds) else 0
def zoneD (ds : List D) : Int := if zoneO ds then growD (zoneL ds) else 0
def zoneE (ds : List D) : Int := if zoneO ds then growE (zoneL ds) else 1
def K6 : Interp where
  fi n l := match n with | 53 => holdsE l | 54 => zoneA l | 55 => zoneB l | 56 => zoneC l | 57 => zoneD l | 58 => zoneE l | n => K5.fi n l
  fb n l := match n with | 51 => withinR l | 52 => holdsR l | n => K5.fb n l
  fd _ _ := []
section
variable {ρ : Env} (h : Sees ρ K6 60)
include h
end
end Go.Proofs.YtldbejmgalhdaaaGreat
/- Chapter 38: the tree of passage.Concerns. -/
namespace Go.Proofs.YtldbejmgalhdaaaGreat
open Go.RowKit
end Go.Proofs.YtldbejmgalhdaaaGreat
/- Chapter 38: passage.Concerns. -/
namespace Go.Proofs.YtldbejmgalhdaaaGreat
open Go.RowKit
section
variable (W : World) (ds l : List D)
end
def legCon (r : Rows) (i a b c d off : Int) : Bool :=
  withinR [.i (lg r i 0), .i (lg r i 0), .i (lg r i 1), .i (lg r i 1), .i a, .i b, .i c, .i d] || (closeR [.i (lg r i 0), .i (lg r i 1), .i (lg r i 2), .i (lg r i 3), .i a, .i d, .i a, .i c, .i off] || (closeR [.i (lg r i 0), .i (lg r i 1), .i (lg r i 2), .i (lg r i 3), .i a, .i c, .i b, .i c, .i off] || (closeR [.i (lg r i 0), .i (lg r i 1), .i (lg r i 2), .i (lg r i 3), .i b, .i c, .i b, .i d, .i off] || closeR [.i (lg r i 0), .i (lg r i 1), .i (lg r i 2), .i (lg r i 3), .i b, .i d, .i a, .i d, .i off])))
def conFrom (r : Rows) (a b c d off : Int) : Nat → Nat → Bool
  | 0, _ => false
  | f + 1, j => legCon r j a b c d off || conFrom r a b c d off f (j + 1)
def conO (ds : List D) : Bool := psgB (iAt ds 0) (iAt ds 1) (iAt ds 2) (rAt ds 3) && boxB (iAt ds 4) (iAt ds 5) (iAt ds 6) (iAt ds 7) && decide (0 ≤ iAt ds 8 ∧ iAt ds 8 ≤ (rAt ds 3).length)
def conR (ds : List D) : Bool := conO ds && conFrom (rAt ds 3) (iAt ds 4) (iAt ds 5) (iAt ds 6) (iAt ds 7) (iAt ds 2) ((rAt ds 3).length - (iAt ds 8).toNat) (iAt ds 8).toNat
def conE (ds : List D) : Int := if conO ds then 0 else 1
def K7 : Interp where
  fi n l := match n with | 60 => conE l | n => K6.fi n l
  fb n l := match n with | 60 => conR l | n => K6.fb n l
  fd _ _ := []
section
variable {ρ : Env} (h : Sees ρ K7 61)
include h
end
end Go.Proofs.YtldbejmgalhdaaaGreat
