/- MD, merged: Cg0, TCg, Cg, TCh, Ch, TCi, Ci, TCj, Cj, TCk, Ck, Cl, TCm, Cm, TCn, Cn. -/
import Derived.Test.YtkjjkckcjgkhmaaGreatMC
set_option linter.unusedSimpArgs false
set_option linter.unusedVariables false
/- Contracts that reckon where all is known; contracts of plane.turn and plane.on. -/
namespace Go.Proofs.YtkjjkckcjgkhmaaGreat
open Go.RowKit

mutual
def litX : X → Option Rows
  | .nil => some []
  | .row l => match litA l with | some a => some [a] | none => none
  | .app x y => match litX x, litX y with | some a, some b => some (a ++ b) | _, _ => none
  | _ => none
def litA : AL → Option (List D)
  | .nil => some []
  | .i (.lit n) r => match litA r with | some l => some (.i n :: l) | none => none
  | .b (.lit b) r => match litA r with | some l => some (.b b :: l) | none => none
  | .x x r => match litX x, litA r with | some a, some l => some (.l a :: l) | _, _ => none
  | _ => none
end
mutual
theorem litX_ev (ρ : Env) : ∀ (x : X) (r : Rows), litX x = some r → x.ev ρ = r
  | .nil, r, h => by simp only [litX, Option.some.injEq] at h; subst h; simp [X.ev]
  | .row l, r, h => by
    simp only [litX] at h
    split at h
    · rename_i a ha
      simp only [Option.some.injEq] at h; subst h
      simp only [X.ev, litA_ev ρ l a ha]
    · cases h
  | .app x y, r, h => by
    simp only [litX] at h
    split at h
    · rename_i a b ha hb
      simp only [Option.some.injEq] at h; subst h
      simp only [X.ev, litX_ev ρ x a ha, litX_ev ρ y b hb]
    · cases h
  | .var _, r, h => by simp [litX] at h
  | .rd _ _ _, r, h => by simp [litX] at h
  | .sub _ _ _, r, h => by simp [litX] at h
  | .upd _ _ _ _, r, h => by simp [litX] at h
  | .fn _ _, r, h => by simp [litX] at h
theorem litA_ev (ρ : Env) : ∀ (a : AL) (l : List D), litA a = some l → a.ev ρ = l
  | .nil, l, h => by simp only [litA, Option.some.injEq] at h; subst h; simp [AL.ev]
  | .i e r, l, h => by
    cases e <;> simp only [litA, reduceCtorEq] at h
    split at h
    · rename_i m hm
      simp only [Option.some.injEq] at h; subst h
      simp only [AL.ev, E.ev, litA_ev ρ r m hm]
    · cases h
  | .b e r, l, h => by
    cases e <;> simp only [litA, reduceCtorEq] at h
    split at h
    · rename_i m hm
      simp only [Option.some.injEq] at h; subst h
      simp only [AL.ev, B.ev, litA_ev ρ r m hm]
    · cases h
  | .x x r, l, h => by
    simp only [litA] at h
    split at h
    · rename_i a m ha hm
      simp only [Option.some.injEq] at h; subst h
      simp only [AL.ev, litX_ev ρ x a ha, litA_ev ρ r m hm]
    · cases h
end
def bF (s : Nat) (f : List D → Bool) (al : AL) : B := match litA al with | some l => .lit (f l) | none => .fn s al
def iF (s : Nat) (f : List D → Int) (al : AL) : E := match litA al with | some l => .lit (f l) | none => .fn s al
theorem bF_ev {ρ : Env} {s : Nat} {f : List D → Bool} (h : ∀ l, ρ.fb s l = f l) (al : AL) : (bF s f al).ev ρ = f (al.ev ρ) := by
  unfold bF
  split
  · rename_i l hl; simp only [B.ev, litA_ev ρ al l hl]
  · simp only [B.ev, h]
theorem iF_ev {ρ : Env} {s : Nat} {f : List D → Int} (h : ∀ l, ρ.fi s l = f l) (al : AL) : (iF s f al).ev ρ = f (al.ev ρ) := by
  unfold iF
  split
  · rename_i l hl; simp only [E.ev, litA_ev ρ al l hl]
  · simp only [E.ev, h]
def sBF (s : Nat) (f : List D → Bool) (al : AL) : S := .z (.bool (bF s f al))
def sIF (s : Nat) (f : List D → Int) (al : AL) : S := .z (.int .i64 (iF s f al))

/-! ### plane.turn, plane.on: three valid places are asked for -/
def iniI : Interp := { fi := fun n l => match n with | 0 => turnL l | _ => 0, fb := fun n l => match n with | 1 => six6 l | 3 => placeL l | 4 => onL l | _ => false, fd := fun _ _ => [] }
def cTurn1 := ctD [pt, pt, pt] fun al => .ob (.tru (bF 1 six6 al)) (.ret (iV .i64 (iF 0 turnL al)))
def cOn1 := ctD [pt, pt, pt] fun al => .ob (.tru (bF 1 six6 al)) (.ret (bV (bF 4 onL al)))
theorem cTurn1_ok {ρ : Env} (h1 : ∀ l, ρ.fb 1 l = six6 l) (h0 : ∀ l, ρ.fi 0 l = turnL l) : CtOne Tryz.prog ρ 246 cTurn1 := by
  refine ctD_if gTurn0 (fun al v hv => ?_)
  obtain ⟨ho, hv⟩ := hv
  obtain rfl := res_ret hv
  have ho : (bF 1 six6 al).ev ρ = true := ho
  rw [bF_ev h1] at ho
  refine ⟨rfl, six_of ho, ?_⟩
  simp only [iV, V.s0, V.val, V2.val, S.val, S0.val, iF_ev h0, turnL]
theorem cOn1_ok {ρ : Env} (h1 : ∀ l, ρ.fb 1 l = six6 l) (h4 : ∀ l, ρ.fb 4 l = onL l) : CtOne Tryz.prog ρ 266 cOn1 := by
  refine ctD_if gOn0 (fun al v hv => ?_)
  obtain ⟨ho, hv⟩ := hv
  obtain rfl := res_ret hv
  have ho : (bF 1 six6 al).ev ρ = true := ho
  rw [bF_ev h1] at ho
  refine ⟨rfl, ho, ?_⟩
  simp only [bV, V.s0, V.val, V2.val, S.val, S0.val, bF_ev h4]
def ctM : Ct := [(246, cTurn1), (266, cOn1)]
theorem ctM_ok {ρ : Env} (h : ρ.has iniI) : CtOk Tryz.prog ρ ctM :=
  .cons (cTurn1_ok (fun l => by rw [h.2.1]; rfl) (fun l => by rw [h.1]; rfl)) <| .cons (cOn1_ok (fun l => by rw [h.2.1]; rfl) (fun l => by rw [h.2.1]; rfl)) .nil
end Go.Proofs.YtkjjkckcjgkhmaaGreat
/- Chapter 38: the tree of plane.meet. -/
namespace Go.Proofs.YtkjjkckcjgkhmaaGreat
open Go.RowKit
-- term trMeet0: call Tryz.prog ctM (Lt.of []) 100 244 (symArgs 0 [pt, pt, pt, pt]) [] 0
def trMeet0 : TT OpR :=
(.ob (.tru (.fn 1 (.i (.var 0) (.i (.var 1) (.i (.var 2) (.i (.var 3) (.i (.var 4) (.i (.var 5) .nil))))))))
(.ob (.tru (.fn 1 (.i (.var 0) (.i (.var 1) (.i (.var 2) (.i (.var 3) (.i (.var 6) (.i (.var 7) .nil))))))))
(.ite (.cmp .lss (.ar .mul .i64 (.fn 0 (.i (.var 0) (.i (.var 1) (.i (.var 2) (.i (.var 3) (.i (.var 4) (.i (.var 5) .nil))))))) (.fn 0 (.i (.var 0) (.i (.var 1) (.i (.var 2) (.i (.var 3) (.i (.var 6) (.i (.var 7) .nil)))))))) (.lit 0))
 (.ob (.tru (.fn 1 (.i (.var 4) (.i (.var 5) (.i (.var 6) (.i (.var 7) (.i (.var 0) (.i (.var 1) .nil))))))))
 (.ob (.tru (.fn 1 (.i (.var 4) (.i (.var 5) (.i (.var 6) (.i (.var 7) (.i (.var 2) (.i (.var 3) .nil))))))))
 (.ite (.cmp .lss (.ar .mul .i64 (.fn 0 (.i (.var 4) (.i (.var 5) (.i (.var 6) (.i (.var 7) (.i (.var 0) (.i (.var 1) .nil))))))) (.fn 0 (.i (.var 4) (.i (.var 5) (.i (.var 6) (.i (.var 7) (.i (.var 2) (.i (.var 3) .nil)))))))) (.lit 0))
 (.ret ((.v (.one (.z (.bool (.lit true))))), [], 4))
 (.ob (.tru (.fn 1 (.i (.var 0) (.i (.var 1) (.i (.var 4) (.i (.var 5) (.i (.var 6) (.i (.var 7) .nil))))))))
 (.ite (.fn 4 (.i (.var 0) (.i (.var 1) (.i (.var 4) (.i (.var 5) (.i (.var 6) (.i (.var 7) .nil)))))))
 (.ret ((.v (.one (.z (.bool (.lit true))))), [], 4))
 (.ob (.tru (.fn 1 (.i (.var 2) (.i (.var 3) (.i (.var 4) (.i (.var 5) (.i (.var 6) (.i (.var 7) .nil))))))))
 (.ite (.fn 4 (.i (.var 2) (.i (.var 3) (.i (.var 4) (.i (.var 5) (.i (.var 6) (.i (.var 7) .nil)))))))
 (.ret ((.v (.one (.z (.bool (.lit true))))), [], 4))
 (.ob (.tru (.fn 1 (.i (.var 4) (.i (.var 5) (.i (.var 0) (.i (.var 1) (.i (.var 2) (.i (.var 3) .nil))))))))
 (.ite (.fn 4 (.i (.var 4) (.i (.var 5) (.i (.var 0) (.i (.var 1) (.i (.var 2) (.i (.var 3) .nil)))))))
 (.ret ((.v (.one (.z (.bool (.lit true))))), [], 4))
 (.ob (.tru (.fn 1 (.i (.var 6) (.i (.var 7) (.i (.var 0) (.i (.var 1) (.i (.var 2) (.i (.var 3) .nil))))))))
 (.ret ((.v (.one (.z (.bool (.fn 4 (.i (.var 6) (.i (.var 7) (.i (.var 0) (.i (.var 1) (.i (.var 2) (.i (.var 3) .nil))))))))))), [], 4))))))))))))
 (.ob (.tru (.fn 1 (.i (.var 0) (.i (.var 1) (.i (.var 4) (.i (.var 5) (.i (.var 6) (.i (.var 7) .nil))))))))
 (.ite (.fn 4 (.i (.var 0) (.i (.var 1) (.i (.var 4) (.i (.var 5) (.i (.var 6) (.i (.var 7) .nil)))))))
 (.ret ((.v (.one (.z (.bool (.lit true))))), [], 4))
 (.ob (.tru (.fn 1 (.i (.var 2) (.i (.var 3) (.i (.var 4) (.i (.var 5) (.i (.var 6) (.i (.var 7) .nil))))))))
 (.ite (.fn 4 (.i (.var 2) (.i (.var 3) (.i (.var 4) (.i (.var 5) (.i (.var 6) (.i (.var 7) .nil)))))))
 (.ret ((.v (.one (.z (.bool (.lit true))))), [], 4))
 (.ob (.tru (.fn 1 (.i (.var 4) (.i (.var 5) (.i (.var 0) (.i (.var 1) (.i (.var 2) (.i (.var 3) .nil))))))))
 (.ite (.fn 4 (.i (.var 4) (.i (.var 5) (.i (.var 0) (.i (.var 1) (.i (.var 2) (.i (.var 3) .nil)))))))
 (.ret ((.v (.one (.z (.bool (.lit true))))), [], 4))
 (.ob (.tru (.fn 1 (.i (.var 6) (.i (.var 7) (.i (.var 0) (.i (.var 1) (.i (.var 2) (.i (.var 3) .nil))))))))
 (.ret ((.v (.one (.z (.bool (.fn 4 (.i (.var 6) (.i (.var 7) (.i (.var 0) (.i (.var 1) (.i (.var 2) (.i (.var 3) .nil))))))))))), [], 4))))))))))))
-- end trMeet0
set_option maxRecDepth 100000 in
theorem trMeet0_is : T.norm 0 (call Tryz.prog ctM (Lt.of []) 100 244 (symArgs 0 [pt, pt, pt, pt]) [] 0) TT.ret = trMeet0 := by kernel_rfl
theorem trMeet0_low : trMeet0.low 1000 = true := by kernel_rfl
end Go.Proofs.YtkjjkckcjgkhmaaGreat
/- Chapter 38: what plane.meet computes; contracts for the exported functions of package plane. -/
namespace Go.Proofs.YtkjjkckcjgkhmaaGreat
open Go.RowKit

def meetB (ax ay bx by' cx cy dx dy : Int) : Bool :=
  decide (turnI ax ay bx by' cx cy * turnI ax ay bx by' dx dy < 0 ∧ turnI cx cy dx dy ax ay * turnI cx cy dx dy bx by' < 0) ||
  (onB ax ay cx cy dx dy || (onB bx by' cx cy dx dy || (onB cx cy ax ay bx by' || onB dx dy ax ay bx by')))
def meetL (ds : List D) : Bool := meetB (iAt ds 0) (iAt ds 1) (iAt ds 2) (iAt ds 3) (iAt ds 4) (iAt ds 5) (iAt ds 6) (iAt ds 7)
def eight (ds : List D) : Bool := placeB (iAt ds 0) (iAt ds 1) && (placeB (iAt ds 2) (iAt ds 3) && (placeB (iAt ds 4) (iAt ds 5) && placeB (iAt ds 6) (iAt ds 7)))
theorem sgn_le (n : Int) : -1 ≤ sgn n ∧ sgn n ≤ 1 := by unfold sgn; split <;> (try split) <;> omega
theorem on_six (a b c d e f : Int) : onL [.i a, .i b, .i c, .i d, .i e, .i f] = onB a b c d e f := rfl
theorem iniI_1 (W : World) (ds l : List D) : (envOf iniI W ds).fb 1 l = six6 l := rfl
theorem iniI_4 (W : World) (ds l : List D) : (envOf iniI W ds).fb 4 l = onL l := rfl
theorem iniI_0 (W : World) (ds l : List D) : (envOf iniI W ds).fi 0 l = turnL l := rfl
theorem w_sgn (a b : Int) : IntKind.i64.wrap (sgn a * sgn b) = sgn a * sgn b := by
  have h1 := sgn_le a
  have h2 := sgn_le b
  have := mul_abs (a := sgn a) (b := sgn b) (A := 1) (B := 1) (by omega) (by omega) (by omega) (by omega)
  exact wrap_in _ (by omega) (by omega)
theorem w_turn (a b c d e f a' b' c' d' e' f' : Int) : IntKind.i64.wrap (turnI a b c d e f * turnI a' b' c' d' e' f') = turnI a b c d e f * turnI a' b' c' d' e' f' := w_sgn _ _
theorem gMeet0 : GivesIf Tryz.prog 244 [pt, pt, pt, pt] (fun ds => eight ds = true) (fun ds => .bool (meetL ds)) := by
  refine fn_gives iniI (by kernel_rfl) (fun ρ h => ctM_ok h) (by kernel_rfl) trMeet0_is trMeet0_low (by decide) (fun W vals ds _ hok => ?_)
  simp only [eight, Bool.and_eq_true] at hok
  obtain ⟨p1, p2, p3, p4⟩ := hok
  simp only [trMeet0, TT.sat_ret, TT.sat_ite, TT.sat_ob, Ob.ok, B.ev, E.ev, AL.ev, cmp_t, cmp_f, arEv, V.plain, V2.plain, S.plain, S0.plain, V.val, V2.val, S.val, S0.val, envOf_i, true_and, Bool.and_eq_true, cmpP, iniI_1, iniI_4, iniI_0, six_six, turn_six, on_six]
  simp only [p1, p2, p3, p4, and_self, true_and, w_turn]
  simp only [meetL, meetB]
  generalize onB (iAt ds 0) (iAt ds 1) (iAt ds 4) (iAt ds 5) (iAt ds 6) (iAt ds 7) = o1
  generalize onB (iAt ds 2) (iAt ds 3) (iAt ds 4) (iAt ds 5) (iAt ds 6) (iAt ds 7) = o2
  generalize onB (iAt ds 4) (iAt ds 5) (iAt ds 0) (iAt ds 1) (iAt ds 2) (iAt ds 3) = o3
  generalize onB (iAt ds 6) (iAt ds 7) (iAt ds 0) (iAt ds 1) (iAt ds 2) (iAt ds 3) = o4
  refine ⟨fun h => ⟨fun h' => ?_, fun h' => ?_⟩, fun h => ?_⟩
  · rw [decide_eq_true ⟨h, h'⟩]; rfl
  · rw [decide_eq_false (fun q => h' q.2)]
    cases o1 <;> cases o2 <;> cases o3 <;> cases o4 <;> simp
  · rw [decide_eq_false (fun q => h q.1)]
    cases o1 <;> cases o2 <;> cases o3 <;> cases o4 <;> simp

/-! ### Contracts for plane.Close -/
def I4 : Interp := { fi := fun _ _ => 0, fb := fun n l => match n with | 1 => six6 l | 2 => nearL l | 3 => placeL l | 5 => eight l | 6 => meetL l | _ => false, fd := fun _ _ => [] }
def cMeet1 := ctD [pt, pt, pt, pt] fun al => .ob (.tru (bF 5 eight al)) (.ret (bV (bF 6 meetL al)))
def cPlace1 := ctD [pt] fun al => .ret (bV (bF 3 placeL al))
def oNear1 (al : AL) : T V := match al with
  | .i a (.i b (.i c (.i d (.i e (.i f (.i r .nil)))))) => T.obs [.tru (bF 1 six6 (.i a (.i b (.i c (.i d (.i e (.i f .nil))))))), .tru (.cmpS .leq (.lit 0) r), .tru (.cmpS .leq r (.lit 3000000))] (.ret (bV (bF 2 nearL al)))
  | _ => .stuck "near"
def cNear1 := ctD [pt, pt, pt, it] oNear1
theorem cMeet1_ok {ρ : Env} (h5 : ∀ l, ρ.fb 5 l = eight l) (h6 : ∀ l, ρ.fb 6 l = meetL l) : CtOne Tryz.prog ρ 244 cMeet1 := by
  refine ctD_if gMeet0 (fun al v hv => ?_)
  obtain ⟨ho, hv⟩ := hv
  obtain rfl := res_ret hv
  have ho : (bF 5 eight al).ev ρ = true := ho
  rw [bF_ev h5] at ho
  refine ⟨rfl, ho, ?_⟩
  simp only [bV, V.s0, V.val, V2.val, S.val, S0.val, bF_ev h6]
theorem cPlace1_ok {ρ : Env} (h : ∀ l, ρ.fb 3 l = placeL l) : CtOne Tryz.prog ρ 73 cPlace1 :=
  ctD_ok gValid (fun _ => rfl) (fun al => by simp only [bV, V.s0, V.val, V2.val, S.val, S0.val, bF_ev h, placeL])
theorem cNear1_ok {ρ : Env} (h1 : ∀ l, ρ.fb 1 l = six6 l) (h2 : ∀ l, ρ.fb 2 l = nearL l) : CtOne Tryz.prog ρ 131 cNear1 := by
  refine ctD_if gNear0 (fun al v hv => ?_)
  unfold oNear1 at hv
  split at hv
  · rename_i a b c d e f r
    obtain ⟨ho, hv⟩ := T.res_obs hv
    obtain rfl := res_ret hv
    have o1 := ho _ (List.mem_cons_self ..)
    have o2 := ho _ (List.mem_cons_of_mem _ (List.mem_cons_self ..))
    have o3 := ho _ (List.mem_cons_of_mem _ (List.mem_cons_of_mem _ (List.mem_cons_self ..)))
    simp only [Ob.ok, B.cmpS_ev, cmp_t, cmpP, E.ev, bF_ev h1, AL.ev] at o1 o2 o3
    have q1 := six_of o1
    refine ⟨rfl, ⟨?_, ?_, ?_⟩, ?_⟩
    · simpa [six, iAt, AL.ev] using q1
    · simpa [iAt, AL.ev, D.int] using o2
    · simpa [iAt, AL.ev, D.int] using o3
    · simp only [bV, V.s0, V.val, V2.val, S.val, S0.val, bF_ev h2]
      rfl
  · exact hv.elim
def ct4 : Ct := [(73, cPlace1), (244, cMeet1), (131, cNear1)]
theorem ct4_ok {ρ : Env} (h : ρ.has I4) : CtOk Tryz.prog ρ ct4 :=
  .cons (cPlace1_ok (fun l => by rw [h.2.1]; rfl)) <| .cons (cMeet1_ok (fun l => by rw [h.2.1]; rfl) (fun l => by rw [h.2.1]; rfl)) <| .cons (cNear1_ok (fun l => by rw [h.2.1]; rfl) (fun l => by rw [h.2.1]; rfl)) .nil
end Go.Proofs.YtkjjkckcjgkhmaaGreat
/- Chapter 38: the tree of plane.Close. -/
namespace Go.Proofs.YtkjjkckcjgkhmaaGreat
open Go.RowKit
-- term trClose: call Tryz.prog ct4 lt1 100 207 (symArgs 0 [pt, pt, pt, pt, it]) [] 0
def trClose : TT OpR :=
(.ite (.not (.fn 3 (.i (.var 0) (.i (.var 1) .nil))))
 (.ret ((.tup [(.one (.z (.bool (.lit false)))), (.one (.z (.int .i64 (.lit 1))))]), [], 7))
 (.ite (.not (.fn 3 (.i (.var 2) (.i (.var 3) .nil))))
 (.ret ((.tup [(.one (.z (.bool (.lit false)))), (.one (.z (.int .i64 (.lit 1))))]), [], 8))
 (.ite (.not (.fn 3 (.i (.var 4) (.i (.var 5) .nil))))
 (.ret ((.tup [(.one (.z (.bool (.lit false)))), (.one (.z (.int .i64 (.lit 1))))]), [], 9))
 (.ite (.not (.fn 3 (.i (.var 6) (.i (.var 7) .nil))))
 (.ret ((.tup [(.one (.z (.bool (.lit false)))), (.one (.z (.int .i64 (.lit 1))))]), [], 10))
 (.ite (.cmp .geq (.var 8) (.lit 0))
 (.ite (.not (.cmp .leq (.var 8) (.lit 3000000)))
 (.ret ((.tup [(.one (.z (.bool (.lit false)))), (.one (.z (.int .i64 (.lit 1))))]), [], 10))
 (.ob (.tru (.fn 5 (.i (.var 0) (.i (.var 1) (.i (.var 2) (.i (.var 3) (.i (.var 4) (.i (.var 5) (.i (.var 6) (.i (.var 7) .nil))))))))))
 (.ite (.fn 6 (.i (.var 0) (.i (.var 1) (.i (.var 2) (.i (.var 3) (.i (.var 4) (.i (.var 5) (.i (.var 6) (.i (.var 7) .nil)))))))))
 (.ret ((.tup [(.one (.z (.bool (.lit true)))), (.one (.z (.int .i64 (.lit 0))))]), [], 10))
 (.ob (.tru (.fn 1 (.i (.var 0) (.i (.var 1) (.i (.var 4) (.i (.var 5) (.i (.var 6) (.i (.var 7) .nil))))))))
 (.ob (.tru (.cmp .leq (.lit 0) (.var 8)))
 (.ob (.tru (.cmp .leq (.var 8) (.lit 3000000)))
 (.ite (.fn 2 (.i (.var 0) (.i (.var 1) (.i (.var 4) (.i (.var 5) (.i (.var 6) (.i (.var 7) (.i (.var 8) .nil))))))))
 (.ret ((.tup [(.one (.z (.bool (.lit true)))), (.one (.z (.int .i64 (.lit 0))))]), [], 14))
 (.ob (.tru (.fn 1 (.i (.var 2) (.i (.var 3) (.i (.var 4) (.i (.var 5) (.i (.var 6) (.i (.var 7) .nil))))))))
 (.ob (.tru (.cmp .leq (.lit 0) (.var 8)))
 (.ob (.tru (.cmp .leq (.var 8) (.lit 3000000)))
 (.ite (.fn 2 (.i (.var 2) (.i (.var 3) (.i (.var 4) (.i (.var 5) (.i (.var 6) (.i (.var 7) (.i (.var 8) .nil))))))))
 (.ret ((.tup [(.one (.z (.bool (.lit true)))), (.one (.z (.int .i64 (.lit 0))))]), [], 15))
 (.ob (.tru (.fn 1 (.i (.var 4) (.i (.var 5) (.i (.var 0) (.i (.var 1) (.i (.var 2) (.i (.var 3) .nil))))))))
 (.ob (.tru (.cmp .leq (.lit 0) (.var 8)))
 (.ob (.tru (.cmp .leq (.var 8) (.lit 3000000)))
 (.ite (.fn 2 (.i (.var 4) (.i (.var 5) (.i (.var 0) (.i (.var 1) (.i (.var 2) (.i (.var 3) (.i (.var 8) .nil))))))))
 (.ret ((.tup [(.one (.z (.bool (.lit true)))), (.one (.z (.int .i64 (.lit 0))))]), [], 19))
 (.ob (.tru (.fn 1 (.i (.var 6) (.i (.var 7) (.i (.var 0) (.i (.var 1) (.i (.var 2) (.i (.var 3) .nil))))))))
 (.ob (.tru (.cmp .leq (.lit 0) (.var 8)))
 (.ob (.tru (.cmp .leq (.var 8) (.lit 3000000)))
 (.ite (.fn 2 (.i (.var 6) (.i (.var 7) (.i (.var 0) (.i (.var 1) (.i (.var 2) (.i (.var 3) (.i (.var 8) .nil))))))))
 (.ret ((.tup [(.one (.z (.bool (.lit true)))), (.one (.z (.int .i64 (.lit 0))))]), [], 20))
 (.ret ((.tup [(.one (.z (.bool (.lit false)))), (.one (.z (.int .i64 (.lit 0))))]), [], 20)))))))))))))))))))))
 (.ret ((.tup [(.one (.z (.bool (.lit false)))), (.one (.z (.int .i64 (.lit 1))))]), [], 10)))))))
-- end trClose
set_option maxRecDepth 100000 in
theorem trClose_is : T.norm 0 (call Tryz.prog ct4 lt1 100 207 (symArgs 0 [pt, pt, pt, pt, it]) [] 0) TT.ret = trClose := by kernel_rfl
theorem trClose_low : trClose.low 1000 = true := by kernel_rfl
end Go.Proofs.YtkjjkckcjgkhmaaGreat
/- Chapter 38: what plane.Close answers; contracts of plane and passage that reckon; the law's head. -/
namespace Go.Proofs.YtkjjkckcjgkhmaaGreat
open Go.RowKit

def closeB (ax ay bx by' cx cy dx dy r : Int) : Bool :=
  meetB ax ay bx by' cx cy dx dy || (nearB ax ay cx cy dx dy r || (nearB bx by' cx cy dx dy r || (nearB cx cy ax ay bx by' r || nearB dx dy ax ay bx by' r)))
def closeL (ds : List D) : Bool := closeB (iAt ds 0) (iAt ds 1) (iAt ds 2) (iAt ds 3) (iAt ds 4) (iAt ds 5) (iAt ds 6) (iAt ds 7) (iAt ds 8)
theorem I4_1 (W : World) (ds l : List D) : (envOf I4 W ds).fb 1 l = six6 l := by simp only [envOf, I4]
theorem I4_2 (W : World) (ds l : List D) : (envOf I4 W ds).fb 2 l = nearL l := by simp only [envOf, I4]
theorem I4_3 (W : World) (ds l : List D) : (envOf I4 W ds).fb 3 l = placeL l := by simp only [envOf, I4]
theorem I4_5 (W : World) (ds l : List D) : (envOf I4 W ds).fb 5 l = eight l := by simp only [envOf, I4]
theorem I4_6 (W : World) (ds l : List D) : (envOf I4 W ds).fb 6 l = meetL l := by simp only [envOf, I4]
theorem eight_eight (a b c d e f g h : Int) : eight [.i a, .i b, .i c, .i d, .i e, .i f, .i g, .i h] = (placeB a b && (placeB c d && (placeB e f && placeB g h))) := rfl
theorem meet_eight (a b c d e f g h : Int) : meetL [.i a, .i b, .i c, .i d, .i e, .i f, .i g, .i h] = meetB a b c d e f g h := by
  unfold meetL iAt; simp only [List.getD_cons_zero, List.getD_cons_succ, D.int]
def closeOk (ds : List D) : Bool := eight ds && distB (iAt ds 8)
def closeV (ds : List D) : Value := errV (closeOk ds) (closeL ds)
set_option maxHeartbeats 1000000 in
theorem gClose : Gives Tryz.prog 207 [pt, pt, pt, pt, it] closeV := by
  refine GivesIf.all (fn_gives I4 (by kernel_rfl) (fun ρ h => ct4_ok h) (by kernel_rfl) trClose_is trClose_low (by decide) (fun W vals ds _ _ => ?_))
  simp only [trClose, TT.sat_ret, TT.sat_ite, TT.sat_ob, Ob.ok, B.ev, E.ev, AL.ev, cmp_t, cmp_f, V.plain, V2.plain, S.plain, S0.plain, V.val, V2.val, S.val, S0.val, List.all_cons, List.all_nil, Bool.and_self, envOf_i, List.map_cons, List.map_nil, true_and, Bool.not_eq_true', Bool.not_eq_false', Bool.and_eq_true, cmpP, I4_1, I4_2, I4_3, I4_5, I4_6, placeL_two, six_six, eight_eight, meet_eight, near_sev]
  simp only [closeV, closeOk, closeL, closeB, eight, distB]
  generalize placeB (iAt ds 0) (iAt ds 1) = p1
  generalize placeB (iAt ds 2) (iAt ds 3) = p2
  generalize placeB (iAt ds 4) (iAt ds 5) = p3
  generalize placeB (iAt ds 6) (iAt ds 7) = p4
  generalize meetB _ _ _ _ _ _ _ _ = m0
  generalize nearB (iAt ds 0) (iAt ds 1) (iAt ds 4) (iAt ds 5) (iAt ds 6) (iAt ds 7) (iAt ds 8) = q1
  generalize nearB (iAt ds 2) (iAt ds 3) (iAt ds 4) (iAt ds 5) (iAt ds 6) (iAt ds 7) (iAt ds 8) = q2
  generalize nearB (iAt ds 4) (iAt ds 5) (iAt ds 0) (iAt ds 1) (iAt ds 2) (iAt ds 3) (iAt ds 8) = q3
  generalize nearB (iAt ds 6) (iAt ds 7) (iAt ds 0) (iAt ds 1) (iAt ds 2) (iAt ds 3) (iAt ds 8) = q4
  generalize iAt ds 8 = d
  refine ⟨fun h1 => ?_, fun h1 => ⟨fun h2 => ?_, fun h2 => ⟨fun h3 => ?_, fun h3 => ⟨fun h4 => ?_, fun h4 => ⟨fun h5 => ⟨fun h6 => ?_, fun h6 => ⟨?_, fun m => ?_, fun m => ⟨?_, ?_, ?_, fun n1 => ?_, fun n1 => ⟨?_, ?_, ?_, fun n2 => ?_, fun n2 => ⟨?_, ?_, ?_, fun n3 => ?_, fun n3 => ⟨?_, ?_, ?_, fun n4 => ?_, fun n4 => ?_⟩⟩⟩⟩⟩⟩, fun h5 => ?_⟩⟩⟩⟩⟩
  all_goals first | omega | (simp [errV, *]; done) | (simp [errV, *]; omega)

/-! ### Contracts of plane's exported functions, that reckon -/
def nearO (ds : List D) : Bool := six6 ds && distB (iAt ds 6)
def nearR (ds : List D) : Bool := nearO ds && nearL ds
def nearE (ds : List D) : Int := if nearO ds then 0 else 1
def closeR (ds : List D) : Bool := closeOk ds && closeL ds
def closeE (ds : List D) : Int := if closeOk ds then 0 else 1
def turnR (ds : List D) : Int := if six6 ds then turnL ds else 0
def turnE (ds : List D) : Int := if six6 ds then 0 else 1
/-! What passage's functions answer, part by part -/
def arrO (ds : List D) : Bool := psgB (iAt ds 0) (iAt ds 1) (iAt ds 2) (rAt ds 3) && decide (0 ≤ iAt ds 4 ∧ iAt ds 4 ≤ (rAt ds 3).length)
def arrX (ds : List D) : Bool := arrO ds && !decide (10000000 < tHi (rAt ds 3) (iAt ds 1) (iAt ds 4).toNat)
def arrL (ds : List D) : Int := if arrX ds then tLo (rAt ds 3) (iAt ds 0) (iAt ds 4).toNat else 0
def arrH (ds : List D) : Int := if arrX ds then tHi (rAt ds 3) (iAt ds 1) (iAt ds 4).toNat else 0
def arrE (ds : List D) : Int := if arrO ds then (if arrX ds then 0 else 3) else 1
def durO (ds : List D) : Bool := psgB (iAt ds 0) (iAt ds 1) (iAt ds 2) (rAt ds 3) && decide (0 ≤ iAt ds 4 ∧ iAt ds 4 < (rAt ds 3).length)
def durX (ds : List D) : Bool := durO ds && !decide (10000000 < tHi (rAt ds 3) (iAt ds 1) ((iAt ds 4).toNat + 1))
def durL (ds : List D) : Int := if durX ds then tLo (rAt ds 3) (iAt ds 0) (iAt ds 4).toNat else 0
def durH (ds : List D) : Int := if durX ds then tHi (rAt ds 3) (iAt ds 1) ((iAt ds 4).toNat + 1) else 0
def durE (ds : List D) : Int := if durO ds then (if durX ds then 0 else 3) else 1
def restK (ds : List D) : Int := (restI ds).1
def restE (ds : List D) : Int := (restI ds).2
theorem arrV_eq (ds : List D) : arrV ds = spanE (arrL ds) (arrH ds) (arrE ds) := by
  unfold arrV arrL arrH arrE arrX arrO inV
  by_cases h : psgB (iAt ds 0) (iAt ds 1) (iAt ds 2) (rAt ds 3) = true ∧ 0 ≤ iAt ds 4 ∧ iAt ds 4 ≤ (rAt ds 3).length
  · rw [if_pos h]
    have : (psgB (iAt ds 0) (iAt ds 1) (iAt ds 2) (rAt ds 3) && decide (0 ≤ iAt ds 4 ∧ iAt ds 4 ≤ (rAt ds 3).length)) = true := by rw [h.1, decide_eq_true h.2]; rfl
    rw [this]
    by_cases q : 10000000 < tHi (rAt ds 3) (iAt ds 1) (iAt ds 4).toNat
    · simp [q]
    · simp [q]
  · rw [if_neg h]
    have : (psgB (iAt ds 0) (iAt ds 1) (iAt ds 2) (rAt ds 3) && decide (0 ≤ iAt ds 4 ∧ iAt ds 4 ≤ (rAt ds 3).length)) = false := by
      rw [and_f, decide_eq_true_eq]; exact h
    rw [this]
    rfl
theorem durV_eq (ds : List D) : durV ds = spanE (durL ds) (durH ds) (durE ds) := by
  unfold durV durL durH durE durX durO inV
  by_cases h : psgB (iAt ds 0) (iAt ds 1) (iAt ds 2) (rAt ds 3) = true ∧ 0 ≤ iAt ds 4 ∧ iAt ds 4 < (rAt ds 3).length
  · rw [if_pos h]
    have : (psgB (iAt ds 0) (iAt ds 1) (iAt ds 2) (rAt ds 3) && decide (0 ≤ iAt ds 4 ∧ iAt ds 4 < (rAt ds 3).length)) = true := by rw [h.1, decide_eq_true h.2]; rfl
    rw [this]
    by_cases q : 10000000 < tHi (rAt ds 3) (iAt ds 1) ((iAt ds 4).toNat + 1)
    · simp [q]
    · simp [q]
  · rw [if_neg h]
    have : (psgB (iAt ds 0) (iAt ds 1) (iAt ds 2) (rAt ds 3) && decide (0 ≤ iAt ds 4 ∧ iAt ds 4 < (rAt ds 3).length)) = false := by
      rw [and_f, decide_eq_true_eq]; exact h
    rw [this]
    rfl
def K : Interp where
  fi n l := match n with | 0 => turnL l | 10 => distIL l | 11 => distIH l | 12 => distIE l | 13 => nearE l | 14 => closeE l | 15 => turnR l | 16 => turnE l | 21 => arrL l | 22 => arrH l | 23 => arrE l | 24 => durL l | 25 => durH l | 26 => durE l | 27 => restK l | 28 => restE l | _ => 0
  fb n l := match n with | 0 => mostB l | 1 => six6 l | 2 => nearL l | 3 => placeL l | 4 => onL l | 5 => eight l | 6 => meetL l | 7 => nearR l | 8 => closeR l | 20 => psgL l | _ => false
  fd _ _ := []
def cDist1 := ctD [pt, pt] fun al => .ret (.tup [.agg [sIF 10 distIL al, sIF 11 distIH al], .one (sIF 12 distIE al)])
def cNearA := ctD [pt, pt, pt, it] fun al => .ret (.tup [.one (sBF 7 nearR al), .one (sIF 13 nearE al)])
def cCloseA := ctD [pt, pt, pt, pt, it] fun al => .ret (.tup [.one (sBF 8 closeR al), .one (sIF 14 closeE al)])
def cTurnA := ctD [pt, pt, pt] fun al => .ret (.tup [.one (sIF 15 turnR al), .one (sIF 16 turnE al)])
def cArr1 := ctD [psg, it] fun al => .ret (.tup [.agg [sIF 21 arrL al, sIF 22 arrH al], .one (sIF 23 arrE al)])
def cDur1 := ctD [psg, it] fun al => .ret (.tup [.agg [sIF 24 durL al, sIF 25 durH al], .one (sIF 26 durE al)])
def cRest1 := ctD [psg, it] fun al => .ret (.tup [.one (sIF 27 restK al), .one (sIF 28 restE al)])
def cPV1 := ctD [psg] fun al => .ret (bV (bF 20 psgL al))
def Sees (ρ : Env) (I : Interp) (c : Nat) : Prop := ∀ n l, n < c → ρ.fi n l = I.fi n l ∧ ρ.fb n l = I.fb n l
theorem Sees.of {ρ : Env} {I : Interp} (h : ρ.has I) (c : Nat) : Sees ρ I c := fun n l _ => by rw [h.1, h.2.1]; exact ⟨rfl, rfl⟩
theorem Sees.trans {ρ : Env} {I J : Interp} {c d : Nat} (h : Sees ρ I c) (hd : d ≤ c) (hj : ∀ n l, n < d → I.fi n l = J.fi n l ∧ I.fb n l = J.fb n l) : Sees ρ J d :=
  fun n l hn => ⟨(h n l (Nat.lt_of_lt_of_le hn hd)).1.trans (hj n l hn).1, (h n l (Nat.lt_of_lt_of_le hn hd)).2.trans (hj n l hn).2⟩
section
variable {ρ : Env} (h : Sees ρ K 30)
include h
theorem cDist1_ok : CtOne Tryz.prog ρ 122 cDist1 :=
  ctD_ok gDist (fun _ => rfl) (fun al => by
    simp only [V.val, V2.val, S.val, S0.val, sIF, List.map_cons, List.map_nil, iF_ev (s := 10) (f := distIL) (fun l => by rw [(h 10 l (by decide)).1]; simp only [K]), iF_ev (s := 11) (f := distIH) (fun l => by rw [(h 11 l (by decide)).1]; simp only [K]), iF_ev (s := 12) (f := distIE) (fun l => by rw [(h 12 l (by decide)).1]; simp only [K])]; rfl)
theorem cNearA_ok : CtOne Tryz.prog ρ 75 cNearA :=
  ctD_ok gNear (fun _ => rfl) (fun al => by
    simp only [V.val, V2.val, S.val, S0.val, sIF, sBF, List.map_cons, List.map_nil, bF_ev (s := 7) (f := nearR) (fun l => by rw [(h 7 l (by decide)).2]; simp only [K]), iF_ev (s := 13) (f := nearE) (fun l => by rw [(h 13 l (by decide)).1]; simp only [K])]; rfl)
theorem cCloseA_ok : CtOne Tryz.prog ρ 207 cCloseA :=
  ctD_ok gClose (fun _ => rfl) (fun al => by
    simp only [V.val, V2.val, S.val, S0.val, sIF, sBF, List.map_cons, List.map_nil, bF_ev (s := 8) (f := closeR) (fun l => by rw [(h 8 l (by decide)).2]; simp only [K]), iF_ev (s := 14) (f := closeE) (fun l => by rw [(h 14 l (by decide)).1]; simp only [K])]; rfl)
theorem cTurnA_ok : CtOne Tryz.prog ρ 219 cTurnA :=
  ctD_ok gTurn (fun _ => rfl) (fun al => by
    simp only [V.val, V2.val, S.val, S0.val, sIF, sBF, List.map_cons, List.map_nil, iF_ev (s := 15) (f := turnR) (fun l => by rw [(h 15 l (by decide)).1]; simp only [K]), iF_ev (s := 16) (f := turnE) (fun l => by rw [(h 16 l (by decide)).1]; simp only [K]), turnV, turnR, turnE]
    split <;> rfl)
theorem cPV1_ok : CtOne Tryz.prog ρ 52 cPV1 :=
  ctD_ok gPValid (fun _ => rfl) (fun al => by simp only [bV, V.s0, V.val, V2.val, S.val, S0.val, bF_ev (s := 20) (f := psgL) (fun l => by rw [(h 20 l (by decide)).2]; simp only [K])])
theorem cDur1_ok : CtOne Tryz.prog ρ 25 cDur1 :=
  ctD_ok gDur (fun _ => rfl) (fun al => by
    simp only [V.val, V2.val, S.val, S0.val, sIF, List.map_cons, List.map_nil, iF_ev (s := 24) (f := durL) (fun l => by rw [(h 24 l (by decide)).1]; simp only [K]), iF_ev (s := 25) (f := durH) (fun l => by rw [(h 25 l (by decide)).1]; simp only [K]), iF_ev (s := 26) (f := durE) (fun l => by rw [(h 26 l (by decide)).1]; simp only [K])]; rw [durV_eq]; rfl)
theorem cPlaceK_ok : CtOne Tryz.prog ρ 73 cPlace1 := cPlace1_ok (fun l => by rw [(h 3 l (by decide)).2]; simp only [K])
end
def ctPl : Ct := [(73, cPlace1), (122, cDist1), (75, cNearA), (207, cCloseA), (219, cTurnA)]
theorem ctPl_ok {ρ : Env} (h : Sees ρ K 30) : CtOk Tryz.prog ρ ctPl := .cons (cPlaceK_ok h) <| .cons (cDist1_ok h) <| .cons (cNearA_ok h) <| .cons (cCloseA_ok h) <| .cons (cTurnA_ok h) .nil
def ctH : Ct := (52, cPV1) :: (25, cDur1) :: ctPl
theorem ctH_ok {ρ : Env} (h : Sees ρ K 30) : CtOk Tryz.prog ρ ctH := .cons (cPV1_ok h) <| .cons (cDur1_ok h) <| (ctPl_ok h)
end Go.Proofs.YtkjjkckcjgkhmaaGreat
/- Chapter 38: the tree of span.Valid. -/
namespace Go.Proofs.YtkjjkckcjgkhmaaGreat
open Go.RowKit
def sp : Sh := .agg [.int .i64, .int .i64]
def bx : Sh := .agg [.int .i64, .int .i64, .int .i64, .int .i64]
-- term trSpV: call Tryz.prog [] (Lt.of []) 100 165 (symArgs 0 [sp]) [] 0
def trSpV : TT OpR :=
(.ite (.cmp .leq (.lit (-1000000000000)) (.var 0))
 (.ite (.cmp .leq (.var 0) (.var 1))
 (.ret ((.v (.one (.z (.bool (.cmp .leq (.var 1) (.lit 1000000000000)))))), [], 1))
 (.ret ((.v (.one (.z (.bool (.lit false))))), [], 1)))
 (.ret ((.v (.one (.z (.bool (.lit false))))), [], 1)))
-- end trSpV
set_option maxRecDepth 100000 in
theorem trSpV_is : T.norm 0 (call Tryz.prog [] (Lt.of []) 100 165 (symArgs 0 [sp]) [] 0) TT.ret = trSpV := by kernel_rfl
theorem trSpV_low : trSpV.low 1000 = true := by kernel_rfl
end Go.Proofs.YtkjjkckcjgkhmaaGreat
/- Chapter 38: span.Valid. -/
namespace Go.Proofs.YtkjjkckcjgkhmaaGreat
open Go.RowKit
def spanB (a b : Int) : Bool := decide (-1000000000000 ≤ a ∧ a ≤ b ∧ b ≤ 1000000000000)
def spanL (ds : List D) : Bool := spanB (iAt ds 0) (iAt ds 1)
theorem gSpV : Gives Tryz.prog 165 [sp] (fun ds => .bool (spanL ds)) := by
  refine GivesIf.all (fn_gives I0 (by kernel_rfl) (fun ρ _ => CtOk.nil) (by kernel_rfl) trSpV_is trSpV_low (by decide) (fun W vals ds _ _ => ?_))
  simp only [trSpV, TT.sat_ret, TT.sat_ite, B.ev, E.ev, cmp_t, cmp_f, V.plain, V2.plain, S.plain, S0.plain, V.val, V2.val, S.val, S0.val, envOf_i, true_and, cmpP, spanL]
  refine ⟨fun h1 => ⟨fun h2 => congrArg Value.bool ?_, fun h2 => congrArg Value.bool ?_⟩, fun h1 => congrArg Value.bool ?_⟩
  all_goals (rw [Bool.eq_iff_iff]; simp only [spanB, cmp_t, cmpP, decide_eq_true_eq, Bool.false_eq_true, false_iff]; omega)
def KS : Interp := { fi := fun _ _ => 0, fb := fun n l => match n with | 30 => spanL l | _ => false, fd := fun _ _ => [] }
def cSpV := ctD [sp] fun al => .ret (bV (bF 30 spanL al))
theorem cSpV_ok {ρ : Env} (h : ∀ l, ρ.fb 30 l = spanL l) : CtOne Tryz.prog ρ 165 cSpV :=
  ctD_ok gSpV (fun _ => rfl) (fun al => by simp only [bV, V.s0, V.val, V2.val, S.val, S0.val, bF_ev h])
def ctS : Ct := [(165, cSpV)]
theorem ctS_ok {ρ : Env} (h : ρ.has KS) : CtOk Tryz.prog ρ ctS := .cons (cSpV_ok (fun l => by rw [h.2.1]; simp only [KS])) .nil
end Go.Proofs.YtkjjkckcjgkhmaaGreat
/- Chapter 38: the tree of span.ValidBox. -/
namespace Go.Proofs.YtkjjkckcjgkhmaaGreat
open Go.RowKit
-- term trBoxV: call Tryz.prog ctS (Lt.of []) 100 48 (symArgs 0 [bx]) [] 0
def trBoxV : TT OpR :=
(.ite (.not (.fn 30 (.i (.var 0) (.i (.var 1) .nil))))
 (.ite (.not (.fn 30 (.i (.var 2) (.i (.var 3) .nil))))
 (.ret ((.v (.one (.z (.bool (.lit false))))), [], 14))
 (.ret ((.v (.one (.z (.bool (.lit false))))), [], 14)))
 (.ite (.not (.fn 30 (.i (.var 2) (.i (.var 3) .nil))))
 (.ret ((.v (.one (.z (.bool (.lit false))))), [], 14))
 (.ite (.and (.cmp .eql (.mn (.var 0) (.lit (-1000000))) (.lit (-1000000))) (.cmp .eql (.mx (.var 1) (.lit 1000000)) (.lit 1000000)))
 (.ret ((.v (.one (.z (.bool (.and (.cmp .eql (.mn (.var 2) (.lit (-1000000))) (.lit (-1000000))) (.cmp .eql (.mx (.var 3) (.lit 1000000)) (.lit 1000000))))))), [], 14))
 (.ret ((.v (.one (.z (.bool (.lit false))))), [], 14)))))
-- end trBoxV
set_option maxRecDepth 100000 in
theorem trBoxV_is : T.norm 0 (call Tryz.prog ctS (Lt.of []) 100 48 (symArgs 0 [bx]) [] 0) TT.ret = trBoxV := by kernel_rfl
theorem trBoxV_low : trBoxV.low 1000 = true := by kernel_rfl
end Go.Proofs.YtkjjkckcjgkhmaaGreat
/- Chapter 38: span.ValidBox. -/
namespace Go.Proofs.YtkjjkckcjgkhmaaGreat
open Go.RowKit
def boxB (a b c d : Int) : Bool := decide ((-1000000 ≤ a ∧ a ≤ b ∧ b ≤ 1000000) ∧ -1000000 ≤ c ∧ c ≤ d ∧ d ≤ 1000000)
def boxL (ds : List D) : Bool := boxB (iAt ds 0) (iAt ds 1) (iAt ds 2) (iAt ds 3)
theorem KS30 (W : World) (ds l : List D) : (envOf KS W ds).fb 30 l = spanL l := by simp only [envOf, KS]
theorem span_two (a b : Int) : spanL [.i a, .i b] = spanB a b := rfl
theorem spanB_t (a b : Int) : (spanB a b = true) = (-1000000000000 ≤ a ∧ a ≤ b ∧ b ≤ 1000000000000) := by simp [spanB]
theorem spanB_f (a b : Int) : (spanB a b = false) = ¬ (-1000000000000 ≤ a ∧ a ≤ b ∧ b ≤ 1000000000000) := by simp [spanB]
theorem gBoxV : Gives Tryz.prog 48 [bx] (fun ds => .bool (boxL ds)) := by
  refine GivesIf.all (fn_gives KS (by kernel_rfl) (fun ρ h => ctS_ok h) (by kernel_rfl) trBoxV_is trBoxV_low (by decide) (fun W vals ds _ _ => ?_))
  simp only [trBoxV, TT.sat_ret, TT.sat_ite, B.ev, E.ev, AL.ev, cmp_t, V.plain, V2.plain, S.plain, S0.plain, V.val, V2.val, S.val, S0.val, envOf_i, true_and, Bool.not_eq_true', Bool.not_eq_false', Bool.and_eq_true, and_f, cmpP, KS30, span_two, boxL, spanB_t, spanB_f]
  repeat' first
    | refine And.intro ?_ ?_
    | (intro h; skip)
  all_goals
    refine congrArg Value.bool ?_
    rw [Bool.eq_iff_iff]
    simp only [boxB, cmp_t, cmpP, decide_eq_true_eq, Bool.false_eq_true, false_iff, Bool.and_eq_true]
    omega
def KS2 : Interp := { fi := fun _ _ => 0, fb := fun n l => match n with | 30 => spanL l | 31 => boxL l | _ => false, fd := fun _ _ => [] }
def cBoxV := ctD [bx] fun al => .ret (bV (bF 31 boxL al))
theorem cBoxV_ok {ρ : Env} (h : ∀ l, ρ.fb 31 l = boxL l) : CtOne Tryz.prog ρ 48 cBoxV :=
  ctD_ok gBoxV (fun _ => rfl) (fun al => by simp only [bV, V.s0, V.val, V2.val, S.val, S0.val, bF_ev h])
def ctS2 : Ct := [(165, cSpV), (48, cBoxV)]
theorem ctS2_ok {ρ : Env} (h : ρ.has KS2) : CtOk Tryz.prog ρ ctS2 := .cons (cSpV_ok (fun l => by rw [h.2.1]; simp only [KS2])) <| .cons (cBoxV_ok (fun l => by rw [h.2.1]; simp only [KS2])) .nil
end Go.Proofs.YtkjjkckcjgkhmaaGreat
/- Chapter 38: trees of span's boxes. -/
namespace Go.Proofs.YtkjjkckcjgkhmaaGreat
open Go.RowKit
-- term trJoin: call Tryz.prog ctS2 (Lt.of []) 100 54 (symArgs 0 [bx, bx]) [] 0
def trJoin : TT OpR :=
(.ite (.not (.fn 31 (.i (.var 0) (.i (.var 1) (.i (.var 2) (.i (.var 3) .nil))))))
 (.ret ((.tup [(.agg [(.z (.int .i64 (.lit 0))), (.z (.int .i64 (.lit 0))), (.z (.int .i64 (.lit 0))), (.z (.int .i64 (.lit 0)))]), (.one (.z (.int .i64 (.lit 1))))]), [], 6))
 (.ite (.not (.fn 31 (.i (.var 4) (.i (.var 5) (.i (.var 6) (.i (.var 7) .nil))))))
 (.ret ((.tup [(.agg [(.z (.int .i64 (.lit 0))), (.z (.int .i64 (.lit 0))), (.z (.int .i64 (.lit 0))), (.z (.int .i64 (.lit 0)))]), (.one (.z (.int .i64 (.lit 1))))]), [], 6))
 (.ite (.not (.fn 30 (.i (.var 0) (.i (.var 1) .nil))))
 (.ite (.not (.fn 30 (.i (.var 2) (.i (.var 3) .nil))))
 (.ret ((.tup [(.agg [(.z (.int .i64 (.lit 0))), (.z (.int .i64 (.lit 0))), (.z (.int .i64 (.lit 0))), (.z (.int .i64 (.lit 0)))]), (.one (.z (.int .i64 (.lit 1))))]), [], 14))
 (.ite (.not (.fn 30 (.i (.var 6) (.i (.var 7) .nil))))
 (.ret ((.tup [(.agg [(.z (.int .i64 (.lit 0))), (.z (.int .i64 (.lit 0))), (.z (.int .i64 (.lit 0))), (.z (.int .i64 (.lit 0)))]), (.one (.z (.int .i64 (.lit 1))))]), [], 14))
 (.ret ((.tup [(.agg [(.z (.int .i64 (.lit 0))), (.z (.int .i64 (.lit 0))), (.z (.int .i64 (.lit 0))), (.z (.int .i64 (.lit 0)))]), (.one (.z (.int .i64 (.lit 1))))]), [], 14))))
 (.ite (.not (.fn 30 (.i (.var 4) (.i (.var 5) .nil))))
 (.ite (.not (.fn 30 (.i (.var 2) (.i (.var 3) .nil))))
 (.ret ((.tup [(.agg [(.z (.int .i64 (.lit 0))), (.z (.int .i64 (.lit 0))), (.z (.int .i64 (.lit 0))), (.z (.int .i64 (.lit 0)))]), (.one (.z (.int .i64 (.lit 1))))]), [], 14))
 (.ite (.not (.fn 30 (.i (.var 6) (.i (.var 7) .nil))))
 (.ret ((.tup [(.agg [(.z (.int .i64 (.lit 0))), (.z (.int .i64 (.lit 0))), (.z (.int .i64 (.lit 0))), (.z (.int .i64 (.lit 0)))]), (.one (.z (.int .i64 (.lit 1))))]), [], 14))
 (.ret ((.tup [(.agg [(.z (.int .i64 (.lit 0))), (.z (.int .i64 (.lit 0))), (.z (.int .i64 (.lit 0))), (.z (.int .i64 (.lit 0)))]), (.one (.z (.int .i64 (.lit 1))))]), [], 14))))
 (.ite (.not (.fn 30 (.i (.var 2) (.i (.var 3) .nil))))
 (.ret ((.tup [(.agg [(.z (.int .i64 (.lit 0))), (.z (.int .i64 (.lit 0))), (.z (.int .i64 (.lit 0))), (.z (.int .i64 (.lit 0)))]), (.one (.z (.int .i64 (.lit 1))))]), [], 14))
 (.ite (.not (.fn 30 (.i (.var 6) (.i (.var 7) .nil))))
 (.ret ((.tup [(.agg [(.z (.int .i64 (.lit 0))), (.z (.int .i64 (.lit 0))), (.z (.int .i64 (.lit 0))), (.z (.int .i64 (.lit 0)))]), (.one (.z (.int .i64 (.lit 1))))]), [], 14))
 (.ret ((.tup [(.agg [(.z (.int .i64 (.mn (.var 0) (.var 4)))), (.z (.int .i64 (.mx (.var 1) (.var 5)))), (.z (.int .i64 (.mn (.var 2) (.var 6)))), (.z (.int .i64 (.mx (.var 3) (.var 7))))]), (.one (.z (.int .i64 (.lit 0))))]), [], 14))))))))
-- end trJoin
set_option maxRecDepth 100000 in
theorem trJoin_is : T.norm 0 (call Tryz.prog ctS2 (Lt.of []) 100 54 (symArgs 0 [bx, bx]) [] 0) TT.ret = trJoin := by kernel_rfl
theorem trJoin_low : trJoin.low 1000 = true := by kernel_rfl
-- term trMeetB: call Tryz.prog ctS2 (Lt.of []) 100 51 (symArgs 0 [bx, bx]) [] 0
def trMeetB : TT OpR :=
(.ite (.not (.fn 31 (.i (.var 0) (.i (.var 1) (.i (.var 2) (.i (.var 3) .nil))))))
 (.ret ((.tup [(.agg [(.z (.int .i64 (.lit 0))), (.z (.int .i64 (.lit 0))), (.z (.int .i64 (.lit 0))), (.z (.int .i64 (.lit 0)))]), (.one (.z (.int .i64 (.lit 1))))]), [], 6))
 (.ite (.not (.fn 31 (.i (.var 4) (.i (.var 5) (.i (.var 6) (.i (.var 7) .nil))))))
 (.ret ((.tup [(.agg [(.z (.int .i64 (.lit 0))), (.z (.int .i64 (.lit 0))), (.z (.int .i64 (.lit 0))), (.z (.int .i64 (.lit 0)))]), (.one (.z (.int .i64 (.lit 1))))]), [], 6))
 (.ite (.not (.fn 30 (.i (.var 0) (.i (.var 1) .nil))))
 (.ite (.not (.fn 30 (.i (.var 2) (.i (.var 3) .nil))))
 (.ret ((.tup [(.agg [(.z (.int .i64 (.lit 0))), (.z (.int .i64 (.lit 0))), (.z (.int .i64 (.lit 0))), (.z (.int .i64 (.lit 0)))]), (.one (.z (.int .i64 (.lit 1))))]), [], 14))
 (.ite (.not (.fn 30 (.i (.var 6) (.i (.var 7) .nil))))
 (.ret ((.tup [(.agg [(.z (.int .i64 (.lit 0))), (.z (.int .i64 (.lit 0))), (.z (.int .i64 (.lit 0))), (.z (.int .i64 (.lit 0)))]), (.one (.z (.int .i64 (.lit 1))))]), [], 14))
 (.ite (.cmp .lss (.mn (.var 3) (.var 7)) (.mx (.var 2) (.var 6)))
 (.ret ((.tup [(.agg [(.z (.int .i64 (.lit 0))), (.z (.int .i64 (.lit 0))), (.z (.int .i64 (.lit 0))), (.z (.int .i64 (.lit 0)))]), (.one (.z (.int .i64 (.lit 4))))]), [], 15))
 (.ret ((.tup [(.agg [(.z (.int .i64 (.lit 0))), (.z (.int .i64 (.lit 0))), (.z (.int .i64 (.lit 0))), (.z (.int .i64 (.lit 0)))]), (.one (.z (.int .i64 (.lit 1))))]), [], 15)))))
 (.ite (.not (.fn 30 (.i (.var 4) (.i (.var 5) .nil))))
 (.ite (.not (.fn 30 (.i (.var 2) (.i (.var 3) .nil))))
 (.ret ((.tup [(.agg [(.z (.int .i64 (.lit 0))), (.z (.int .i64 (.lit 0))), (.z (.int .i64 (.lit 0))), (.z (.int .i64 (.lit 0)))]), (.one (.z (.int .i64 (.lit 1))))]), [], 14))
 (.ite (.not (.fn 30 (.i (.var 6) (.i (.var 7) .nil))))
 (.ret ((.tup [(.agg [(.z (.int .i64 (.lit 0))), (.z (.int .i64 (.lit 0))), (.z (.int .i64 (.lit 0))), (.z (.int .i64 (.lit 0)))]), (.one (.z (.int .i64 (.lit 1))))]), [], 14))
 (.ite (.cmp .lss (.mn (.var 3) (.var 7)) (.mx (.var 2) (.var 6)))
 (.ret ((.tup [(.agg [(.z (.int .i64 (.lit 0))), (.z (.int .i64 (.lit 0))), (.z (.int .i64 (.lit 0))), (.z (.int .i64 (.lit 0)))]), (.one (.z (.int .i64 (.lit 4))))]), [], 15))
 (.ret ((.tup [(.agg [(.z (.int .i64 (.lit 0))), (.z (.int .i64 (.lit 0))), (.z (.int .i64 (.lit 0))), (.z (.int .i64 (.lit 0)))]), (.one (.z (.int .i64 (.lit 1))))]), [], 15)))))
 (.ite (.cmp .lss (.mn (.var 1) (.var 5)) (.mx (.var 0) (.var 4)))
 (.ite (.not (.fn 30 (.i (.var 2) (.i (.var 3) .nil))))
 (.ret ((.tup [(.agg [(.z (.int .i64 (.lit 0))), (.z (.int .i64 (.lit 0))), (.z (.int .i64 (.lit 0))), (.z (.int .i64 (.lit 0)))]), (.one (.z (.int .i64 (.lit 4))))]), [], 15))
 (.ite (.not (.fn 30 (.i (.var 6) (.i (.var 7) .nil))))
 (.ret ((.tup [(.agg [(.z (.int .i64 (.lit 0))), (.z (.int .i64 (.lit 0))), (.z (.int .i64 (.lit 0))), (.z (.int .i64 (.lit 0)))]), (.one (.z (.int .i64 (.lit 4))))]), [], 15))
 (.ite (.cmp .lss (.mn (.var 3) (.var 7)) (.mx (.var 2) (.var 6)))
 (.ret ((.tup [(.agg [(.z (.int .i64 (.lit 0))), (.z (.int .i64 (.lit 0))), (.z (.int .i64 (.lit 0))), (.z (.int .i64 (.lit 0)))]), (.one (.z (.int .i64 (.lit 4))))]), [], 16))
 (.ret ((.tup [(.agg [(.z (.int .i64 (.lit 0))), (.z (.int .i64 (.lit 0))), (.z (.int .i64 (.lit 0))), (.z (.int .i64 (.lit 0)))]), (.one (.z (.int .i64 (.lit 4))))]), [], 16)))))
 (.ite (.not (.fn 30 (.i (.var 2) (.i (.var 3) .nil))))
 (.ret ((.tup [(.agg [(.z (.int .i64 (.lit 0))), (.z (.int .i64 (.lit 0))), (.z (.int .i64 (.lit 0))), (.z (.int .i64 (.lit 0)))]), (.one (.z (.int .i64 (.lit 1))))]), [], 15))
 (.ite (.not (.fn 30 (.i (.var 6) (.i (.var 7) .nil))))
 (.ret ((.tup [(.agg [(.z (.int .i64 (.lit 0))), (.z (.int .i64 (.lit 0))), (.z (.int .i64 (.lit 0))), (.z (.int .i64 (.lit 0)))]), (.one (.z (.int .i64 (.lit 1))))]), [], 15))
 (.ite (.cmp .lss (.mn (.var 3) (.var 7)) (.mx (.var 2) (.var 6)))
 (.ret ((.tup [(.agg [(.z (.int .i64 (.lit 0))), (.z (.int .i64 (.lit 0))), (.z (.int .i64 (.lit 0))), (.z (.int .i64 (.lit 0)))]), (.one (.z (.int .i64 (.lit 4))))]), [], 16))
 (.ret ((.tup [(.agg [(.z (.int .i64 (.mx (.var 0) (.var 4)))), (.z (.int .i64 (.mn (.var 1) (.var 5)))), (.z (.int .i64 (.mx (.var 2) (.var 6)))), (.z (.int .i64 (.mn (.var 3) (.var 7))))]), (.one (.z (.int .i64 (.lit 0))))]), [], 16))))))))))
-- end trMeetB
set_option maxRecDepth 100000 in
theorem trMeetB_is : T.norm 0 (call Tryz.prog ctS2 (Lt.of []) 100 51 (symArgs 0 [bx, bx]) [] 0) TT.ret = trMeetB := by kernel_rfl
theorem trMeetB_low : trMeetB.low 1000 = true := by kernel_rfl
-- term trGrow: call Tryz.prog ctS2 (Lt.of []) 100 55 (symArgs 0 [bx, it]) [] 0
def trGrow : TT OpR :=
(.ite (.not (.fn 31 (.i (.var 0) (.i (.var 1) (.i (.var 2) (.i (.var 3) .nil))))))
 (.ret ((.tup [(.agg [(.z (.int .i64 (.lit 0))), (.z (.int .i64 (.lit 0))), (.z (.int .i64 (.lit 0))), (.z (.int .i64 (.lit 0)))]), (.one (.z (.int .i64 (.lit 1))))]), [], 3))
 (.ite (.cmp .lss (.var 4) (.lit 0))
 (.ret ((.tup [(.agg [(.z (.int .i64 (.lit 0))), (.z (.int .i64 (.lit 0))), (.z (.int .i64 (.lit 0))), (.z (.int .i64 (.lit 0)))]), (.one (.z (.int .i64 (.lit 1))))]), [], 3))
 (.ite (.cmp .gtr (.var 4) (.lit 3000000))
 (.ret ((.tup [(.agg [(.z (.int .i64 (.lit 0))), (.z (.int .i64 (.lit 0))), (.z (.int .i64 (.lit 0))), (.z (.int .i64 (.lit 0)))]), (.one (.z (.int .i64 (.lit 1))))]), [], 3))
 (.ite (.not (.fn 31 (.i (.ar .sub .i64 (.var 0) (.var 4)) (.i (.ar .add .i64 (.var 1) (.var 4)) (.i (.ar .sub .i64 (.var 2) (.var 4)) (.i (.ar .add .i64 (.var 3) (.var 4)) .nil))))))
 (.ret ((.tup [(.agg [(.z (.int .i64 (.lit 0))), (.z (.int .i64 (.lit 0))), (.z (.int .i64 (.lit 0))), (.z (.int .i64 (.lit 0)))]), (.one (.z (.int .i64 (.lit 3))))]), [], 8))
 (.ret ((.tup [(.agg [(.z (.int .i64 (.ar .sub .i64 (.var 0) (.var 4)))), (.z (.int .i64 (.ar .add .i64 (.var 1) (.var 4)))), (.z (.int .i64 (.ar .sub .i64 (.var 2) (.var 4)))), (.z (.int .i64 (.ar .add .i64 (.var 3) (.var 4))))]), (.one (.z (.int .i64 (.lit 0))))]), [], 8))))))
-- end trGrow
set_option maxRecDepth 100000 in
theorem trGrow_is : T.norm 0 (call Tryz.prog ctS2 (Lt.of []) 100 55 (symArgs 0 [bx, it]) [] 0) TT.ret = trGrow := by kernel_rfl
theorem trGrow_low : trGrow.low 1000 = true := by kernel_rfl
end Go.Proofs.YtkjjkckcjgkhmaaGreat
/- Chapter 38: span.JoinBox, MeetBox, GrowBox. -/
namespace Go.Proofs.YtkjjkckcjgkhmaaGreat
open Go.RowKit
def boxE (a b c d e : Int) : Value := .tuple #[.agg #[.int .i64 a, .int .i64 b, .int .i64 c, .int .i64 d], .int .i64 e]
def box8 (ds : List D) : Bool := boxB (iAt ds 0) (iAt ds 1) (iAt ds 2) (iAt ds 3) && boxB (iAt ds 4) (iAt ds 5) (iAt ds 6) (iAt ds 7)
theorem boxB_t (a b c d : Int) : (boxB a b c d = true) = ((-1000000 ≤ a ∧ a ≤ b ∧ b ≤ 1000000) ∧ -1000000 ≤ c ∧ c ≤ d ∧ d ≤ 1000000) := by simp [boxB]
theorem boxB_f (a b c d : Int) : (boxB a b c d = false) = ¬ ((-1000000 ≤ a ∧ a ≤ b ∧ b ≤ 1000000) ∧ -1000000 ≤ c ∧ c ≤ d ∧ d ≤ 1000000) := by rw [← boxB_t]; simp
theorem K2_30 (W : World) (ds l : List D) : (envOf KS2 W ds).fb 30 l = spanL l := by simp only [envOf, KS2]
theorem K2_31 (W : World) (ds l : List D) : (envOf KS2 W ds).fb 31 l = boxL l := by simp only [envOf, KS2]
theorem box_four (a b c d : Int) : boxL [.i a, .i b, .i c, .i d] = boxB a b c d := rfl
theorem box_spans {a b c d : Int} (h : boxB a b c d = true) : spanB a b = true ∧ spanB c d = true := by
  rw [boxB_t] at h; rw [spanB_t, spanB_t]; omega
def joinBV (ds : List D) : Value := if box8 ds then boxE (min (iAt ds 0) (iAt ds 4)) (max (iAt ds 1) (iAt ds 5)) (min (iAt ds 2) (iAt ds 6)) (max (iAt ds 3) (iAt ds 7)) 0 else boxE 0 0 0 0 1
theorem gJoin : Gives Tryz.prog 54 [bx, bx] joinBV := by
  refine GivesIf.all (fn_gives KS2 (by kernel_rfl) (fun ρ h => ctS2_ok h) (by kernel_rfl) trJoin_is trJoin_low (by decide) (fun W vals ds _ _ => ?_))
  simp only [trJoin, TT.sat_ret, TT.sat_ite, B.ev, E.ev, AL.ev, V.plain, V2.plain, S.plain, S0.plain, V.val, V2.val, S.val, S0.val, List.all_cons, List.all_nil, Bool.and_self, envOf_i, List.map_cons, List.map_nil, true_and, Bool.not_eq_true', Bool.not_eq_false', K2_30, K2_31, span_two, box_four]
  cases h1 : boxB (iAt ds 0) (iAt ds 1) (iAt ds 2) (iAt ds 3)
  · simp [joinBV, box8, h1, boxE]
  · cases h2 : boxB (iAt ds 4) (iAt ds 5) (iAt ds 6) (iAt ds 7)
    · simp [joinBV, box8, h1, h2, boxE]
    · simp [joinBV, box8, h1, h2, boxE, box_spans h1, box_spans h2]
def meetOn (ds : List D) : Bool := decide (max (iAt ds 0) (iAt ds 4) ≤ min (iAt ds 1) (iAt ds 5) ∧ max (iAt ds 2) (iAt ds 6) ≤ min (iAt ds 3) (iAt ds 7))
def meetBV (ds : List D) : Value := if box8 ds then (if meetOn ds then boxE (max (iAt ds 0) (iAt ds 4)) (min (iAt ds 1) (iAt ds 5)) (max (iAt ds 2) (iAt ds 6)) (min (iAt ds 3) (iAt ds 7)) 0 else boxE 0 0 0 0 4) else boxE 0 0 0 0 1
theorem gMeetB : Gives Tryz.prog 51 [bx, bx] meetBV := by
  refine GivesIf.all (fn_gives KS2 (by kernel_rfl) (fun ρ h => ctS2_ok h) (by kernel_rfl) trMeetB_is trMeetB_low (by decide) (fun W vals ds _ _ => ?_))
  simp only [trMeetB, TT.sat_ret, TT.sat_ite, B.ev, E.ev, AL.ev, cmp_t, cmp_f, V.plain, V2.plain, S.plain, S0.plain, V.val, V2.val, S.val, S0.val, List.all_cons, List.all_nil, Bool.and_self, envOf_i, List.map_cons, List.map_nil, true_and, Bool.not_eq_true', Bool.not_eq_false', cmpP, K2_30, K2_31, span_two, box_four]
  cases h1 : boxB (iAt ds 0) (iAt ds 1) (iAt ds 2) (iAt ds 3)
  · simp [meetBV, box8, h1, boxE]
  · cases h2 : boxB (iAt ds 4) (iAt ds 5) (iAt ds 6) (iAt ds 7)
    · simp [meetBV, box8, h1, h2, boxE]
    · rw [show meetBV ds = if meetOn ds = true then boxE (max (iAt ds 0) (iAt ds 4)) (min (iAt ds 1) (iAt ds 5)) (max (iAt ds 2) (iAt ds 6)) (min (iAt ds 3) (iAt ds 7)) 0 else boxE 0 0 0 0 4 from by simp [meetBV, box8, h1, h2]]
      cases h : meetOn ds <;> simp only [meetOn, decide_eq_true_eq, decide_eq_false_iff_not] at h <;> simp only [box_spans h1, box_spans h2, reduceCtorEq, if_true, if_false, false_implies, forall_const, true_and, and_true, boxE, cmpP, Bool.false_eq_true]
      · refine ⟨fun a => ?_, fun a => ⟨fun b => ?_, fun b => ?_⟩⟩ <;> first | (exfalso; omega) | simp
      · refine ⟨fun a => ?_, fun a => ⟨fun b => ?_, fun b => ?_⟩⟩ <;> first | (exfalso; omega) | simp
def growV (ds : List D) : Value := if boxB (iAt ds 0) (iAt ds 1) (iAt ds 2) (iAt ds 3) ∧ 0 ≤ iAt ds 4 ∧ iAt ds 4 ≤ 3000000 then (if boxB (iAt ds 0 - iAt ds 4) (iAt ds 1 + iAt ds 4) (iAt ds 2 - iAt ds 4) (iAt ds 3 + iAt ds 4) then boxE (iAt ds 0 - iAt ds 4) (iAt ds 1 + iAt ds 4) (iAt ds 2 - iAt ds 4) (iAt ds 3 + iAt ds 4) 0 else boxE 0 0 0 0 3) else boxE 0 0 0 0 1
theorem gGrow : Gives Tryz.prog 55 [bx, it] growV := by
  refine GivesIf.all (fn_gives KS2 (by kernel_rfl) (fun ρ h => ctS2_ok h) (by kernel_rfl) trGrow_is trGrow_low (by decide) (fun W vals ds _ _ => ?_))
  simp only [trGrow, TT.sat_ret, TT.sat_ite, B.ev, E.ev, AL.ev, cmp_t, cmp_f, arEv, V.plain, V2.plain, S.plain, S0.plain, V.val, V2.val, S.val, S0.val, List.all_cons, List.all_nil, Bool.and_self, envOf_i, List.map_cons, List.map_nil, true_and, Bool.not_eq_true', Bool.not_eq_false', cmpP, K2_30, K2_31, span_two, box_four, cmpP]
  refine ⟨fun h1 => ?_, fun h1 => ⟨fun h2 => ?_, fun h2 => ⟨fun h3 => ?_, fun h3 => ?_⟩⟩⟩
  · simp [growV, h1, boxE]
  · rw [growV, if_neg (by omega)]; rfl
  · rw [growV, if_neg (by omega)]; rfl
  · have h4 := h1
    rw [boxB_t] at h4
    rw [wrap_in _ (by omega) (by omega), wrap_in _ (by omega) (by omega), wrap_in _ (by omega) (by omega), wrap_in _ (by omega) (by omega)]
    rw [growV, if_pos ⟨h1, by omega, by omega⟩]
    refine ⟨fun h5 => ?_, fun h5 => ?_⟩
    · rw [h5]; rfl
    · rw [h5]; rfl
end Go.Proofs.YtkjjkckcjgkhmaaGreat
/- Chapter 38: contracts of span's boxes; all symbols so far. -/
namespace Go.Proofs.YtkjjkckcjgkhmaaGreat
open Go.RowKit
def uniA (ds : List D) : Int := if box8 ds then min (iAt ds 0) (iAt ds 4) else 0
def uniB (ds : List D) : Int := if box8 ds then max (iAt ds 1) (iAt ds 5) else 0
def uniC (ds : List D) : Int := if box8 ds then min (iAt ds 2) (iAt ds 6) else 0
def uniD (ds : List D) : Int := if box8 ds then max (iAt ds 3) (iAt ds 7) else 0
def uniE (ds : List D) : Int := if box8 ds then 0 else 1
def meet8 (ds : List D) : Bool := box8 ds && meetOn ds
def meetA (ds : List D) : Int := if meet8 ds then max (iAt ds 0) (iAt ds 4) else 0
def meetBB (ds : List D) : Int := if meet8 ds then min (iAt ds 1) (iAt ds 5) else 0
def meetC (ds : List D) : Int := if meet8 ds then max (iAt ds 2) (iAt ds 6) else 0
def meetD (ds : List D) : Int := if meet8 ds then min (iAt ds 3) (iAt ds 7) else 0
def meetE (ds : List D) : Int := if meet8 ds then 0 else if box8 ds then 4 else 1
def growO (ds : List D) : Bool := boxB (iAt ds 0) (iAt ds 1) (iAt ds 2) (iAt ds 3) && decide (0 ≤ iAt ds 4 ∧ iAt ds 4 ≤ 3000000)
def growX (ds : List D) : Bool := growO ds && boxB (iAt ds 0 - iAt ds 4) (iAt ds 1 + iAt ds 4) (iAt ds 2 - iAt ds 4) (iAt ds 3 + iAt ds 4)
def growA (ds : List D) : Int := if growX ds then iAt ds 0 - iAt ds 4 else 0
def growB (ds : List D) : Int := if growX ds then iAt ds 1 + iAt ds 4 else 0
def growC (ds : List D) : Int := if growX ds then iAt ds 2 - iAt ds 4 else 0
def growD (ds : List D) : Int := if growX ds then iAt ds 3 + iAt ds 4 else 0
def growE (ds : List D) : Int := if growX ds then 0 else if growO ds then 3 else 1
theorem joinV_eq (ds : List D) : joinBV ds = boxE (uniA ds) (uniB ds) (uniC ds) (uniD ds) (uniE ds) := by
  unfold joinBV uniA uniB uniC uniD uniE; split <;> rfl
theorem meetV_eq (ds : List D) : meetBV ds = boxE (meetA ds) (meetBB ds) (meetC ds) (meetD ds) (meetE ds) := by
  unfold meetBV meetA meetBB meetC meetD meetE meet8; cases box8 ds <;> cases meetOn ds <;> rfl
theorem growV_eq (ds : List D) : growV ds = boxE (growA ds) (growB ds) (growC ds) (growD ds) (growE ds) := by
  unfold growV growA growB growC growD growE growX growO
  by_cases h : boxB (iAt ds 0) (iAt ds 1) (iAt ds 2) (iAt ds 3) = true ∧ 0 ≤ iAt ds 4 ∧ iAt ds 4 ≤ 3000000
  · rw [if_pos h, h.1, decide_eq_true h.2]
    cases boxB (iAt ds 0 - iAt ds 4) (iAt ds 1 + iAt ds 4) (iAt ds 2 - iAt ds 4) (iAt ds 3 + iAt ds 4) <;> rfl
  · rw [if_neg h]
    have : (boxB (iAt ds 0) (iAt ds 1) (iAt ds 2) (iAt ds 3) && decide (0 ≤ iAt ds 4 ∧ iAt ds 4 ≤ 3000000)) = false := by
      rw [and_f, decide_eq_true_eq]; exact h
    rw [this]; rfl
def K5 : Interp where
  fi n l := match n with | 32 => uniA l | 33 => uniB l | 34 => uniC l | 35 => uniD l | 36 => uniE l | 37 => meetA l | 38 => meetBB l | 39 => meetC l | 40 => meetD l | 41 => meetE l | 42 => growA l | 43 => growB l | 44 => growC l | 45 => growD l | 46 => growE l | n => K.fi n l
  fb n l := match n with | 30 => spanL l | 31 => boxL l | n => K.fb n l
  fd _ _ := []
def bx5 (a b c d e : S) : V := .tup [.agg [a, b, c, d], .one e]
def cJoin := ctD [bx, bx] fun al => .ret (bx5 (sIF 32 uniA al) (sIF 33 uniB al) (sIF 34 uniC al) (sIF 35 uniD al) (sIF 36 uniE al))
def cMeetB := ctD [bx, bx] fun al => .ret (bx5 (sIF 37 meetA al) (sIF 38 meetBB al) (sIF 39 meetC al) (sIF 40 meetD al) (sIF 41 meetE al))
def cGrow := ctD [bx, it] fun al => .ret (bx5 (sIF 42 growA al) (sIF 43 growB al) (sIF 44 growC al) (sIF 45 growD al) (sIF 46 growE al))
section
variable {ρ : Env} (h : Sees ρ K5 50)
include h
theorem K5_K : Sees ρ K 30 := h.trans (by decide) fun n l hn => by
  constructor
  · simp only [K5]
    split <;> first | omega | rfl
  · simp only [K5]
    split <;> first | omega | rfl
theorem cJoin_ok : CtOne Tryz.prog ρ 54 cJoin :=
  ctD_ok gJoin (fun _ => rfl) (fun al => by
    simp only [bx5, V.val, V2.val, S.val, S0.val, sIF, List.map_cons, List.map_nil, iF_ev (s := 32) (f := uniA) (fun l => by rw [(h 32 l (by decide)).1]; simp only [K5]), iF_ev (s := 33) (f := uniB) (fun l => by rw [(h 33 l (by decide)).1]; simp only [K5]), iF_ev (s := 34) (f := uniC) (fun l => by rw [(h 34 l (by decide)).1]; simp only [K5]), iF_ev (s := 35) (f := uniD) (fun l => by rw [(h 35 l (by decide)).1]; simp only [K5]), iF_ev (s := 36) (f := uniE) (fun l => by rw [(h 36 l (by decide)).1]; simp only [K5])]; rw [joinV_eq]; rfl)
theorem cMeetB_ok : CtOne Tryz.prog ρ 51 cMeetB :=
  ctD_ok gMeetB (fun _ => rfl) (fun al => by
    simp only [bx5, V.val, V2.val, S.val, S0.val, sIF, List.map_cons, List.map_nil, iF_ev (s := 37) (f := meetA) (fun l => by rw [(h 37 l (by decide)).1]; simp only [K5]), iF_ev (s := 38) (f := meetBB) (fun l => by rw [(h 38 l (by decide)).1]; simp only [K5]), iF_ev (s := 39) (f := meetC) (fun l => by rw [(h 39 l (by decide)).1]; simp only [K5]), iF_ev (s := 40) (f := meetD) (fun l => by rw [(h 40 l (by decide)).1]; simp only [K5]), iF_ev (s := 41) (f := meetE) (fun l => by rw [(h 41 l (by decide)).1]; simp only [K5])]; rw [meetV_eq]; rfl)
theorem cGrow_ok : CtOne Tryz.prog ρ 55 cGrow :=
  ctD_ok gGrow (fun _ => rfl) (fun al => by
    simp only [bx5, V.val, V2.val, S.val, S0.val, sIF, List.map_cons, List.map_nil, iF_ev (s := 42) (f := growA) (fun l => by rw [(h 42 l (by decide)).1]; simp only [K5]), iF_ev (s := 43) (f := growB) (fun l => by rw [(h 43 l (by decide)).1]; simp only [K5]), iF_ev (s := 44) (f := growC) (fun l => by rw [(h 44 l (by decide)).1]; simp only [K5]), iF_ev (s := 45) (f := growD) (fun l => by rw [(h 45 l (by decide)).1]; simp only [K5]), iF_ev (s := 46) (f := growE) (fun l => by rw [(h 46 l (by decide)).1]; simp only [K5])]; rw [growV_eq]; rfl)
theorem cSpV5_ok : CtOne Tryz.prog ρ 165 cSpV := cSpV_ok (fun l => by rw [(h 30 l (by decide)).2]; simp only [K5])
theorem cBoxV5_ok : CtOne Tryz.prog ρ 48 cBoxV := cBoxV_ok (fun l => by rw [(h 31 l (by decide)).2]; simp only [K5])
end
def ct5 : Ct := (165, cSpV) :: (48, cBoxV) :: (54, cJoin) :: (51, cMeetB) :: (55, cGrow) :: ctH
theorem ct5_ok {ρ : Env} (h : Sees ρ K5 50) : CtOk Tryz.prog ρ ct5 := .cons (cSpV5_ok h) <| .cons (cBoxV5_ok h) <| .cons (cJoin_ok h) <| .cons (cMeetB_ok h) <| .cons (cGrow_ok h) (ctH_ok (K5_K h))
end Go.Proofs.YtkjjkckcjgkhmaaGreat
/- Chapter 38: trees of span.WithinBox, InBox; passage.Zone, Holds, Concerns. -/
namespace Go.Proofs.YtkjjkckcjgkhmaaGreat
open Go.RowKit
-- term trZone: call Tryz.prog ct5 (Lt.of []) 100 17 (symArgs 0 [psg, it]) [] 0
def trZone : TT OpR :=
(.ite (.not (.fn 20 (.i (.var 0) (.i (.var 1) (.i (.var 2) (.x (.var 3) .nil))))))
 (.ret ((.tup [(.agg [(.z (.int .i64 (.lit 0))), (.z (.int .i64 (.lit 0))), (.z (.int .i64 (.lit 0))), (.z (.int .i64 (.lit 0)))]), (.one (.z (.int .i64 (.lit 1))))]), [], 2))
 (.ite (.cmp .lss (.var 4) (.lit 0))
 (.ret ((.tup [(.agg [(.z (.int .i64 (.lit 0))), (.z (.int .i64 (.lit 0))), (.z (.int .i64 (.lit 0))), (.z (.int .i64 (.lit 0)))]), (.one (.z (.int .i64 (.lit 1))))]), [], 2))
 (.ite (.cmp .geq (.var 4) (.len (.var 3)))
 (.ret ((.tup [(.agg [(.z (.int .i64 (.lit 0))), (.z (.int .i64 (.lit 0))), (.z (.int .i64 (.lit 0))), (.z (.int .i64 (.lit 0)))]), (.one (.z (.int .i64 (.lit 1))))]), [], 2))
 (.ob (.tru (.cmp .leq (.lit 0) (.var 4)))
 (.ob (.tru (.cmp .lss (.var 4) (.len (.var 3))))
 (.ob (.tru (.cmp .leq (.lit 0) (.var 4)))
 (.ob (.tru (.cmp .lss (.var 4) (.len (.var 3))))
 (.ret ((.tup [(.agg [(.z (.int .i64 (.fn 42 (.i (.fn 32 (.i (.rd (.var 3) (.var 4) 0) (.i (.rd (.var 3) (.var 4) 0) (.i (.rd (.var 3) (.var 4) 1) (.i (.rd (.var 3) (.var 4) 1) (.i (.rd (.var 3) (.var 4) 2) (.i (.rd (.var 3) (.var 4) 2) (.i (.rd (.var 3) (.var 4) 3) (.i (.rd (.var 3) (.var 4) 3) .nil))))))))) (.i (.fn 33 (.i (.rd (.var 3) (.var 4) 0) (.i (.rd (.var 3) (.var 4) 0) (.i (.rd (.var 3) (.var 4) 1) (.i (.rd (.var 3) (.var 4) 1) (.i (.rd (.var 3) (.var 4) 2) (.i (.rd (.var 3) (.var 4) 2) (.i (.rd (.var 3) (.var 4) 3) (.i (.rd (.var 3) (.var 4) 3) .nil))))))))) (.i (.fn 34 (.i (.rd (.var 3) (.var 4) 0) (.i (.rd (.var 3) (.var 4) 0) (.i (.rd (.var 3) (.var 4) 1) (.i (.rd (.var 3) (.var 4) 1) (.i (.rd (.var 3) (.var 4) 2) (.i (.rd (.var 3) (.var 4) 2) (.i (.rd (.var 3) (.var 4) 3) (.i (.rd (.var 3) (.var 4) 3) .nil))))))))) (.i (.fn 35 (.i (.rd (.var 3) (.var 4) 0) (.i (.rd (.var 3) (.var 4) 0) (.i (.rd (.var 3) (.var 4) 1) (.i (.rd (.var 3) (.var 4) 1) (.i (.rd (.var 3) (.var 4) 2) (.i (.rd (.var 3) (.var 4) 2) (.i (.rd (.var 3) (.var 4) 3) (.i (.rd (.var 3) (.var 4) 3) .nil))))))))) (.i (.var 2) .nil)))))))), (.z (.int .i64 (.fn 43 (.i (.fn 32 (.i (.rd (.var 3) (.var 4) 0) (.i (.rd (.var 3) (.var 4) 0) (.i (.rd (.var 3) (.var 4) 1) (.i (.rd (.var 3) (.var 4) 1) (.i (.rd (.var 3) (.var 4) 2) (.i (.rd (.var 3) (.var 4) 2) (.i (.rd (.var 3) (.var 4) 3) (.i (.rd (.var 3) (.var 4) 3) .nil))))))))) (.i (.fn 33 (.i (.rd (.var 3) (.var 4) 0) (.i (.rd (.var 3) (.var 4) 0) (.i (.rd (.var 3) (.var 4) 1) (.i (.rd (.var 3) (.var 4) 1) (.i (.rd (.var 3) (.var 4) 2) (.i (.rd (.var 3) (.var 4) 2) (.i (.rd (.var 3) (.var 4) 3) (.i (.rd (.var 3) (.var 4) 3) .nil))))))))) (.i (.fn 34 (.i (.rd (.var 3) (.var 4) 0) (.i (.rd (.var 3) (.var 4) 0) (.i (.rd (.var 3) (.var 4) 1) (.i (.rd (.var 3) (.var 4) 1) (.i (.rd (.var 3) (.var 4) 2) (.i (.rd (.var 3) (.var 4) 2) (.i (.rd (.var 3) (.var 4) 3) (.i (.rd (.var 3) (.var 4) 3) .nil))))))))) (.i (.fn 35 (.i (.rd (.var 3) (.var 4) 0) (.i (.rd (.var 3) (.var 4) 0) (.i (.rd (.var 3) (.var 4) 1) (.i (.rd (.var 3) (.var 4) 1) (.i (.rd (.var 3) (.var 4) 2) (.i (.rd (.var 3) (.var 4) 2) (.i (.rd (.var 3) (.var 4) 3) (.i (.rd (.var 3) (.var 4) 3) .nil))))))))) (.i (.var 2) .nil)))))))), (.z (.int .i64 (.fn 44 (.i (.fn 32 (.i (.rd (.var 3) (.var 4) 0) (.i (.rd (.var 3) (.var 4) 0) (.i (.rd (.var 3) (.var 4) 1) (.i (.rd (.var 3) (.var 4) 1) (.i (.rd (.var 3) (.var 4) 2) (.i (.rd (.var 3) (.var 4) 2) (.i (.rd (.var 3) (.var 4) 3) (.i (.rd (.var 3) (.var 4) 3) .nil))))))))) (.i (.fn 33 (.i (.rd (.var 3) (.var 4) 0) (.i (.rd (.var 3) (.var 4) 0) (.i (.rd (.var 3) (.var 4) 1) (.i (.rd (.var 3) (.var 4) 1) (.i (.rd (.var 3) (.var 4) 2) (.i (.rd (.var 3) (.var 4) 2) (.i (.rd (.var 3) (.var 4) 3) (.i (.rd (.var 3) (.var 4) 3) .nil))))))))) (.i (.fn 34 (.i (.rd (.var 3) (.var 4) 0) (.i (.rd (.var 3) (.var 4) 0) (.i (.rd (.var 3) (.var 4) 1) (.i (.rd (.var 3) (.var 4) 1) (.i (.rd (.var 3) (.var 4) 2) (.i (.rd (.var 3) (.var 4) 2) (.i (.rd (.var 3) (.var 4) 3) (.i (.rd (.var 3) (.var 4) 3) .nil))))))))) (.i (.fn 35 (.i (.rd (.var 3) (.var 4) 0) (.i (.rd (.var 3) (.var 4) 0) (.i (.rd (.var 3) (.var 4) 1) (.i (.rd (.var 3) (.var 4) 1) (.i (.rd (.var 3) (.var 4) 2) (.i (.rd (.var 3) (.var 4) 2) (.i (.rd (.var 3) (.var 4) 3) (.i (.rd (.var 3) (.var 4) 3) .nil))))))))) (.i (.var 2) .nil)))))))), (.z (.int .i64 (.fn 45 (.i (.fn 32 (.i (.rd (.var 3) (.var 4) 0) (.i (.rd (.var 3) (.var 4) 0) (.i (.rd (.var 3) (.var 4) 1) (.i (.rd (.var 3) (.var 4) 1) (.i (.rd (.var 3) (.var 4) 2) (.i (.rd (.var 3) (.var 4) 2) (.i (.rd (.var 3) (.var 4) 3) (.i (.rd (.var 3) (.var 4) 3) .nil))))))))) (.i (.fn 33 (.i (.rd (.var 3) (.var 4) 0) (.i (.rd (.var 3) (.var 4) 0) (.i (.rd (.var 3) (.var 4) 1) (.i (.rd (.var 3) (.var 4) 1) (.i (.rd (.var 3) (.var 4) 2) (.i (.rd (.var 3) (.var 4) 2) (.i (.rd (.var 3) (.var 4) 3) (.i (.rd (.var 3) (.var 4) 3) .nil))))))))) (.i (.fn 34 (.i (.rd (.var 3) (.var 4) 0) (.i (.rd (.var 3) (.var 4) 0) (.i (.rd (.var 3) (.var 4) 1) (.i (.rd (.var 3) (.var 4) 1) (.i (.rd (.var 3) (.var 4) 2) (.i (.rd (.var 3) (.var 4) 2) (.i (.rd (.var 3) (.var 4) 3) (.i (.rd (.var 3) (.var 4) 3) .nil))))))))) (.i (.fn 35 (.i (.rd (.var 3) (.var 4) 0) (.i (.rd (.var 3) (.var 4) 0) (.i (.rd (.var 3) (.var 4) 1) (.i (.rd (.var 3) (.var 4) 1) (.i (.rd (.var 3) (.var 4) 2) (.i (.rd (.var 3) (.var 4) 2) (.i (.rd (.var 3) (.var 4) 3) (.i (.rd (.var 3) (.var 4) 3) .nil))))))))) (.i (.var 2) .nil))))))))]), (.one (.z (.int .i64 (.fn 46 (.i (.fn 32 (.i (.rd (.var 3) (.var 4) 0) (.i (.rd (.var 3) (.var 4) 0) (.i (.rd (.var 3) (.var 4) 1) (.i (.rd (.var 3) (.var 4) 1) (.i (.rd (.var 3) (.var 4) 2) (.i (.rd (.var 3) (.var 4) 2) (.i (.rd (.var 3) (.var 4) 3) (.i (.rd (.var 3) (.var 4) 3) .nil))))))))) (.i (.fn 33 (.i (.rd (.var 3) (.var 4) 0) (.i (.rd (.var 3) (.var 4) 0) (.i (.rd (.var 3) (.var 4) 1) (.i (.rd (.var 3) (.var 4) 1) (.i (.rd (.var 3) (.var 4) 2) (.i (.rd (.var 3) (.var 4) 2) (.i (.rd (.var 3) (.var 4) 3) (.i (.rd (.var 3) (.var 4) 3) .nil))))))))) (.i (.fn 34 (.i (.rd (.var 3) (.var 4) 0) (.i (.rd (.var 3) (.var 4) 0) (.i (.rd (.var 3) (.var 4) 1) (.i (.rd (.var 3) (.var 4) 1) (.i (.rd (.var 3) (.var 4) 2) (.i (.rd (.var 3) (.var 4) 2) (.i (.rd (.var 3) (.var 4) 3) (.i (.rd (.var 3) (.var 4) 3) .nil))))))))) (.i (.fn 35 (.i (.rd (.var 3) (.var 4) 0) (.i (.rd (.var 3) (.var 4) 0) (.i (.rd (.var 3) (.var 4) 1) (.i (.rd (.var 3) (.var 4) 1) (.i (.rd (.var 3) (.var 4) 2) (.i (.rd (.var 3) (.var 4) 2) (.i (.rd (.var 3) (.var 4) 3) (.i (.rd (.var 3) (.var 4) 3) .nil))))))))) (.i (.var 2) .nil)))))))))]), [], 7)))))))))
-- end trZone
set_option maxRecDepth 100000 in
theorem trZone_is : T.norm 0 (call Tryz.prog ct5 (Lt.of []) 100 17 (symArgs 0 [psg, it]) [] 0) TT.ret = trZone := by kernel_rfl
theorem trZone_low : trZone.low 1000 = true := by kernel_rfl
-- term trHolds: call Tryz.prog ct5 (Lt.of []) 100 28 (symArgs 0 [psg, it, it, pt]) [] 0
def trHolds : TT OpR :=
(.ite (.not (.fn 3 (.i (.var 6) (.i (.var 7) .nil))))
 (.ret ((.tup [(.one (.z (.bool (.lit false)))), (.one (.z (.int .i64 (.lit 1))))]), [], 2))
 (.ite (.cmp .geq (.var 5) (.lit 0))
 (.ite (.not (.cmp .leq (.var 5) (.lit 10000000)))
 (.ret ((.tup [(.one (.z (.bool (.lit false)))), (.one (.z (.int .i64 (.lit 1))))]), [], 2))
 (.ite (.cmp .neq (.fn 26 (.i (.var 0) (.i (.var 1) (.i (.var 2) (.x (.var 3) (.i (.var 4) .nil)))))) (.lit 0))
 (.ret ((.tup [(.one (.z (.bool (.lit false)))), (.one (.z (.int .i64 (.fn 26 (.i (.var 0) (.i (.var 1) (.i (.var 2) (.x (.var 3) (.i (.var 4) .nil)))))))))]), [], 3))
 (.ob (.tru (.cmp .leq (.lit 0) (.var 4)))
 (.ob (.tru (.cmp .lss (.var 4) (.len (.var 3))))
 (.ob (.tru (.cmp .leq (.lit 0) (.var 4)))
 (.ob (.tru (.cmp .lss (.var 4) (.len (.var 3))))
 (.ite (.fn 7 (.i (.var 6) (.i (.var 7) (.i (.rd (.var 3) (.var 4) 0) (.i (.rd (.var 3) (.var 4) 1) (.i (.rd (.var 3) (.var 4) 2) (.i (.rd (.var 3) (.var 4) 3) (.i (.var 2) .nil))))))))
 (.ite (.cmp .leq (.fn 24 (.i (.var 0) (.i (.var 1) (.i (.var 2) (.x (.var 3) (.i (.var 4) .nil)))))) (.var 5))
 (.ret ((.tup [(.one (.z (.bool (.cmp .leq (.var 5) (.fn 25 (.i (.var 0) (.i (.var 1) (.i (.var 2) (.x (.var 3) (.i (.var 4) .nil)))))))))), (.one (.z (.int .i64 (.lit 0))))]), [], 3))
 (.ret ((.tup [(.one (.z (.bool (.lit false)))), (.one (.z (.int .i64 (.lit 0))))]), [], 3)))
 (.ret ((.tup [(.one (.z (.bool (.lit false)))), (.one (.z (.int .i64 (.lit 0))))]), [], 3)))))))))
 (.ret ((.tup [(.one (.z (.bool (.lit false)))), (.one (.z (.int .i64 (.lit 1))))]), [], 2))))
-- end trHolds
set_option maxRecDepth 100000 in
theorem trHolds_is : T.norm 0 (call Tryz.prog ct5 (Lt.of []) 100 28 (symArgs 0 [psg, it, it, pt]) [] 0) TT.ret = trHolds := by kernel_rfl
theorem trHolds_low : trHolds.low 1000 = true := by kernel_rfl
end Go.Proofs.YtkjjkckcjgkhmaaGreat
/- Chapter 38: span.WithinBox; passage.Zone, Holds. -/
namespace Go.Proofs.YtkjjkckcjgkhmaaGreat
open Go.RowKit
section
variable (W : World) (ds l : List D)
theorem K5i26 : (envOf K5 W ds).fi 26 l = durE l := by simp only [envOf, K5, K]
theorem K5i24 : (envOf K5 W ds).fi 24 l = durL l := by simp only [envOf, K5, K]
theorem K5i25 : (envOf K5 W ds).fi 25 l = durH l := by simp only [envOf, K5, K]
theorem K5i32 : (envOf K5 W ds).fi 32 l = uniA l := by simp only [envOf, K5]
theorem K5i33 : (envOf K5 W ds).fi 33 l = uniB l := by simp only [envOf, K5]
theorem K5i34 : (envOf K5 W ds).fi 34 l = uniC l := by simp only [envOf, K5]
theorem K5i35 : (envOf K5 W ds).fi 35 l = uniD l := by simp only [envOf, K5]
theorem K5i36 : (envOf K5 W ds).fi 36 l = uniE l := by simp only [envOf, K5]
theorem K5i42 : (envOf K5 W ds).fi 42 l = growA l := by simp only [envOf, K5]
theorem K5i43 : (envOf K5 W ds).fi 43 l = growB l := by simp only [envOf, K5]
theorem K5i44 : (envOf K5 W ds).fi 44 l = growC l := by simp only [envOf, K5]
theorem K5i45 : (envOf K5 W ds).fi 45 l = growD l := by simp only [envOf, K5]
theorem K5i46 : (envOf K5 W ds).fi 46 l = growE l := by simp only [envOf, K5]
theorem K5b3 : (envOf K5 W ds).fb 3 l = placeL l := by simp only [envOf, K5, K]
theorem K5b7 : (envOf K5 W ds).fb 7 l = nearR l := by simp only [envOf, K5, K]
theorem K5b20 : (envOf K5 W ds).fb 20 l = psgL l := by simp only [envOf, K5, K]
theorem K5b8 : (envOf K5 W ds).fb 8 l = closeR l := by simp only [envOf, K5, K]
theorem K5b31 : (envOf K5 W ds).fb 31 l = boxL l := by simp only [envOf, K5, K]
end
/-! ### Is a box in another one? -/
def withinR (ds : List D) : Bool := box8 ds && decide (iAt ds 4 ≤ iAt ds 0 ∧ iAt ds 1 ≤ iAt ds 5 ∧ iAt ds 6 ≤ iAt ds 2 ∧ iAt ds 3 ≤ iAt ds 7)
def withinV (ds : List D) : Value := .tuple #[.bool (withinR ds), .int .i64 (uniE ds)]
def octL (a b c d e f g h : Int) : List D := [.i a, .i b, .i c, .i d, .i e, .i f, .i g, .i h]
theorem uni_oct (a b c d e f g h : Int) (hb : (boxB a b c d && boxB e f g h) = true) : uniA (octL a b c d e f g h) = min a e ∧ uniB (octL a b c d e f g h) = max b f ∧ uniC (octL a b c d e f g h) = min c g ∧ uniD (octL a b c d e f g h) = max d h ∧ uniE (octL a b c d e f g h) = 0 := by
  have : box8 (octL a b c d e f g h) = true := hb
  unfold uniA uniB uniC uniD uniE
  rw [if_pos this, if_pos this, if_pos this, if_pos this, if_pos this]
  exact ⟨rfl, rfl, rfl, rfl, rfl⟩
theorem oct_eq (a b c d e f g h : Int) : [D.i a, .i b, .i c, .i d, .i e, .i f, .i g, .i h] = octL a b c d e f g h := rfl
theorem uniE_oct (ds : List D) : uniE (octL (iAt ds 0) (iAt ds 1) (iAt ds 2) (iAt ds 3) (iAt ds 4) (iAt ds 5) (iAt ds 6) (iAt ds 7)) = uniE ds := rfl
def cWithin := ctD [bx, bx] fun al => .ret (.tup [.one (sBF 51 withinR al), .one (sIF 36 uniE al)])

/-! ### The zone of a leg -/
def zoneO (ds : List D) : Bool := psgB (iAt ds 0) (iAt ds 1) (iAt ds 2) (rAt ds 3) && decide (0 ≤ iAt ds 4 ∧ iAt ds 4 < (rAt ds 3).length)
def zoneL (ds : List D) : List D := [.i (min (lg (rAt ds 3) (iAt ds 4) 0) (lg (rAt ds 3) (iAt ds 4) 2)), .i (max (lg (rAt ds 3) (iAt ds 4) 0) (lg (rAt ds 3) (iAt ds 4) 2)), .i (min (lg (rAt ds 3) (iAt ds 4) 1) (lg (rAt ds 3) (iAt ds 4) 3)), .i (max (lg (rAt ds 3) (iAt ds 4) 1) (lg (rAt ds 3) (iAt ds 4) 3)), .i (iAt ds 2)]
def zoneV (ds : List D) : Value := if zoneO ds then growV (zoneL ds) else boxE 0 0 0 0 1
theorem gZone : Gives Tryz.prog 17 [psg, it] zoneV := by
  refine GivesIf.all (fn_gives K5 (by kernel_rfl) (fun ρ h => ct5_ok (Sees.of h 50)) (by kernel_rfl) trZone_is trZone_low (by decide) (fun W vals ds hr _ => ?_))
  simp only [trZone, TT.sat_ret, TT.sat_ite, TT.sat_ob, Ob.ok, B.ev, E.ev, X.ev, AL.ev, cmp_t, cmp_f, V.plain, V2.plain, S.plain, S0.plain, V.val, V2.val, S.val, S0.val, List.all_cons, List.all_nil, Bool.and_self, envOf_i, envOf_d, List.map_cons, List.map_nil, true_and, Bool.not_eq_true', Bool.not_eq_false', cell_lg, cmpP, K5b20, psgL_four, K5i32, K5i33, K5i34, K5i35, K5i36, K5i42, K5i43, K5i44, K5i45, K5i46, oct_eq, legK]
  unfold zoneV zoneO
  refine ⟨fun h1 => ?_, fun h1 => ⟨fun h2 => ?_, fun h2 => ⟨fun h3 => ?_, fun h3 => ⟨by omega, by omega, by omega, by omega, ?_⟩⟩⟩⟩
  · rw [h1]; rfl
  · rw [if_neg (by rw [Bool.and_eq_true, decide_eq_true_eq]; omega)]; rfl
  · rw [if_neg (by rw [Bool.and_eq_true, decide_eq_true_eq]; omega)]; rfl
  · rw [if_pos (by rw [Bool.and_eq_true, decide_eq_true_eq]; exact ⟨h1, by omega, by omega⟩)]
    obtain ⟨p1, p2, p3, p4⟩ := psgB_iff h1
    obtain ⟨k, hk⟩ := Int.eq_ofNat_of_zero_le (a := iAt ds 4) (by omega)
    have hl := legB_iff.1 (p4 k (by omega))
    rw [← hk] at hl
    have hl1 := hl.1
    simp only [placeB, decide_eq_true_eq] at hl1
    obtain ⟨e1, e2, e3, e4, _⟩ := uni_oct (lg (rAt ds 3) (iAt ds 4) 0) (lg (rAt ds 3) (iAt ds 4) 0) (lg (rAt ds 3) (iAt ds 4) 1) (lg (rAt ds 3) (iAt ds 4) 1) (lg (rAt ds 3) (iAt ds 4) 2) (lg (rAt ds 3) (iAt ds 4) 2) (lg (rAt ds 3) (iAt ds 4) 3) (lg (rAt ds 3) (iAt ds 4) 3) (by rw [Bool.and_eq_true, boxB_t, boxB_t]; omega)
    rw [e1, e2, e3, e4, growV_eq]
    rfl
/-! ### Can the ship be there? -/
def holdsR (ds : List D) : Bool := placeB (iAt ds 6) (iAt ds 7) && timeB (iAt ds 5) && decide (durE ds = 0) && nearR [.i (iAt ds 6), .i (iAt ds 7), .i (lg (rAt ds 3) (iAt ds 4) 0), .i (lg (rAt ds 3) (iAt ds 4) 1), .i (lg (rAt ds 3) (iAt ds 4) 2), .i (lg (rAt ds 3) (iAt ds 4) 3), .i (iAt ds 2)] && decide (durL ds ≤ iAt ds 5 ∧ iAt ds 5 ≤ durH ds)
def holdsE (ds : List D) : Int := if placeB (iAt ds 6) (iAt ds 7) && timeB (iAt ds 5) then durE ds else 1
def holdsV (ds : List D) : Value := .tuple #[.bool (holdsR ds), .int .i64 (holdsE ds)]
theorem durL_eq (ds : List D) : durL [.i (iAt ds 0), .i (iAt ds 1), .i (iAt ds 2), .l (rAt ds 3), .i (iAt ds 4)] = durL ds := rfl
theorem durH_eq (ds : List D) : durH [.i (iAt ds 0), .i (iAt ds 1), .i (iAt ds 2), .l (rAt ds 3), .i (iAt ds 4)] = durH ds := rfl
theorem durE_eq (ds : List D) : durE [.i (iAt ds 0), .i (iAt ds 1), .i (iAt ds 2), .l (rAt ds 3), .i (iAt ds 4)] = durE ds := rfl
theorem durE_zero {ds : List D} (h : durE ds = 0) : durX ds = true ∧ durO ds = true := by
  unfold durE at h
  cases h1 : durO ds
  · rw [h1] at h; simp at h
  · cases h2 : durX ds
    · rw [h1, h2] at h; simp at h
    · exact ⟨rfl, rfl⟩
theorem gHolds : Gives Tryz.prog 28 [psg, it, it, pt] holdsV := by
  refine GivesIf.all (fn_gives K5 (by kernel_rfl) (fun ρ h => ct5_ok (Sees.of h 50)) (by kernel_rfl) trHolds_is trHolds_low (by decide) (fun W vals ds hr _ => ?_))
  simp only [trHolds, TT.sat_ret, TT.sat_ite, TT.sat_ob, Ob.ok, B.ev, E.ev, X.ev, AL.ev, cmp_t, cmp_f, V.plain, V2.plain, S.plain, S0.plain, V.val, V2.val, S.val, S0.val, List.all_cons, List.all_nil, Bool.and_self, envOf_i, envOf_d, List.map_cons, List.map_nil, true_and, Bool.not_eq_true', Bool.not_eq_false', cell_lg, cmpP, K5b3, K5b7, placeL_two, K5i24, K5i25, K5i26, legK, durL_eq, durH_eq, durE_eq]
  unfold holdsV holdsR holdsE timeB
  generalize nearR _ = nr
  refine ⟨fun h1 => ?_, fun h1 => ⟨fun h2 => ⟨fun h3 => ?_, fun h3 => ⟨fun h4 => ?_, fun h4 => ⟨?_, ?_, ?_, ?_, fun h5 => ⟨fun h6 => ?_, fun h6 => ?_⟩, fun h5 => ?_⟩⟩⟩, fun h2 => ?_⟩⟩
  case refine_4 | refine_5 | refine_6 | refine_7 =>
    have := (durE_zero (Decidable.not_not.1 h4)).2
    simp only [durO, Bool.and_eq_true, decide_eq_true_eq] at this
    omega
  case refine_8 =>
    have h7 : durE ds = 0 := Decidable.not_not.1 h4
    have : cmpEv BinOp.leq (iAt ds 5) (durH ds) = decide (iAt ds 5 ≤ durH ds) := by rw [Bool.eq_iff_iff, cmp_t]; simp [cmpP]
    simp [*]
  case refine_9 | refine_10 =>
    have h7 : durE ds = 0 := Decidable.not_not.1 h4
    simp [*]
  all_goals (simp [*]; done)
/-! ### Contracts -/
def zoneA (ds : List D) : Int := if zoneO ds then growA (zoneL ds) else 0
def zoneB (ds : List D) : Int := if zoneO ds then growB (zoneL ds) else 0
def zoneC (ds : List D) : Int := if zoneO ds then growC (zoneL ds) else 0
def zoneD (ds : List D) : Int := if zoneO ds then growD (zoneL ds) else 0
def zoneE (ds : List D) : Int := if zoneO ds then growE (zoneL ds) else 1
theorem zoneV_eq (ds : List D) : zoneV ds = boxE (zoneA ds) (zoneB ds) (zoneC ds) (zoneD ds) (zoneE ds) := by
  unfold zoneV zoneA zoneB zoneC zoneD zoneE
  split
  · rw [growV_eq]
  · rfl
def K6 : Interp where
  fi n l := match n with | 53 => holdsE l | 54 => zoneA l | 55 => zoneB l | 56 => zoneC l | 57 => zoneD l | 58 => zoneE l | n => K5.fi n l
  fb n l := match n with | 51 => withinR l | 52 => holdsR l | n => K5.fb n l
  fd _ _ := []
def cHolds := ctD [psg, it, it, pt] fun al => .ret (.tup [.one (sBF 52 holdsR al), .one (sIF 53 holdsE al)])
def cZone := ctD [psg, it] fun al => .ret (bx5 (sIF 54 zoneA al) (sIF 55 zoneB al) (sIF 56 zoneC al) (sIF 57 zoneD al) (sIF 58 zoneE al))
section
variable {ρ : Env} (h : Sees ρ K6 60)
include h
theorem K6_K5 : Sees ρ K5 50 := h.trans (by decide) fun n l hn => by
  constructor
  · simp only [K6]
    split <;> first | omega | rfl
  · simp only [K6]
    split <;> first | omega | rfl
theorem cHolds_ok : CtOne Tryz.prog ρ 28 cHolds :=
  ctD_ok gHolds (fun _ => rfl) (fun al => by
    simp only [V.val, V2.val, S.val, S0.val, sIF, sBF, List.map_cons, List.map_nil, bF_ev (s := 52) (f := holdsR) (fun l => by rw [(h 52 l (by decide)).2]; simp only [K6]), iF_ev (s := 53) (f := holdsE) (fun l => by rw [(h 53 l (by decide)).1]; simp only [K6])]; rfl)
theorem cZone_ok : CtOne Tryz.prog ρ 17 cZone :=
  ctD_ok gZone (fun _ => rfl) (fun al => by
    simp only [bx5, V.val, V2.val, S.val, S0.val, sIF, List.map_cons, List.map_nil, iF_ev (s := 54) (f := zoneA) (fun l => by rw [(h 54 l (by decide)).1]; simp only [K6]), iF_ev (s := 55) (f := zoneB) (fun l => by rw [(h 55 l (by decide)).1]; simp only [K6]), iF_ev (s := 56) (f := zoneC) (fun l => by rw [(h 56 l (by decide)).1]; simp only [K6]), iF_ev (s := 57) (f := zoneD) (fun l => by rw [(h 57 l (by decide)).1]; simp only [K6]), iF_ev (s := 58) (f := zoneE) (fun l => by rw [(h 58 l (by decide)).1]; simp only [K6])]; rw [zoneV_eq]; rfl)
end
def ct6 : Ct := (28, cHolds) :: (17, cZone) :: ct5
theorem ct6_ok {ρ : Env} (h : Sees ρ K6 60) : CtOk Tryz.prog ρ ct6 := .cons (cHolds_ok h) <| .cons (cZone_ok h) (ct5_ok (K6_K5 h))
end Go.Proofs.YtkjjkckcjgkhmaaGreat
/- Chapter 38: the tree of passage.Concerns. -/
namespace Go.Proofs.YtkjjkckcjgkhmaaGreat
open Go.RowKit
end Go.Proofs.YtkjjkckcjgkhmaaGreat
/- Chapter 38: passage.Concerns. -/
namespace Go.Proofs.YtkjjkckcjgkhmaaGreat
open Go.RowKit
section
variable (W : World) (ds l : List D)
theorem K6b20 : (envOf K6 W ds).fb 20 l = psgL l := by simp only [envOf, K6, K5, K]
theorem K6b8 : (envOf K6 W ds).fb 8 l = closeR l := by simp only [envOf, K6, K5, K]
theorem K6b31 : (envOf K6 W ds).fb 31 l = boxL l := by simp only [envOf, K6, K5]
theorem K6b51 : (envOf K6 W ds).fb 51 l = withinR l := by simp only [envOf, K6]
end
theorem subR_len (r : Rows) (b : Nat) : (subR r (b : Int) (r.length : Int)).length = r.length - b := by
  simp only [subR, List.length_take, List.length_drop, Int.toNat_natCast]; omega
theorem subR_lg (r : Rows) (b i j : Nat) : lg (subR r (b : Int) (r.length : Int)) (i : Int) j = lg r ((b + i : Nat) : Int) j := by
  have : cellAt (subR r (b : Int) (r.length : Int)) (i : Int) j = cellAt r ((b + i : Nat) : Int) j := by
    simp only [cellAt, subR, Int.toNat_natCast]
    rw [List.take_of_length_le (by rw [List.length_drop]; exact Nat.le_refl _)]
    simp only [List.getElem?_drop, List.getD_eq_getElem?_getD]
  rw [lg, lg, this]
def legCon (r : Rows) (i a b c d off : Int) : Bool :=
  withinR [.i (lg r i 0), .i (lg r i 0), .i (lg r i 1), .i (lg r i 1), .i a, .i b, .i c, .i d] || (closeR [.i (lg r i 0), .i (lg r i 1), .i (lg r i 2), .i (lg r i 3), .i a, .i d, .i a, .i c, .i off] || (closeR [.i (lg r i 0), .i (lg r i 1), .i (lg r i 2), .i (lg r i 3), .i a, .i c, .i b, .i c, .i off] || (closeR [.i (lg r i 0), .i (lg r i 1), .i (lg r i 2), .i (lg r i 3), .i b, .i c, .i b, .i d, .i off] || closeR [.i (lg r i 0), .i (lg r i 1), .i (lg r i 2), .i (lg r i 3), .i b, .i d, .i a, .i d, .i off])))
def conFrom (r : Rows) (a b c d off : Int) : Nat → Nat → Bool
  | 0, _ => false
  | f + 1, j => legCon r j a b c d off || conFrom r a b c d off f (j + 1)
def conO (ds : List D) : Bool := psgB (iAt ds 0) (iAt ds 1) (iAt ds 2) (rAt ds 3) && boxB (iAt ds 4) (iAt ds 5) (iAt ds 6) (iAt ds 7) && decide (0 ≤ iAt ds 8 ∧ iAt ds 8 ≤ (rAt ds 3).length)
def conR (ds : List D) : Bool := conO ds && conFrom (rAt ds 3) (iAt ds 4) (iAt ds 5) (iAt ds 6) (iAt ds 7) (iAt ds 2) ((rAt ds 3).length - (iAt ds 8).toNat) (iAt ds 8).toNat
def conE (ds : List D) : Int := if conO ds then 0 else 1
def conV (ds : List D) : Value := .tuple #[.bool (conR ds), .int .i64 (conE ds)]
def K7 : Interp where
  fi n l := match n with | 60 => conE l | n => K6.fi n l
  fb n l := match n with | 60 => conR l | n => K6.fb n l
  fd _ _ := []
def cCon := ctD [psg, bx, it] fun al => .ret (.tup [.one (sBF 60 conR al), .one (sIF 60 conE al)])
section
variable {ρ : Env} (h : Sees ρ K7 61)
include h
theorem K7_K6 : Sees ρ K6 60 := h.trans (by decide) fun n l hn => by
  constructor
  · simp only [K7]
    split <;> first | omega | rfl
  · simp only [K7]
    split <;> first | omega | rfl
end
def ct7 : Ct := ct6
theorem ct7_ok {ρ : Env} (h : Sees ρ K7 61) : CtOk Tryz.prog ρ ct7 := (ct6_ok (K7_K6 h))
end Go.Proofs.YtkjjkckcjgkhmaaGreat
