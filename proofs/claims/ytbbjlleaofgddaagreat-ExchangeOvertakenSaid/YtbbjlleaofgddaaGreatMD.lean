/- MD, merged: Cg0, TCg, Cg, TCh, Ch, TCi, Ci, TCj, Cj, TCk, Ck, Cl, TCm, Cm, TCn, Cn. -/
import Derived.Test.YtbbjlleaofgddaaGreatMC
set_option linter.unusedSimpArgs false
set_option linter.unusedVariables false
/- Contracts that reckon where all is known; contracts of plane.turn and plane.on. -/
namespace Go.Proofs.YtbbjlleaofgddaaGreat
open Go.RowKit

mutual
def litX : X → Option Rows
  | .nil => some []
  | .row l => match litA l with | some a => some [a] | none => none
  | .app x y => match litX x, litX y with | some a, some b => some (a ++ b) | _, _ => none
  | .sub x (.lit m) (.lit n) => match litX x with | some a => some (subR a m n) | none => none
  | .upd x (.lit m) j l => match litX x, litA l with | some a, some b => some (updR a m j b) | _, _ => none
  | .rep (.lit n) l => match litA l with | some b => some (List.replicate n.toNat b) | none => none
  | _ => none
def litA : AL → Option (List D)
  | .nil => some []
  | .i (.lit n) r => match litA r with | some l => some (.i n :: l) | none => none
  | .b (.lit b) r => match litA r with | some l => some (.b b :: l) | none => none
  | .x x r => match litX x, litA r with | some a, some l => some (.l a :: l) | _, _ => none
  | _ => none
end
mutual
theorem litX_ev (ρ : Env) : ∀ (x : X) (r : Rows), litX x = some r → x.ev ρ = r
  | .nil, r, h => by simp only [litX, Option.some.injEq] at h; subst h; simp [X.ev]
  | .row l, r, h => by
    simp only [litX] at h
    split at h
    · rename_i a ha
      simp only [Option.some.injEq] at h; subst h
      simp only [X.ev, litA_ev ρ l a ha]
    · cases h
  | .app x y, r, h => by
    simp only [litX] at h
    split at h
    · rename_i a b ha hb
      simp only [Option.some.injEq] at h; subst h
      simp only [X.ev, litX_ev ρ x a ha, litX_ev ρ y b hb]
    · cases h
  | .var _, r, h => by simp [litX] at h
  | .rd _ _ _, r, h => by simp [litX] at h
  | .sub x lo hi, r, h => by
    cases lo <;> (try (simp only [litX, reduceCtorEq] at h; done))
    cases hi <;> simp only [litX, reduceCtorEq] at h
    split at h
    · rename_i a ha
      simp only [Option.some.injEq] at h; subst h
      simp only [X.ev, E.ev, litX_ev ρ x a ha]
    · cases h
  | .upd x i j l, r, h => by
    cases i <;> simp only [litX, reduceCtorEq] at h
    split at h
    · rename_i a b ha hb
      simp only [Option.some.injEq] at h; subst h
      simp only [X.ev, E.ev, litX_ev ρ x a ha, litA_ev ρ l b hb]
    · cases h
  | .fn _ _, r, h => by simp [litX] at h
  | .rep n l, r, h => by
    cases n <;> simp only [litX, reduceCtorEq] at h
    split at h
    · rename_i b hb
      simp only [Option.some.injEq] at h; subst h
      simp only [X.ev, E.ev, litA_ev ρ l b hb]
    · cases h
theorem litA_ev (ρ : Env) : ∀ (a : AL) (l : List D), litA a = some l → a.ev ρ = l
  | .nil, l, h => by simp only [litA, Option.some.injEq] at h; subst h; simp [AL.ev]
  | .i e r, l, h => by
    cases e <;> simp only [litA, reduceCtorEq] at h
    split at h
    · rename_i m hm
      simp only [Option.some.injEq] at h; subst h
      simp only [AL.ev, E.ev, litA_ev ρ r m hm]
    · cases h
  | .b e r, l, h => by
    cases e <;> simp only [litA, reduceCtorEq] at h
    split at h
    · rename_i m hm
      simp only [Option.some.injEq] at h; subst h
      simp only [AL.ev, B.ev, litA_ev ρ r m hm]
    · cases h
  | .x x r, l, h => by
    simp only [litA] at h
    split at h
    · rename_i a m ha hm
      simp only [Option.some.injEq] at h; subst h
      simp only [AL.ev, litX_ev ρ x a ha, litA_ev ρ r m hm]
    · cases h
end
def bF (s : Nat) (f : List D → Bool) (al : AL) : B := match litA al with | some l => .lit (f l) | none => .fn s al
def iF (s : Nat) (f : List D → Int) (al : AL) : E := match litA al with | some l => .lit (f l) | none => .fn s al
theorem bF_ev {ρ : Env} {s : Nat} {f : List D → Bool} (h : ∀ l, ρ.fb s l = f l) (al : AL) : (bF s f al).ev ρ = f (al.ev ρ) := by
  unfold bF
  split
  · rename_i l hl; simp only [B.ev, litA_ev ρ al l hl]
  · simp only [B.ev, h]
theorem iF_ev {ρ : Env} {s : Nat} {f : List D → Int} (h : ∀ l, ρ.fi s l = f l) (al : AL) : (iF s f al).ev ρ = f (al.ev ρ) := by
  unfold iF
  split
  · rename_i l hl; simp only [E.ev, litA_ev ρ al l hl]
  · simp only [E.ev, h]
def sBF (s : Nat) (f : List D → Bool) (al : AL) : S := .z (.bool (bF s f al))
def sIF (s : Nat) (f : List D → Int) (al : AL) : S := .z (.int .i64 (iF s f al))

/-! ### plane.turn, plane.on: three valid places are asked for -/
def iniI : Interp := { fi := fun n l => match n with | 0 => turnL l | _ => 0, fb := fun n l => match n with | 1 => six6 l | 3 => placeL l | 4 => onL l | _ => false, fd := fun _ _ => [] }
def cTurn1 := ctD [pt, pt, pt] fun al => .ob (.tru (bF 1 six6 al)) (.ret (iV .i64 (iF 0 turnL al)))
def cOn1 := ctD [pt, pt, pt] fun al => .ob (.tru (bF 1 six6 al)) (.ret (bV (bF 4 onL al)))
theorem cTurn1_ok {ρ : Env} (h1 : ∀ l, ρ.fb 1 l = six6 l) (h0 : ∀ l, ρ.fi 0 l = turnL l) : CtOne Tryz.prog ρ 174 cTurn1 := by
  refine ctD_if gTurn0 (fun al v hv => ?_)
  obtain ⟨ho, hv⟩ := hv
  obtain rfl := res_ret hv
  have ho : (bF 1 six6 al).ev ρ = true := ho
  rw [bF_ev h1] at ho
  refine ⟨rfl, six_of ho, ?_⟩
  simp only [iV, V.s0, V.val, V2.val, S.val, S0.val, iF_ev h0, turnL]
theorem cOn1_ok {ρ : Env} (h1 : ∀ l, ρ.fb 1 l = six6 l) (h4 : ∀ l, ρ.fb 4 l = onL l) : CtOne Tryz.prog ρ 182 cOn1 := by
  refine ctD_if gOn0 (fun al v hv => ?_)
  obtain ⟨ho, hv⟩ := hv
  obtain rfl := res_ret hv
  have ho : (bF 1 six6 al).ev ρ = true := ho
  rw [bF_ev h1] at ho
  refine ⟨rfl, ho, ?_⟩
  simp only [bV, V.s0, V.val, V2.val, S.val, S0.val, bF_ev h4]
def ctM : Ct := [(174, cTurn1), (182, cOn1)]
theorem ctM_ok {ρ : Env} (h : ρ.has iniI) : CtOk Tryz.prog ρ ctM :=
  .cons (cTurn1_ok (fun l => by rw [h.2.1]; rfl) (fun l => by rw [h.1]; rfl)) <| .cons (cOn1_ok (fun l => by rw [h.2.1]; rfl) (fun l => by rw [h.2.1]; rfl)) .nil
end Go.Proofs.YtbbjlleaofgddaaGreat
/- Chapter 38: the tree of plane.meet. -/
namespace Go.Proofs.YtbbjlleaofgddaaGreat
open Go.RowKit
-- term trMeet0: call Tryz.prog ctM (Lt.of []) 100 176 (symArgs 0 [pt, pt, pt, pt]) [] 0
def trMeet0 : TT OpR :=
(.ob (.tru (.fn 1 (.i (.var 0) (.i (.var 1) (.i (.var 2) (.i (.var 3) (.i (.var 4) (.i (.var 5) .nil))))))))
(.ob (.tru (.fn 1 (.i (.var 0) (.i (.var 1) (.i (.var 2) (.i (.var 3) (.i (.var 6) (.i (.var 7) .nil))))))))
(.ite (.cmp .lss (.ar .mul .i64 (.fn 0 (.i (.var 0) (.i (.var 1) (.i (.var 2) (.i (.var 3) (.i (.var 4) (.i (.var 5) .nil))))))) (.fn 0 (.i (.var 0) (.i (.var 1) (.i (.var 2) (.i (.var 3) (.i (.var 6) (.i (.var 7) .nil)))))))) (.lit 0))
 (.ob (.tru (.fn 1 (.i (.var 4) (.i (.var 5) (.i (.var 6) (.i (.var 7) (.i (.var 0) (.i (.var 1) .nil))))))))
 (.ob (.tru (.fn 1 (.i (.var 4) (.i (.var 5) (.i (.var 6) (.i (.var 7) (.i (.var 2) (.i (.var 3) .nil))))))))
 (.ite (.cmp .lss (.ar .mul .i64 (.fn 0 (.i (.var 4) (.i (.var 5) (.i (.var 6) (.i (.var 7) (.i (.var 0) (.i (.var 1) .nil))))))) (.fn 0 (.i (.var 4) (.i (.var 5) (.i (.var 6) (.i (.var 7) (.i (.var 2) (.i (.var 3) .nil)))))))) (.lit 0))
 (.ret ((.v (.one (.z (.bool (.lit true))))), [], 4))
 (.ob (.tru (.fn 1 (.i (.var 0) (.i (.var 1) (.i (.var 4) (.i (.var 5) (.i (.var 6) (.i (.var 7) .nil))))))))
 (.ite (.fn 4 (.i (.var 0) (.i (.var 1) (.i (.var 4) (.i (.var 5) (.i (.var 6) (.i (.var 7) .nil)))))))
 (.ret ((.v (.one (.z (.bool (.lit true))))), [], 4))
 (.ob (.tru (.fn 1 (.i (.var 2) (.i (.var 3) (.i (.var 4) (.i (.var 5) (.i (.var 6) (.i (.var 7) .nil))))))))
 (.ite (.fn 4 (.i (.var 2) (.i (.var 3) (.i (.var 4) (.i (.var 5) (.i (.var 6) (.i (.var 7) .nil)))))))
 (.ret ((.v (.one (.z (.bool (.lit true))))), [], 4))
 (.ob (.tru (.fn 1 (.i (.var 4) (.i (.var 5) (.i (.var 0) (.i (.var 1) (.i (.var 2) (.i (.var 3) .nil))))))))
 (.ite (.fn 4 (.i (.var 4) (.i (.var 5) (.i (.var 0) (.i (.var 1) (.i (.var 2) (.i (.var 3) .nil)))))))
 (.ret ((.v (.one (.z (.bool (.lit true))))), [], 4))
 (.ob (.tru (.fn 1 (.i (.var 6) (.i (.var 7) (.i (.var 0) (.i (.var 1) (.i (.var 2) (.i (.var 3) .nil))))))))
 (.ret ((.v (.one (.z (.bool (.fn 4 (.i (.var 6) (.i (.var 7) (.i (.var 0) (.i (.var 1) (.i (.var 2) (.i (.var 3) .nil))))))))))), [], 4))))))))))))
 (.ob (.tru (.fn 1 (.i (.var 0) (.i (.var 1) (.i (.var 4) (.i (.var 5) (.i (.var 6) (.i (.var 7) .nil))))))))
 (.ite (.fn 4 (.i (.var 0) (.i (.var 1) (.i (.var 4) (.i (.var 5) (.i (.var 6) (.i (.var 7) .nil)))))))
 (.ret ((.v (.one (.z (.bool (.lit true))))), [], 4))
 (.ob (.tru (.fn 1 (.i (.var 2) (.i (.var 3) (.i (.var 4) (.i (.var 5) (.i (.var 6) (.i (.var 7) .nil))))))))
 (.ite (.fn 4 (.i (.var 2) (.i (.var 3) (.i (.var 4) (.i (.var 5) (.i (.var 6) (.i (.var 7) .nil)))))))
 (.ret ((.v (.one (.z (.bool (.lit true))))), [], 4))
 (.ob (.tru (.fn 1 (.i (.var 4) (.i (.var 5) (.i (.var 0) (.i (.var 1) (.i (.var 2) (.i (.var 3) .nil))))))))
 (.ite (.fn 4 (.i (.var 4) (.i (.var 5) (.i (.var 0) (.i (.var 1) (.i (.var 2) (.i (.var 3) .nil)))))))
 (.ret ((.v (.one (.z (.bool (.lit true))))), [], 4))
 (.ob (.tru (.fn 1 (.i (.var 6) (.i (.var 7) (.i (.var 0) (.i (.var 1) (.i (.var 2) (.i (.var 3) .nil))))))))
 (.ret ((.v (.one (.z (.bool (.fn 4 (.i (.var 6) (.i (.var 7) (.i (.var 0) (.i (.var 1) (.i (.var 2) (.i (.var 3) .nil))))))))))), [], 4))))))))))))
-- end trMeet0
set_option maxRecDepth 100000 in
theorem trMeet0_is : T.norm 0 (call Tryz.prog ctM (Lt.of []) 100 176 (symArgs 0 [pt, pt, pt, pt]) [] 0) TT.ret = trMeet0 := by kernel_rfl
theorem trMeet0_low : trMeet0.low 1000 = true := by kernel_rfl
end Go.Proofs.YtbbjlleaofgddaaGreat
/- Chapter 38: what plane.meet computes; contracts for the exported functions of package plane. -/
namespace Go.Proofs.YtbbjlleaofgddaaGreat
open Go.RowKit

def meetB (ax ay bx by' cx cy dx dy : Int) : Bool :=
  decide (turnI ax ay bx by' cx cy * turnI ax ay bx by' dx dy < 0 ∧ turnI cx cy dx dy ax ay * turnI cx cy dx dy bx by' < 0) ||
  (onB ax ay cx cy dx dy || (onB bx by' cx cy dx dy || (onB cx cy ax ay bx by' || onB dx dy ax ay bx by')))
def meetL (ds : List D) : Bool := meetB (iAt ds 0) (iAt ds 1) (iAt ds 2) (iAt ds 3) (iAt ds 4) (iAt ds 5) (iAt ds 6) (iAt ds 7)
def eight (ds : List D) : Bool := placeB (iAt ds 0) (iAt ds 1) && (placeB (iAt ds 2) (iAt ds 3) && (placeB (iAt ds 4) (iAt ds 5) && placeB (iAt ds 6) (iAt ds 7)))
theorem sgn_le (n : Int) : -1 ≤ sgn n ∧ sgn n ≤ 1 := by unfold sgn; split <;> (try split) <;> omega
theorem on_six (a b c d e f : Int) : onL [.i a, .i b, .i c, .i d, .i e, .i f] = onB a b c d e f := rfl
theorem iniI_1 (W : World) (ds l : List D) : (envOf iniI W ds).fb 1 l = six6 l := rfl
theorem iniI_4 (W : World) (ds l : List D) : (envOf iniI W ds).fb 4 l = onL l := rfl
theorem iniI_0 (W : World) (ds l : List D) : (envOf iniI W ds).fi 0 l = turnL l := rfl
theorem w_sgn (a b : Int) : IntKind.i64.wrap (sgn a * sgn b) = sgn a * sgn b := by
  have h1 := sgn_le a
  have h2 := sgn_le b
  have := mul_abs (a := sgn a) (b := sgn b) (A := 1) (B := 1) (by omega) (by omega) (by omega) (by omega)
  exact wrap_in _ (by omega) (by omega)
theorem w_turn (a b c d e f a' b' c' d' e' f' : Int) : IntKind.i64.wrap (turnI a b c d e f * turnI a' b' c' d' e' f') = turnI a b c d e f * turnI a' b' c' d' e' f' := w_sgn _ _
theorem gMeet0 : GivesIf Tryz.prog 176 [pt, pt, pt, pt] (fun ds => eight ds = true) (fun ds => .bool (meetL ds)) := by
  refine fn_gives iniI (by kernel_rfl) (fun ρ h => ctM_ok h) (by kernel_rfl) trMeet0_is trMeet0_low (by decide) (fun W vals ds _ hok => ?_)
  simp only [eight, Bool.and_eq_true] at hok
  obtain ⟨p1, p2, p3, p4⟩ := hok
  simp only [trMeet0, TT.sat_ret, TT.sat_ite, TT.sat_ob, Ob.ok, B.ev, E.ev, AL.ev, cmp_t, cmp_f, arEv, V.plain, V2.plain, S.plain, S0.plain, V.val, V2.val, S.val, S0.val, envOf_i, true_and, Bool.and_eq_true, cmpP, iniI_1, iniI_4, iniI_0, six_six, turn_six, on_six]
  simp only [p1, p2, p3, p4, and_self, true_and, w_turn]
  simp only [meetL, meetB]
  generalize onB (iAt ds 0) (iAt ds 1) (iAt ds 4) (iAt ds 5) (iAt ds 6) (iAt ds 7) = o1
  generalize onB (iAt ds 2) (iAt ds 3) (iAt ds 4) (iAt ds 5) (iAt ds 6) (iAt ds 7) = o2
  generalize onB (iAt ds 4) (iAt ds 5) (iAt ds 0) (iAt ds 1) (iAt ds 2) (iAt ds 3) = o3
  generalize onB (iAt ds 6) (iAt ds 7) (iAt ds 0) (iAt ds 1) (iAt ds 2) (iAt ds 3) = o4
  refine ⟨fun h => ⟨fun h' => ?_, fun h' => ?_⟩, fun h => ?_⟩
  · rw [decide_eq_true ⟨h, h'⟩]; rfl
  · rw [decide_eq_false (fun q => h' q.2)]
    cases o1 <;> cases o2 <;> cases o3 <;> cases o4 <;> simp
  · rw [decide_eq_false (fun q => h q.1)]
    cases o1 <;> cases o2 <;> cases o3 <;> cases o4 <;> simp

/-! ### Contracts for plane.Close -/
def I4 : Interp := { fi := fun _ _ => 0, fb := fun n l => match n with | 1 => six6 l | 2 => nearL l | 3 => placeL l | 5 => eight l | 6 => meetL l | _ => false, fd := fun _ _ => [] }
def cMeet1 := ctD [pt, pt, pt, pt] fun al => .ob (.tru (bF 5 eight al)) (.ret (bV (bF 6 meetL al)))
def cPlace1 := ctD [pt] fun al => .ret (bV (bF 3 placeL al))
def oNear1 (al : AL) : T V := match al with
  | .i a (.i b (.i c (.i d (.i e (.i f (.i r .nil)))))) => T.obs [.tru (bF 1 six6 (.i a (.i b (.i c (.i d (.i e (.i f .nil))))))), .tru (.cmpS .leq (.lit 0) r), .tru (.cmpS .leq r (.lit 3000000))] (.ret (bV (bF 2 nearL al)))
  | _ => .stuck "near"
def cNear1 := ctD [pt, pt, pt, it] oNear1
theorem cMeet1_ok {ρ : Env} (h5 : ∀ l, ρ.fb 5 l = eight l) (h6 : ∀ l, ρ.fb 6 l = meetL l) : CtOne Tryz.prog ρ 176 cMeet1 := by
  refine ctD_if gMeet0 (fun al v hv => ?_)
  obtain ⟨ho, hv⟩ := hv
  obtain rfl := res_ret hv
  have ho : (bF 5 eight al).ev ρ = true := ho
  rw [bF_ev h5] at ho
  refine ⟨rfl, ho, ?_⟩
  simp only [bV, V.s0, V.val, V2.val, S.val, S0.val, bF_ev h6]
theorem cPlace1_ok {ρ : Env} (h : ∀ l, ρ.fb 3 l = placeL l) : CtOne Tryz.prog ρ 126 cPlace1 :=
  ctD_ok gValid (fun _ => rfl) (fun al => by simp only [bV, V.s0, V.val, V2.val, S.val, S0.val, bF_ev h, placeL])
def ct4 : Ct := [(126, cPlace1), (176, cMeet1)]
theorem ct4_ok {ρ : Env} (h : ρ.has I4) : CtOk Tryz.prog ρ ct4 :=
  .cons (cPlace1_ok (fun l => by rw [h.2.1]; rfl)) <| .cons (cMeet1_ok (fun l => by rw [h.2.1]; rfl) (fun l => by rw [h.2.1]; rfl)) <| .nil
end Go.Proofs.YtbbjlleaofgddaaGreat
/- Chapter 38: the tree of plane.Close. -/
namespace Go.Proofs.YtbbjlleaofgddaaGreat
open Go.RowKit
end Go.Proofs.YtbbjlleaofgddaaGreat
/- Chapter 38: what plane.Close answers; contracts of plane and passage that reckon; the law's head. -/
namespace Go.Proofs.YtbbjlleaofgddaaGreat
open Go.RowKit

def closeB (ax ay bx by' cx cy dx dy r : Int) : Bool :=
  meetB ax ay bx by' cx cy dx dy || (nearB ax ay cx cy dx dy r || (nearB bx by' cx cy dx dy r || (nearB cx cy ax ay bx by' r || nearB dx dy ax ay bx by' r)))
def closeL (ds : List D) : Bool := closeB (iAt ds 0) (iAt ds 1) (iAt ds 2) (iAt ds 3) (iAt ds 4) (iAt ds 5) (iAt ds 6) (iAt ds 7) (iAt ds 8)
theorem I4_1 (W : World) (ds l : List D) : (envOf I4 W ds).fb 1 l = six6 l := by simp only [envOf, I4]
theorem I4_2 (W : World) (ds l : List D) : (envOf I4 W ds).fb 2 l = nearL l := by simp only [envOf, I4]
theorem I4_3 (W : World) (ds l : List D) : (envOf I4 W ds).fb 3 l = placeL l := by simp only [envOf, I4]
theorem I4_5 (W : World) (ds l : List D) : (envOf I4 W ds).fb 5 l = eight l := by simp only [envOf, I4]
theorem I4_6 (W : World) (ds l : List D) : (envOf I4 W ds).fb 6 l = meetL l := by simp only [envOf, I4]
theorem eight_eight (a b c d e f g h : Int) : eight [.i a, .i b, .i c, .i d, .i e, .i f, .i g, .i h] = (placeB a b && (placeB c d && (placeB e f && placeB g h))) := rfl
theorem meet_eight (a b c d e f g h : Int) : meetL [.i a, .i b, .i c, .i d, .i e, .i f, .i g, .i h] = meetB a b c d e f g h := by
  unfold meetL iAt; simp only [List.getD_cons_zero, List.getD_cons_succ, D.int]
def closeOk (ds : List D) : Bool := eight ds && distB (iAt ds 8)
def closeV (ds : List D) : Value := errV (closeOk ds) (closeL ds)
/-! ### Contracts of plane's exported functions, that reckon -/
def nearO (ds : List D) : Bool := six6 ds && distB (iAt ds 6)
def nearR (ds : List D) : Bool := nearO ds && nearL ds
def nearE (ds : List D) : Int := if nearO ds then 0 else 1
def closeR (ds : List D) : Bool := closeOk ds && closeL ds
def closeE (ds : List D) : Int := if closeOk ds then 0 else 1
def turnR (ds : List D) : Int := if six6 ds then turnL ds else 0
def turnE (ds : List D) : Int := if six6 ds then 0 else 1
/-! What passage's functions answer, part by part -/
def arrO (ds : List D) : Bool := psgB (iAt ds 0) (iAt ds 1) (iAt ds 2) (rAt ds 3) && decide (0 ≤ iAt ds 4 ∧ iAt ds 4 ≤ (rAt ds 3).length)
def arrX (ds : List D) : Bool := arrO ds && !decide (10000000 < tHi (rAt ds 3) (iAt ds 1) (iAt ds 4).toNat)
def arrL (ds : List D) : Int := if arrX ds then tLo (rAt ds 3) (iAt ds 0) (iAt ds 4).toNat else 0
def arrH (ds : List D) : Int := if arrX ds then tHi (rAt ds 3) (iAt ds 1) (iAt ds 4).toNat else 0
def arrE (ds : List D) : Int := if arrO ds then (if arrX ds then 0 else 3) else 1
def durO (ds : List D) : Bool := psgB (iAt ds 0) (iAt ds 1) (iAt ds 2) (rAt ds 3) && decide (0 ≤ iAt ds 4 ∧ iAt ds 4 < (rAt ds 3).length)
def durX (ds : List D) : Bool := durO ds && !decide (10000000 < tHi (rAt ds 3) (iAt ds 1) ((iAt ds 4).toNat + 1))
def durL (ds : List D) : Int := if durX ds then tLo (rAt ds 3) (iAt ds 0) (iAt ds 4).toNat else 0
def durH (ds : List D) : Int := if durX ds then tHi (rAt ds 3) (iAt ds 1) ((iAt ds 4).toNat + 1) else 0
def durE (ds : List D) : Int := if durO ds then (if durX ds then 0 else 3) else 1
def restK (ds : List D) : Int := (restI ds).1
def restE (ds : List D) : Int := (restI ds).2
theorem arrV_eq (ds : List D) : arrV ds = spanE (arrL ds) (arrH ds) (arrE ds) := by
  unfold arrV arrL arrH arrE arrX arrO inV
  by_cases h : psgB (iAt ds 0) (iAt ds 1) (iAt ds 2) (rAt ds 3) = true ∧ 0 ≤ iAt ds 4 ∧ iAt ds 4 ≤ (rAt ds 3).length
  · rw [if_pos h]
    have : (psgB (iAt ds 0) (iAt ds 1) (iAt ds 2) (rAt ds 3) && decide (0 ≤ iAt ds 4 ∧ iAt ds 4 ≤ (rAt ds 3).length)) = true := by rw [h.1, decide_eq_true h.2]; rfl
    rw [this]
    by_cases q : 10000000 < tHi (rAt ds 3) (iAt ds 1) (iAt ds 4).toNat
    · simp [q]
    · simp [q]
  · rw [if_neg h]
    have : (psgB (iAt ds 0) (iAt ds 1) (iAt ds 2) (rAt ds 3) && decide (0 ≤ iAt ds 4 ∧ iAt ds 4 ≤ (rAt ds 3).length)) = false := by
      rw [and_f, decide_eq_true_eq]; exact h
    rw [this]
    rfl
theorem durV_eq (ds : List D) : durV ds = spanE (durL ds) (durH ds) (durE ds) := by
  unfold durV durL durH durE durX durO inV
  by_cases h : psgB (iAt ds 0) (iAt ds 1) (iAt ds 2) (rAt ds 3) = true ∧ 0 ≤ iAt ds 4 ∧ iAt ds 4 < (rAt ds 3).length
  · rw [if_pos h]
    have : (psgB (iAt ds 0) (iAt ds 1) (iAt ds 2) (rAt ds 3) && decide (0 ≤ iAt ds 4 ∧ iAt ds 4 < (rAt ds 3).length)) = true := by rw [h.1, decide_eq_true h.2]; rfl
    rw [this]
    by_cases q : 10000000 < tHi (rAt ds 3) (iAt ds 1) ((iAt ds 4).toNat + 1)
    · simp [q]
    · simp [q]
  · rw [if_neg h]
    have : (psgB (iAt ds 0) (iAt ds 1) (iAt ds 2) (rAt ds 3) && decide (0 ≤ iAt ds 4 ∧ iAt ds 4 < (rAt ds 3).length)) = false := by
      rw [and_f, decide_eq_true_eq]; exact h
    rw [this]
    rfl
def K : Interp where
  fi n l := match n with | 0 => turnL l | 10 => distIL l | 11 => distIH l | 12 => distIE l | 13 => nearE l | 14 => closeE l | 15 => turnR l | 16 => turnE l | 21 => arrL l | 22 => arrH l | 23 => arrE l | 24 => durL l | 25 => durH l | 26 => durE l | 27 => restK l | 28 => restE l | _ => 0
  fb n l := match n with | 0 => mostB l | 1 => six6 l | 2 => nearL l | 3 => placeL l | 4 => onL l | 5 => eight l | 6 => meetL l | 7 => nearR l | 8 => closeR l | 20 => psgL l | _ => false
  fd _ _ := []
def cDist1 := ctD [pt, pt] fun al => .ret (.tup [.agg [sIF 10 distIL al, sIF 11 distIH al], .one (sIF 12 distIE al)])
def cNearA := ctD [pt, pt, pt, it] fun al => .ret (.tup [.one (sBF 7 nearR al), .one (sIF 13 nearE al)])
def cCloseA := ctD [pt, pt, pt, pt, it] fun al => .ret (.tup [.one (sBF 8 closeR al), .one (sIF 14 closeE al)])
def cTurnA := ctD [pt, pt, pt] fun al => .ret (.tup [.one (sIF 15 turnR al), .one (sIF 16 turnE al)])
def cArr1 := ctD [psg, it] fun al => .ret (.tup [.agg [sIF 21 arrL al, sIF 22 arrH al], .one (sIF 23 arrE al)])
def cDur1 := ctD [psg, it] fun al => .ret (.tup [.agg [sIF 24 durL al, sIF 25 durH al], .one (sIF 26 durE al)])
def cRest1 := ctD [psg, it] fun al => .ret (.tup [.one (sIF 27 restK al), .one (sIF 28 restE al)])
def cPV1 := ctD [psg] fun al => .ret (bV (bF 20 psgL al))
def Sees (ρ : Env) (I : Interp) (c : Nat) : Prop := ∀ n l, n < c → ρ.fi n l = I.fi n l ∧ ρ.fb n l = I.fb n l
theorem Sees.of {ρ : Env} {I : Interp} (h : ρ.has I) (c : Nat) : Sees ρ I c := fun n l _ => by rw [h.1, h.2.1]; exact ⟨rfl, rfl⟩
theorem Sees.trans {ρ : Env} {I J : Interp} {c d : Nat} (h : Sees ρ I c) (hd : d ≤ c) (hj : ∀ n l, n < d → I.fi n l = J.fi n l ∧ I.fb n l = J.fb n l) : Sees ρ J d :=
  fun n l hn => ⟨(h n l (Nat.lt_of_lt_of_le hn hd)).1.trans (hj n l hn).1, (h n l (Nat.lt_of_lt_of_le hn hd)).2.trans (hj n l hn).2⟩
section
variable {ρ : Env} (h : Sees ρ K 30)
include h
theorem cTurnA_ok : CtOne Tryz.prog ρ 161 cTurnA :=
  ctD_ok gTurn (fun _ => rfl) (fun al => by
    simp only [V.val, V2.val, S.val, S0.val, sIF, sBF, List.map_cons, List.map_nil, iF_ev (s := 15) (f := turnR) (fun l => by rw [(h 15 l (by decide)).1]; simp only [K]), iF_ev (s := 16) (f := turnE) (fun l => by rw [(h 16 l (by decide)).1]; simp only [K]), turnV, turnR, turnE]
    split <;> rfl)
theorem cPlaceK_ok : CtOne Tryz.prog ρ 126 cPlace1 := cPlace1_ok (fun l => by rw [(h 3 l (by decide)).2]; simp only [K])
end
def ctPl : Ct := [(126, cPlace1), (161, cTurnA)]
theorem ctPl_ok {ρ : Env} (h : Sees ρ K 30) : CtOk Tryz.prog ρ ctPl := .cons (cPlaceK_ok h) <| .cons (cTurnA_ok h) .nil
def ctH : Ct := ctPl
theorem ctH_ok {ρ : Env} (h : Sees ρ K 30) : CtOk Tryz.prog ρ ctH := (ctPl_ok h)
end Go.Proofs.YtbbjlleaofgddaaGreat
/- Chapter 38: the tree of span.Valid. -/
namespace Go.Proofs.YtbbjlleaofgddaaGreat
open Go.RowKit
def sp : Sh := .agg [.int .i64, .int .i64]
def bx : Sh := .agg [.int .i64, .int .i64, .int .i64, .int .i64]
end Go.Proofs.YtbbjlleaofgddaaGreat
/- Chapter 38: span.Valid. -/
namespace Go.Proofs.YtbbjlleaofgddaaGreat
open Go.RowKit
def spanB (a b : Int) : Bool := decide (-1000000000000 ≤ a ∧ a ≤ b ∧ b ≤ 1000000000000)
def spanL (ds : List D) : Bool := spanB (iAt ds 0) (iAt ds 1)
def KS : Interp := { fi := fun _ _ => 0, fb := fun n l => match n with | 30 => spanL l | _ => false, fd := fun _ _ => [] }
def cSpV := ctD [sp] fun al => .ret (bV (bF 30 spanL al))
def ctS : Ct := []
theorem ctS_ok {ρ : Env} (h : ρ.has KS) : CtOk Tryz.prog ρ ctS := .nil
end Go.Proofs.YtbbjlleaofgddaaGreat
/- Chapter 38: the tree of span.ValidBox. -/
namespace Go.Proofs.YtbbjlleaofgddaaGreat
open Go.RowKit
end Go.Proofs.YtbbjlleaofgddaaGreat
/- Chapter 38: span.ValidBox. -/
namespace Go.Proofs.YtbbjlleaofgddaaGreat
open Go.RowKit
def boxB (a b c d : Int) : Bool := decide ((-1000000 ≤ a ∧ a ≤ b ∧ b ≤ 1000000) ∧ -1000000 ≤ c ∧ c ≤ d ∧ d ≤ 1000000)
def boxL (ds : List D) : Bool := boxB (iAt ds 0) (iAt ds 1) (iAt ds 2) (iAt ds 3)
theorem KS30 (W : World) (ds l : List D) : (envOf KS W ds).fb 30 l = spanL l := by simp only [envOf, KS]
theorem span_two (a b : Int) : spanL [.i a, .i b] = spanB a b := rfl
theorem spanB_t (a b : Int) : (spanB a b = true) = (-1000000000000 ≤ a ∧ a ≤ b ∧ b ≤ 1000000000000) := by simp [spanB]
theorem spanB_f (a b : Int) : (spanB a b = false) = ¬ (-1000000000000 ≤ a ∧ a ≤ b ∧ b ≤ 1000000000000) := by simp [spanB]
def KS2 : Interp := { fi := fun _ _ => 0, fb := fun n l => match n with | 30 => spanL l | 31 => boxL l | _ => false, fd := fun _ _ => [] }
def cBoxV := ctD [bx] fun al => .ret (bV (bF 31 boxL al))
def ctS2 : Ct := []
theorem ctS2_ok {ρ : Env} (h : ρ.has KS2) : CtOk Tryz.prog ρ ctS2 := .nil
end Go.Proofs.YtbbjlleaofgddaaGreat
/- Chapter 38: trees of span's boxes. -/
namespace Go.Proofs.YtbbjlleaofgddaaGreat
open Go.RowKit
end Go.Proofs.YtbbjlleaofgddaaGreat
/- Chapter 38: span.JoinBox, MeetBox, GrowBox. -/
namespace Go.Proofs.YtbbjlleaofgddaaGreat
open Go.RowKit
def boxE (a b c d e : Int) : Value := .tuple #[.agg #[.int .i64 a, .int .i64 b, .int .i64 c, .int .i64 d], .int .i64 e]
def box8 (ds : List D) : Bool := boxB (iAt ds 0) (iAt ds 1) (iAt ds 2) (iAt ds 3) && boxB (iAt ds 4) (iAt ds 5) (iAt ds 6) (iAt ds 7)
theorem boxB_t (a b c d : Int) : (boxB a b c d = true) = ((-1000000 ≤ a ∧ a ≤ b ∧ b ≤ 1000000) ∧ -1000000 ≤ c ∧ c ≤ d ∧ d ≤ 1000000) := by simp [boxB]
theorem boxB_f (a b c d : Int) : (boxB a b c d = false) = ¬ ((-1000000 ≤ a ∧ a ≤ b ∧ b ≤ 1000000) ∧ -1000000 ≤ c ∧ c ≤ d ∧ d ≤ 1000000) := by rw [← boxB_t]; simp
theorem K2_30 (W : World) (ds l : List D) : (envOf KS2 W ds).fb 30 l = spanL l := by simp only [envOf, KS2]
theorem K2_31 (W : World) (ds l : List D) : (envOf KS2 W ds).fb 31 l = boxL l := by simp only [envOf, KS2]
theorem box_four (a b c d : Int) : boxL [.i a, .i b, .i c, .i d] = boxB a b c d := rfl
theorem box_spans {a b c d : Int} (h : boxB a b c d = true) : spanB a b = true ∧ spanB c d = true := by
  rw [boxB_t] at h; rw [spanB_t, spanB_t]; omega
def joinBV (ds : List D) : Value := if box8 ds then boxE (min (iAt ds 0) (iAt ds 4)) (max (iAt ds 1) (iAt ds 5)) (min (iAt ds 2) (iAt ds 6)) (max (iAt ds 3) (iAt ds 7)) 0 else boxE 0 0 0 0 1
def meetOn (ds : List D) : Bool := decide (max (iAt ds 0) (iAt ds 4) ≤ min (iAt ds 1) (iAt ds 5) ∧ max (iAt ds 2) (iAt ds 6) ≤ min (iAt ds 3) (iAt ds 7))
def meetBV (ds : List D) : Value := if box8 ds then (if meetOn ds then boxE (max (iAt ds 0) (iAt ds 4)) (min (iAt ds 1) (iAt ds 5)) (max (iAt ds 2) (iAt ds 6)) (min (iAt ds 3) (iAt ds 7)) 0 else boxE 0 0 0 0 4) else boxE 0 0 0 0 1
def growV (ds : List D) : Value := if boxB (iAt ds 0) (iAt ds 1) (iAt ds 2) (iAt ds 3) ∧ 0 ≤ iAt ds 4 ∧ iAt ds 4 ≤ 3000000 then (if boxB (iAt ds 0 - iAt ds 4) (iAt ds 1 + iAt ds 4) (iAt ds 2 - iAt ds 4) (iAt ds 3 + iAt ds 4) then boxE (iAt ds 0 - iAt ds 4) (iAt ds 1 + iAt ds 4) (iAt ds 2 - iAt ds 4) (iAt ds 3 + iAt ds 4) 0 else boxE 0 0 0 0 3) else boxE 0 0 0 0 1
end Go.Proofs.YtbbjlleaofgddaaGreat
/- Chapter 38: contracts of span's boxes; all symbols so far. -/
namespace Go.Proofs.YtbbjlleaofgddaaGreat
open Go.RowKit
def uniA (ds : List D) : Int := if box8 ds then min (iAt ds 0) (iAt ds 4) else 0
def uniB (ds : List D) : Int := if box8 ds then max (iAt ds 1) (iAt ds 5) else 0
def uniC (ds : List D) : Int := if box8 ds then min (iAt ds 2) (iAt ds 6) else 0
def uniD (ds : List D) : Int := if box8 ds then max (iAt ds 3) (iAt ds 7) else 0
def uniE (ds : List D) : Int := if box8 ds then 0 else 1
def meet8 (ds : List D) : Bool := box8 ds && meetOn ds
def meetA (ds : List D) : Int := if meet8 ds then max (iAt ds 0) (iAt ds 4) else 0
def meetBB (ds : List D) : Int := if meet8 ds then min (iAt ds 1) (iAt ds 5) else 0
def meetC (ds : List D) : Int := if meet8 ds then max (iAt ds 2) (iAt ds 6) else 0
def meetD (ds : List D) : Int := if meet8 ds then min (iAt ds 3) (iAt ds 7) else 0
def meetE (ds : List D) : Int := if meet8 ds then 0 else if box8 ds then 4 else 1
def growO (ds : List D) : Bool := boxB (iAt ds 0) (iAt ds 1) (iAt ds 2) (iAt ds 3) && decide (0 ≤ iAt ds 4 ∧ iAt ds 4 ≤ 3000000)
def growX (ds : List D) : Bool := growO ds && boxB (iAt ds 0 - iAt ds 4) (iAt ds 1 + iAt ds 4) (iAt ds 2 - iAt ds 4) (iAt ds 3 + iAt ds 4)
def growA (ds : List D) : Int := if growX ds then iAt ds 0 - iAt ds 4 else 0
def growB (ds : List D) : Int := if growX ds then iAt ds 1 + iAt ds 4 else 0
def growC (ds : List D) : Int := if growX ds then iAt ds 2 - iAt ds 4 else 0
def growD (ds : List D) : Int := if growX ds then iAt ds 3 + iAt ds 4 else 0
def growE (ds : List D) : Int := if growX ds then 0 else if growO ds then 3 else 1
theorem joinV_eq (ds : List D) : joinBV ds = boxE (uniA ds) (uniB ds) (uniC ds) (uniD ds) (uniE ds) := by
  unfold joinBV uniA uniB uniC uniD uniE; split <;> rfl
theorem meetV_eq (ds : List D) : meetBV ds = boxE (meetA ds) (meetBB ds) (meetC ds) (meetD ds) (meetE ds) := by
  unfold meetBV meetA meetBB meetC meetD meetE meet8; cases box8 ds <;> cases meetOn ds <;> rfl
theorem growV_eq (ds : List D) : growV ds = boxE (growA ds) (growB ds) (growC ds) (growD ds) (growE ds) := by
  unfold growV growA growB growC growD growE growX growO
  by_cases h : boxB (iAt ds 0) (iAt ds 1) (iAt ds 2) (iAt ds 3) = true ∧ 0 ≤ iAt ds 4 ∧ iAt ds 4 ≤ 3000000
  · rw [if_pos h, h.1, decide_eq_true h.2]
    cases boxB (iAt ds 0 - iAt ds 4) (iAt ds 1 + iAt ds 4) (iAt ds 2 - iAt ds 4) (iAt ds 3 + iAt ds 4) <;> rfl
  · rw [if_neg h]
    have : (boxB (iAt ds 0) (iAt ds 1) (iAt ds 2) (iAt ds 3) && decide (0 ≤ iAt ds 4 ∧ iAt ds 4 ≤ 3000000)) = false := by
      rw [and_f, decide_eq_true_eq]; exact h
    rw [this]; rfl
def K5 : Interp where
  fi n l := match n with | 32 => uniA l | 33 => uniB l | 34 => uniC l | 35 => uniD l | 36 => uniE l | 37 => meetA l | 38 => meetBB l | 39 => meetC l | 40 => meetD l | 41 => meetE l | 42 => growA l | 43 => growB l | 44 => growC l | 45 => growD l | 46 => growE l | n => K.fi n l
  fb n l := match n with | 30 => spanL l | 31 => boxL l | n => K.fb n l
  fd _ _ := []
def bx5 (a b c d e : S) : V := .tup [.agg [a, b, c, d], .one e]
def cJoin := ctD [bx, bx] fun al => .ret (bx5 (sIF 32 uniA al) (sIF 33 uniB al) (sIF 34 uniC al) (sIF 35 uniD al) (sIF 36 uniE al))
def cMeetB := ctD [bx, bx] fun al => .ret (bx5 (sIF 37 meetA al) (sIF 38 meetBB al) (sIF 39 meetC al) (sIF 40 meetD al) (sIF 41 meetE al))
def cGrow := ctD [bx, it] fun al => .ret (bx5 (sIF 42 growA al) (sIF 43 growB al) (sIF 44 growC al) (sIF 45 growD al) (sIF 46 growE al))
section
variable {ρ : Env} (h : Sees ρ K5 50)
include h
theorem K5_K : Sees ρ K 30 := h.trans (by decide) fun n l hn => by
  constructor
  · simp only [K5]
    split <;> first | omega | rfl
  · simp only [K5]
    split <;> first | omega | rfl
end
def ct5 : Ct := ctH
theorem ct5_ok {ρ : Env} (h : Sees ρ K5 50) : CtOk Tryz.prog ρ ct5 := (ctH_ok (K5_K h))
end Go.Proofs.YtbbjlleaofgddaaGreat
/- Chapter 38: trees of span.WithinBox, InBox; passage.Zone, Holds, Concerns. -/
namespace Go.Proofs.YtbbjlleaofgddaaGreat
open Go.RowKit
end Go.Proofs.YtbbjlleaofgddaaGreat
/- Chapter 38: span.WithinBox; passage.Zone, Holds. -/
namespace Go.Proofs.YtbbjlleaofgddaaGreat
open Go.RowKit
section
variable (W : World) (ds l : List D)
theorem K5i26 : (envOf K5 W ds).fi 26 l = durE l := by simp only [envOf, K5, K]
theorem K5i24 : (envOf K5 W ds).fi 24 l = durL l := by simp only [envOf, K5, K]
theorem K5i25 : (envOf K5 W ds).fi 25 l = durH l := by simp only [envOf, K5, K]
theorem K5i32 : (envOf K5 W ds).fi 32 l = uniA l := by simp only [envOf, K5]
theorem K5i33 : (envOf K5 W ds).fi 33 l = uniB l := by simp only [envOf, K5]
theorem K5i34 : (envOf K5 W ds).fi 34 l = uniC l := by simp only [envOf, K5]
theorem K5i35 : (envOf K5 W ds).fi 35 l = uniD l := by simp only [envOf, K5]
theorem K5i36 : (envOf K5 W ds).fi 36 l = uniE l := by simp only [envOf, K5]
theorem K5i42 : (envOf K5 W ds).fi 42 l = growA l := by simp only [envOf, K5]
theorem K5i43 : (envOf K5 W ds).fi 43 l = growB l := by simp only [envOf, K5]
theorem K5i44 : (envOf K5 W ds).fi 44 l = growC l := by simp only [envOf, K5]
theorem K5i45 : (envOf K5 W ds).fi 45 l = growD l := by simp only [envOf, K5]
theorem K5i46 : (envOf K5 W ds).fi 46 l = growE l := by simp only [envOf, K5]
theorem K5b3 : (envOf K5 W ds).fb 3 l = placeL l := by simp only [envOf, K5, K]
theorem K5b7 : (envOf K5 W ds).fb 7 l = nearR l := by simp only [envOf, K5, K]
theorem K5b20 : (envOf K5 W ds).fb 20 l = psgL l := by simp only [envOf, K5, K]
theorem K5b8 : (envOf K5 W ds).fb 8 l = closeR l := by simp only [envOf, K5, K]
theorem K5b31 : (envOf K5 W ds).fb 31 l = boxL l := by simp only [envOf, K5, K]
end
/-! ### Is a box in another one? -/
def withinR (ds : List D) : Bool := box8 ds && decide (iAt ds 4 ≤ iAt ds 0 ∧ iAt ds 1 ≤ iAt ds 5 ∧ iAt ds 6 ≤ iAt ds 2 ∧ iAt ds 3 ≤ iAt ds 7)
def withinV (ds : List D) : Value := .tuple #[.bool (withinR ds), .int .i64 (uniE ds)]
def octL (a b c d e f g h : Int) : List D := [.i a, .i b, .i c, .i d, .i e, .i f, .i g, .i h]
theorem uni_oct (a b c d e f g h : Int) (hb : (boxB a b c d && boxB e f g h) = true) : uniA (octL a b c d e f g h) = min a e ∧ uniB (octL a b c d e f g h) = max b f ∧ uniC (octL a b c d e f g h) = min c g ∧ uniD (octL a b c d e f g h) = max d h ∧ uniE (octL a b c d e f g h) = 0 := by
  have : box8 (octL a b c d e f g h) = true := hb
  unfold uniA uniB uniC uniD uniE
  rw [if_pos this, if_pos this, if_pos this, if_pos this, if_pos this]
  exact ⟨rfl, rfl, rfl, rfl, rfl⟩
theorem oct_eq (a b c d e f g h : Int) : [D.i a, .i b, .i c, .i d, .i e, .i f, .i g, .i h] = octL a b c d e f g h := rfl
theorem uniE_oct (ds : List D) : uniE (octL (iAt ds 0) (iAt ds 1) (iAt ds 2) (iAt ds 3) (iAt ds 4) (iAt ds 5) (iAt ds 6) (iAt ds 7)) = uniE ds := rfl
def cWithin := ctD [bx, bx] fun al => .ret (.tup [.one (sBF 51 withinR al), .one (sIF 36 uniE al)])

/-! ### The zone of a leg -/
def zoneO (ds : List D) : Bool := psgB (iAt ds 0) (iAt ds 1) (iAt ds 2) (rAt ds 3) && decide (0 ≤ iAt ds 4 ∧ iAt ds 4 < (rAt ds 3).length)
def zoneL (ds : List D) : List D := [.i (min (lg (rAt ds 3) (iAt ds 4) 0) (lg (rAt ds 3) (iAt ds 4) 2)), .i (max (lg (rAt ds 3) (iAt ds 4) 0) (lg (rAt ds 3) (iAt ds 4) 2)), .i (min (lg (rAt ds 3) (iAt ds 4) 1) (lg (rAt ds 3) (iAt ds 4) 3)), .i (max (lg (rAt ds 3) (iAt ds 4) 1) (lg (rAt ds 3) (iAt ds 4) 3)), .i (iAt ds 2)]
def zoneV (ds : List D) : Value := if zoneO ds then growV (zoneL ds) else boxE 0 0 0 0 1
/-! ### Can the ship be there? -/
def holdsR (ds : List D) : Bool := placeB (iAt ds 6) (iAt ds 7) && timeB (iAt ds 5) && decide (durE ds = 0) && nearR [.i (iAt ds 6), .i (iAt ds 7), .i (lg (rAt ds 3) (iAt ds 4) 0), .i (lg (rAt ds 3) (iAt ds 4) 1), .i (lg (rAt ds 3) (iAt ds 4) 2), .i (lg (rAt ds 3) (iAt ds 4) 3), .i (iAt ds 2)] && decide (durL ds ≤ iAt ds 5 ∧ iAt ds 5 ≤ durH ds)
def holdsE (ds : List D) : Int := if placeB (iAt ds 6) (iAt ds 7) && timeB (iAt ds 5) then durE ds else 1
def holdsV (ds : List D) : Value := .tuple #[.bool (holdsR ds), .int .i64 (holdsE ds)]
theorem durL_eq (ds : List D) : durL [.i (iAt ds 0), .i (iAt ds 1), .i (iAt ds 2), .l (rAt ds 3), .i (iAt ds 4)] = durL ds := rfl
theorem durH_eq (ds : List D) : durH [.i (iAt ds 0), .i (iAt ds 1), .i (iAt ds 2), .l (rAt ds 3), .i (iAt ds 4)] = durH ds := rfl
theorem durE_eq (ds : List D) : durE [.i (iAt ds 0), .i (iAt ds 1), .i (iAt ds 2), .l (rAt ds 3), .i (iAt ds 4)] = durE ds := rfl
theorem durE_zero {ds : List D} (h : durE ds = 0) : durX ds = true ∧ durO ds = true := by
  unfold durE at h
  cases h1 : durO ds
  · rw [h1] at h; simp at h
  · cases h2 : durX ds
    · rw [h1, h2] at h; simp at h
    · exact ⟨rfl, rfl⟩
/-! ### Contracts -/
def zoneA (ds : List D) : Int := if zoneO ds then growA (zoneL ds) else 0
def zoneB (ds : List D) : Int := if zoneO ds then growB (zoneL ds) else 0
def zoneC (ds : List D) : Int := if zoneO ds then growC (zoneL ds) else 0
def zoneD (ds : List D) : Int := if zoneO ds then growD (zoneL ds) else 0
def zoneE (ds : List D) : Int := if zoneO ds then growE (zoneL ds) else 1
theorem zoneV_eq (ds : List D) : zoneV ds = boxE (zoneA ds) (zoneB ds) (zoneC ds) (zoneD ds) (zoneE ds) := by
  unfold zoneV zoneA zoneB zoneC zoneD zoneE
  split
  · rw [growV_eq]
  · rfl
def K6 : Interp where
  fi n l := match n with | 53 => holdsE l | 54 => zoneA l | 55 => zoneB l | 56 => zoneC l | 57 => zoneD l | 58 => zoneE l | n => K5.fi n l
  fb n l := match n with | 51 => withinR l | 52 => holdsR l | n => K5.fb n l
  fd _ _ := []
def cHolds := ctD [psg, it, it, pt] fun al => .ret (.tup [.one (sBF 52 holdsR al), .one (sIF 53 holdsE al)])
def cZone := ctD [psg, it] fun al => .ret (bx5 (sIF 54 zoneA al) (sIF 55 zoneB al) (sIF 56 zoneC al) (sIF 57 zoneD al) (sIF 58 zoneE al))
section
variable {ρ : Env} (h : Sees ρ K6 60)
include h
theorem K6_K5 : Sees ρ K5 50 := h.trans (by decide) fun n l hn => by
  constructor
  · simp only [K6]
    split <;> first | omega | rfl
  · simp only [K6]
    split <;> first | omega | rfl
end
def ct6 : Ct := ct5
theorem ct6_ok {ρ : Env} (h : Sees ρ K6 60) : CtOk Tryz.prog ρ ct6 := (ct5_ok (K6_K5 h))
end Go.Proofs.YtbbjlleaofgddaaGreat
/- Chapter 38: the tree of passage.Concerns. -/
namespace Go.Proofs.YtbbjlleaofgddaaGreat
open Go.RowKit
end Go.Proofs.YtbbjlleaofgddaaGreat
/- Chapter 38: passage.Concerns. -/
namespace Go.Proofs.YtbbjlleaofgddaaGreat
open Go.RowKit
section
variable (W : World) (ds l : List D)
theorem K6b20 : (envOf K6 W ds).fb 20 l = psgL l := by simp only [envOf, K6, K5, K]
theorem K6b8 : (envOf K6 W ds).fb 8 l = closeR l := by simp only [envOf, K6, K5, K]
theorem K6b31 : (envOf K6 W ds).fb 31 l = boxL l := by simp only [envOf, K6, K5]
theorem K6b51 : (envOf K6 W ds).fb 51 l = withinR l := by simp only [envOf, K6]
end
theorem subR_len (r : Rows) (b : Nat) : (subR r (b : Int) (r.length : Int)).length = r.length - b := by
  simp only [subR, List.length_take, List.length_drop, Int.toNat_natCast]; omega
theorem subR_lg (r : Rows) (b i j : Nat) : lg (subR r (b : Int) (r.length : Int)) (i : Int) j = lg r ((b + i : Nat) : Int) j := by
  have : cellAt (subR r (b : Int) (r.length : Int)) (i : Int) j = cellAt r ((b + i : Nat) : Int) j := by
    simp only [cellAt, subR, Int.toNat_natCast]
    rw [List.take_of_length_le (by rw [List.length_drop]; exact Nat.le_refl _)]
    simp only [List.getElem?_drop, List.getD_eq_getElem?_getD]
  rw [lg, lg, this]
def legCon (r : Rows) (i a b c d off : Int) : Bool :=
  withinR [.i (lg r i 0), .i (lg r i 0), .i (lg r i 1), .i (lg r i 1), .i a, .i b, .i c, .i d] || (closeR [.i (lg r i 0), .i (lg r i 1), .i (lg r i 2), .i (lg r i 3), .i a, .i d, .i a, .i c, .i off] || (closeR [.i (lg r i 0), .i (lg r i 1), .i (lg r i 2), .i (lg r i 3), .i a, .i c, .i b, .i c, .i off] || (closeR [.i (lg r i 0), .i (lg r i 1), .i (lg r i 2), .i (lg r i 3), .i b, .i c, .i b, .i d, .i off] || closeR [.i (lg r i 0), .i (lg r i 1), .i (lg r i 2), .i (lg r i 3), .i b, .i d, .i a, .i d, .i off])))
def conFrom (r : Rows) (a b c d off : Int) : Nat → Nat → Bool
  | 0, _ => false
  | f + 1, j => legCon r j a b c d off || conFrom r a b c d off f (j + 1)
def conO (ds : List D) : Bool := psgB (iAt ds 0) (iAt ds 1) (iAt ds 2) (rAt ds 3) && boxB (iAt ds 4) (iAt ds 5) (iAt ds 6) (iAt ds 7) && decide (0 ≤ iAt ds 8 ∧ iAt ds 8 ≤ (rAt ds 3).length)
def conR (ds : List D) : Bool := conO ds && conFrom (rAt ds 3) (iAt ds 4) (iAt ds 5) (iAt ds 6) (iAt ds 7) (iAt ds 2) ((rAt ds 3).length - (iAt ds 8).toNat) (iAt ds 8).toNat
def conE (ds : List D) : Int := if conO ds then 0 else 1
def conV (ds : List D) : Value := .tuple #[.bool (conR ds), .int .i64 (conE ds)]
def K7 : Interp where
  fi n l := match n with | 60 => conE l | n => K6.fi n l
  fb n l := match n with | 60 => conR l | n => K6.fb n l
  fd _ _ := []
def cCon := ctD [psg, bx, it] fun al => .ret (.tup [.one (sBF 60 conR al), .one (sIF 60 conE al)])
section
variable {ρ : Env} (h : Sees ρ K7 61)
include h
theorem K7_K6 : Sees ρ K6 60 := h.trans (by decide) fun n l hn => by
  constructor
  · simp only [K7]
    split <;> first | omega | rfl
  · simp only [K7]
    split <;> first | omega | rfl
end
def ct7 : Ct := ct6
theorem ct7_ok {ρ : Env} (h : Sees ρ K7 61) : CtOk Tryz.prog ρ ct7 := (ct6_ok (K7_K6 h))
end Go.Proofs.YtbbjlleaofgddaaGreat
