/- Contracts that reckon where all is known; contracts of plane.turn and plane.on. -/
import Derived.Test.YtinfmmofcadjgaaCf
set_option linter.unusedSimpArgs false
set_option linter.unusedVariables false
namespace Go.Proofs.Ytinfmmofcadjgaa
open Go.RowKit

mutual
def litX : X → Option Rows
  | .nil => some []
  | .row l => match litA l with | some a => some [a] | none => none
  | .app x y => match litX x, litX y with | some a, some b => some (a ++ b) | _, _ => none
  | _ => none
def litA : AL → Option (List D)
  | .nil => some []
  | .i (.lit n) r => match litA r with | some l => some (.i n :: l) | none => none
  | .b (.lit b) r => match litA r with | some l => some (.b b :: l) | none => none
  | .x x r => match litX x, litA r with | some a, some l => some (.l a :: l) | _, _ => none
  | _ => none
end
mutual
theorem litX_ev (ρ : Env) : ∀ (x : X) (r : Rows), litX x = some r → x.ev ρ = r
  | .nil, r, h => by simp only [litX, Option.some.injEq] at h; subst h; simp [X.ev]
  | .row l, r, h => by
    simp only [litX] at h
    split at h
    · rename_i a ha
      simp only [Option.some.injEq] at h; subst h
      simp only [X.ev, litA_ev ρ l a ha]
    · cases h
  | .app x y, r, h => by
    simp only [litX] at h
    split at h
    · rename_i a b ha hb
      simp only [Option.some.injEq] at h; subst h
      simp only [X.ev, litX_ev ρ x a ha, litX_ev ρ y b hb]
    · cases h
  | .var _, r, h => by simp [litX] at h
  | .rd _ _ _, r, h => by simp [litX] at h
  | .sub _ _ _, r, h => by simp [litX] at h
  | .upd _ _ _ _, r, h => by simp [litX] at h
  | .fn _ _, r, h => by simp [litX] at h
theorem litA_ev (ρ : Env) : ∀ (a : AL) (l : List D), litA a = some l → a.ev ρ = l
  | .nil, l, h => by simp only [litA, Option.some.injEq] at h; subst h; simp [AL.ev]
  | .i e r, l, h => by
    cases e <;> simp only [litA, reduceCtorEq] at h
    split at h
    · rename_i m hm
      simp only [Option.some.injEq] at h; subst h
      simp only [AL.ev, E.ev, litA_ev ρ r m hm]
    · cases h
  | .b e r, l, h => by
    cases e <;> simp only [litA, reduceCtorEq] at h
    split at h
    · rename_i m hm
      simp only [Option.some.injEq] at h; subst h
      simp only [AL.ev, B.ev, litA_ev ρ r m hm]
    · cases h
  | .x x r, l, h => by
    simp only [litA] at h
    split at h
    · rename_i a m ha hm
      simp only [Option.some.injEq] at h; subst h
      simp only [AL.ev, litX_ev ρ x a ha, litA_ev ρ r m hm]
    · cases h
end
/-- A symbol, reckoned where all is known. -/
def bF (s : Nat) (f : List D → Bool) (al : AL) : B := match litA al with | some l => .lit (f l) | none => .fn s al
def iF (s : Nat) (f : List D → Int) (al : AL) : E := match litA al with | some l => .lit (f l) | none => .fn s al
theorem bF_ev {ρ : Env} {s : Nat} {f : List D → Bool} (h : ∀ l, ρ.fb s l = f l) (al : AL) : (bF s f al).ev ρ = f (al.ev ρ) := by
  unfold bF
  split
  · rename_i l hl; simp only [B.ev, litA_ev ρ al l hl]
  · simp only [B.ev, h]
theorem iF_ev {ρ : Env} {s : Nat} {f : List D → Int} (h : ∀ l, ρ.fi s l = f l) (al : AL) : (iF s f al).ev ρ = f (al.ev ρ) := by
  unfold iF
  split
  · rename_i l hl; simp only [E.ev, litA_ev ρ al l hl]
  · simp only [E.ev, h]
def sBF (s : Nat) (f : List D → Bool) (al : AL) : S := .z (.bool (bF s f al))
def sIF (s : Nat) (f : List D → Int) (al : AL) : S := .z (.int .i64 (iF s f al))

/-! ### plane.turn, plane.on: three valid places are asked for -/
def iniI : Interp := { fi := fun n l => match n with | 0 => turnL l | _ => 0, fb := fun n l => match n with | 1 => six6 l | 3 => placeL l | 4 => onL l | _ => false, fd := fun _ _ => [] }
def cTurn1 := ctD [pt, pt, pt] fun al => .ob (.tru (bF 1 six6 al)) (.ret (iV .i64 (iF 0 turnL al)))
def cOn1 := ctD [pt, pt, pt] fun al => .ob (.tru (bF 1 six6 al)) (.ret (bV (bF 4 onL al)))
theorem cTurn1_ok {ρ : Env} (h1 : ∀ l, ρ.fb 1 l = six6 l) (h0 : ∀ l, ρ.fi 0 l = turnL l) : CtOne Try.prog ρ 88 cTurn1 := by
  refine ctD_if gTurn0 (fun al v hv => ?_)
  obtain ⟨ho, hv⟩ := hv
  obtain rfl := res_ret hv
  have ho : (bF 1 six6 al).ev ρ = true := ho
  rw [bF_ev h1] at ho
  refine ⟨rfl, six_of ho, ?_⟩
  simp only [iV, V.s0, V.val, V2.val, S.val, S0.val, iF_ev h0, turnL]
theorem cOn1_ok {ρ : Env} (h1 : ∀ l, ρ.fb 1 l = six6 l) (h4 : ∀ l, ρ.fb 4 l = onL l) : CtOne Try.prog ρ 68 cOn1 := by
  refine ctD_if gOn0 (fun al v hv => ?_)
  obtain ⟨ho, hv⟩ := hv
  obtain rfl := res_ret hv
  have ho : (bF 1 six6 al).ev ρ = true := ho
  rw [bF_ev h1] at ho
  refine ⟨rfl, ho, ?_⟩
  simp only [bV, V.s0, V.val, V2.val, S.val, S0.val, bF_ev h4]
def ctM : Ct := [(88, cTurn1), (68, cOn1)]
theorem ctM_ok {ρ : Env} (h : ρ.has iniI) : CtOk Try.prog ρ ctM :=
  .cons (cTurn1_ok (fun l => by rw [h.2.1]; rfl) (fun l => by rw [h.1]; rfl)) <| .cons (cOn1_ok (fun l => by rw [h.2.1]; rfl) (fun l => by rw [h.2.1]; rfl)) .nil
end Go.Proofs.Ytinfmmofcadjgaa
