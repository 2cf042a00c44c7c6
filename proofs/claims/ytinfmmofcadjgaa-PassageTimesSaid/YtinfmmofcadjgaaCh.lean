/- Chapter 38: what plane.Close answers; contracts of plane and passage that reckon; the law's head. -/
import Derived.Test.YtinfmmofcadjgaaTCh
set_option linter.unusedSimpArgs false
set_option linter.unusedVariables false
namespace Go.Proofs.Ytinfmmofcadjgaa
open Go.RowKit

/-- Are two segments at most r apart? -/
def closeB (ax ay bx by' cx cy dx dy r : Int) : Bool :=
  meetB ax ay bx by' cx cy dx dy || (nearB ax ay cx cy dx dy r || (nearB bx by' cx cy dx dy r || (nearB cx cy ax ay bx by' r || nearB dx dy ax ay bx by' r)))
def closeL (ds : List D) : Bool := closeB (iAt ds 0) (iAt ds 1) (iAt ds 2) (iAt ds 3) (iAt ds 4) (iAt ds 5) (iAt ds 6) (iAt ds 7) (iAt ds 8)
theorem I4_1 (W : World) (ds l : List D) : (envOf I4 W ds).fb 1 l = six6 l := by simp only [envOf, I4]
theorem I4_2 (W : World) (ds l : List D) : (envOf I4 W ds).fb 2 l = nearL l := by simp only [envOf, I4]
theorem I4_3 (W : World) (ds l : List D) : (envOf I4 W ds).fb 3 l = placeL l := by simp only [envOf, I4]
theorem I4_5 (W : World) (ds l : List D) : (envOf I4 W ds).fb 5 l = eight l := by simp only [envOf, I4]
theorem I4_6 (W : World) (ds l : List D) : (envOf I4 W ds).fb 6 l = meetL l := by simp only [envOf, I4]
theorem eight_eight (a b c d e f g h : Int) : eight [.i a, .i b, .i c, .i d, .i e, .i f, .i g, .i h] = (placeB a b && (placeB c d && (placeB e f && placeB g h))) := rfl
theorem meet_eight (a b c d e f g h : Int) : meetL [.i a, .i b, .i c, .i d, .i e, .i f, .i g, .i h] = meetB a b c d e f g h := by
  unfold meetL iAt; simp only [List.getD_cons_zero, List.getD_cons_succ, D.int]
def closeOk (ds : List D) : Bool := eight ds && distB (iAt ds 8)
def closeV (ds : List D) : Value := errV (closeOk ds) (closeL ds)
set_option maxHeartbeats 1000000 in
theorem gClose : Gives Try.prog 53 [pt, pt, pt, pt, it] closeV := by
  refine GivesIf.all (fn_gives I4 (by kernel_rfl) (fun ρ h => ct4_ok h) (by kernel_rfl) trClose_is trClose_low (by decide) (fun W vals ds _ _ => ?_))
  simp only [trClose, TT.sat_ret, TT.sat_ite, TT.sat_ob, Ob.ok, B.ev, E.ev, AL.ev, cmp_t, cmp_f, V.plain, V2.plain, S.plain, S0.plain, V.val, V2.val, S.val, S0.val, List.all_cons, List.all_nil, Bool.and_self, envOf_i, List.map_cons, List.map_nil, true_and, Bool.not_eq_true', Bool.not_eq_false', Bool.and_eq_true, cmpP, I4_1, I4_2, I4_3, I4_5, I4_6, placeL_two, six_six, eight_eight, meet_eight, near_sev]
  simp only [closeV, closeOk, closeL, closeB, eight, distB]
  generalize placeB (iAt ds 0) (iAt ds 1) = p1
  generalize placeB (iAt ds 2) (iAt ds 3) = p2
  generalize placeB (iAt ds 4) (iAt ds 5) = p3
  generalize placeB (iAt ds 6) (iAt ds 7) = p4
  generalize meetB _ _ _ _ _ _ _ _ = m0
  generalize nearB (iAt ds 0) (iAt ds 1) (iAt ds 4) (iAt ds 5) (iAt ds 6) (iAt ds 7) (iAt ds 8) = q1
  generalize nearB (iAt ds 2) (iAt ds 3) (iAt ds 4) (iAt ds 5) (iAt ds 6) (iAt ds 7) (iAt ds 8) = q2
  generalize nearB (iAt ds 4) (iAt ds 5) (iAt ds 0) (iAt ds 1) (iAt ds 2) (iAt ds 3) (iAt ds 8) = q3
  generalize nearB (iAt ds 6) (iAt ds 7) (iAt ds 0) (iAt ds 1) (iAt ds 2) (iAt ds 3) (iAt ds 8) = q4
  generalize iAt ds 8 = d
  refine ⟨fun h1 => ?_, fun h1 => ⟨fun h2 => ?_, fun h2 => ⟨fun h3 => ?_, fun h3 => ⟨fun h4 => ?_, fun h4 => ⟨fun h5 => ⟨fun h6 => ?_, fun h6 => ⟨?_, fun m => ?_, fun m => ⟨?_, ?_, ?_, fun n1 => ?_, fun n1 => ⟨?_, ?_, ?_, fun n2 => ?_, fun n2 => ⟨?_, ?_, ?_, fun n3 => ?_, fun n3 => ⟨?_, ?_, ?_, fun n4 => ?_, fun n4 => ?_⟩⟩⟩⟩⟩⟩, fun h5 => ?_⟩⟩⟩⟩⟩
  all_goals first | omega | (simp [errV, *]; done) | (simp [errV, *]; omega)

/-! ### Contracts of plane's exported functions, that reckon -/
def nearO (ds : List D) : Bool := six6 ds && distB (iAt ds 6)
def nearR (ds : List D) : Bool := nearO ds && nearL ds
def nearE (ds : List D) : Int := if nearO ds then 0 else 1
def closeR (ds : List D) : Bool := closeOk ds && closeL ds
def closeE (ds : List D) : Int := if closeOk ds then 0 else 1
def turnR (ds : List D) : Int := if six6 ds then turnL ds else 0
def turnE (ds : List D) : Int := if six6 ds then 0 else 1
/-! What passage's functions answer, part by part -/
def arrO (ds : List D) : Bool := psgB (iAt ds 0) (iAt ds 1) (iAt ds 2) (rAt ds 3) && decide (0 ≤ iAt ds 4 ∧ iAt ds 4 ≤ (rAt ds 3).length)
def arrX (ds : List D) : Bool := arrO ds && !decide (10000000 < tHi (rAt ds 3) (iAt ds 1) (iAt ds 4).toNat)
def arrL (ds : List D) : Int := if arrX ds then tLo (rAt ds 3) (iAt ds 0) (iAt ds 4).toNat else 0
def arrH (ds : List D) : Int := if arrX ds then tHi (rAt ds 3) (iAt ds 1) (iAt ds 4).toNat else 0
def arrE (ds : List D) : Int := if arrO ds then (if arrX ds then 0 else 3) else 1
def durO (ds : List D) : Bool := psgB (iAt ds 0) (iAt ds 1) (iAt ds 2) (rAt ds 3) && decide (0 ≤ iAt ds 4 ∧ iAt ds 4 < (rAt ds 3).length)
def durX (ds : List D) : Bool := durO ds && !decide (10000000 < tHi (rAt ds 3) (iAt ds 1) ((iAt ds 4).toNat + 1))
def durL (ds : List D) : Int := if durX ds then tLo (rAt ds 3) (iAt ds 0) (iAt ds 4).toNat else 0
def durH (ds : List D) : Int := if durX ds then tHi (rAt ds 3) (iAt ds 1) ((iAt ds 4).toNat + 1) else 0
def durE (ds : List D) : Int := if durO ds then (if durX ds then 0 else 3) else 1
def restK (ds : List D) : Int := (restI ds).1
def restE (ds : List D) : Int := (restI ds).2
theorem arrV_eq (ds : List D) : arrV ds = spanE (arrL ds) (arrH ds) (arrE ds) := by
  unfold arrV arrL arrH arrE arrX arrO inV
  by_cases h : psgB (iAt ds 0) (iAt ds 1) (iAt ds 2) (rAt ds 3) = true ∧ 0 ≤ iAt ds 4 ∧ iAt ds 4 ≤ (rAt ds 3).length
  · rw [if_pos h]
    have : (psgB (iAt ds 0) (iAt ds 1) (iAt ds 2) (rAt ds 3) && decide (0 ≤ iAt ds 4 ∧ iAt ds 4 ≤ (rAt ds 3).length)) = true := by rw [h.1, decide_eq_true h.2]; rfl
    rw [this]
    by_cases q : 10000000 < tHi (rAt ds 3) (iAt ds 1) (iAt ds 4).toNat
    · simp [q]
    · simp [q]
  · rw [if_neg h]
    have : (psgB (iAt ds 0) (iAt ds 1) (iAt ds 2) (rAt ds 3) && decide (0 ≤ iAt ds 4 ∧ iAt ds 4 ≤ (rAt ds 3).length)) = false := by
      rw [and_f, decide_eq_true_eq]; exact h
    rw [this]
    rfl
theorem durV_eq (ds : List D) : durV ds = spanE (durL ds) (durH ds) (durE ds) := by
  unfold durV durL durH durE durX durO inV
  by_cases h : psgB (iAt ds 0) (iAt ds 1) (iAt ds 2) (rAt ds 3) = true ∧ 0 ≤ iAt ds 4 ∧ iAt ds 4 < (rAt ds 3).length
  · rw [if_pos h]
    have : (psgB (iAt ds 0) (iAt ds 1) (iAt ds 2) (rAt ds 3) && decide (0 ≤ iAt ds 4 ∧ iAt ds 4 < (rAt ds 3).length)) = true := by rw [h.1, decide_eq_true h.2]; rfl
    rw [this]
    by_cases q : 10000000 < tHi (rAt ds 3) (iAt ds 1) ((iAt ds 4).toNat + 1)
    · simp [q]
    · simp [q]
  · rw [if_neg h]
    have : (psgB (iAt ds 0) (iAt ds 1) (iAt ds 2) (rAt ds 3) && decide (0 ≤ iAt ds 4 ∧ iAt ds 4 < (rAt ds 3).length)) = false := by
      rw [and_f, decide_eq_true_eq]; exact h
    rw [this]
    rfl
/-- The symbols of the chapter. -/
def K : Interp where
  fi n l := match n with | 0 => turnL l | 10 => distIL l | 11 => distIH l | 12 => distIE l | 13 => nearE l | 14 => closeE l | 15 => turnR l | 16 => turnE l | 21 => arrL l | 22 => arrH l | 23 => arrE l | 24 => durL l | 25 => durH l | 26 => durE l | 27 => restK l | 28 => restE l | _ => 0
  fb n l := match n with | 0 => mostB l | 1 => six6 l | 2 => nearL l | 3 => placeL l | 4 => onL l | 5 => eight l | 6 => meetL l | 7 => nearR l | 8 => closeR l | 20 => psgL l | _ => false
  fd _ _ := []
def cDist1 := ctD [pt, pt] fun al => .ret (.tup [.agg [sIF 10 distIL al, sIF 11 distIH al], .one (sIF 12 distIE al)])
def cNearA := ctD [pt, pt, pt, it] fun al => .ret (.tup [.one (sBF 7 nearR al), .one (sIF 13 nearE al)])
def cCloseA := ctD [pt, pt, pt, pt, it] fun al => .ret (.tup [.one (sBF 8 closeR al), .one (sIF 14 closeE al)])
def cTurnA := ctD [pt, pt, pt] fun al => .ret (.tup [.one (sIF 15 turnR al), .one (sIF 16 turnE al)])
def cArr1 := ctD [psg, it] fun al => .ret (.tup [.agg [sIF 21 arrL al, sIF 22 arrH al], .one (sIF 23 arrE al)])
def cDur1 := ctD [psg, it] fun al => .ret (.tup [.agg [sIF 24 durL al, sIF 25 durH al], .one (sIF 26 durE al)])
def cRest1 := ctD [psg, it] fun al => .ret (.tup [.one (sIF 27 restK al), .one (sIF 28 restE al)])
def cPV1 := ctD [psg] fun al => .ret (bV (bF 20 psgL al))
/-- The symbols below c are interpreted by I. -/
def Sees (ρ : Env) (I : Interp) (c : Nat) : Prop := ∀ n l, n < c → ρ.fi n l = I.fi n l ∧ ρ.fb n l = I.fb n l
theorem Sees.of {ρ : Env} {I : Interp} (h : ρ.has I) (c : Nat) : Sees ρ I c := fun n l _ => by rw [h.1, h.2.1]; exact ⟨rfl, rfl⟩
theorem Sees.trans {ρ : Env} {I J : Interp} {c d : Nat} (h : Sees ρ I c) (hd : d ≤ c) (hj : ∀ n l, n < d → I.fi n l = J.fi n l ∧ I.fb n l = J.fb n l) : Sees ρ J d :=
  fun n l hn => ⟨(h n l (Nat.lt_of_lt_of_le hn hd)).1.trans (hj n l hn).1, (h n l (Nat.lt_of_lt_of_le hn hd)).2.trans (hj n l hn).2⟩
section
variable {ρ : Env} (h : Sees ρ K 30)
include h
theorem cDist1_ok : CtOne Try.prog ρ 51 cDist1 :=
  ctD_ok gDist (fun _ => rfl) (fun al => by
    simp only [V.val, V2.val, S.val, S0.val, sIF, List.map_cons, List.map_nil, iF_ev (s := 10) (f := distIL) (fun l => by rw [(h 10 l (by decide)).1]; simp only [K]), iF_ev (s := 11) (f := distIH) (fun l => by rw [(h 11 l (by decide)).1]; simp only [K]), iF_ev (s := 12) (f := distIE) (fun l => by rw [(h 12 l (by decide)).1]; simp only [K])]; rfl)
theorem cNearA_ok : CtOne Try.prog ρ 37 cNearA :=
  ctD_ok gNear (fun _ => rfl) (fun al => by
    simp only [V.val, V2.val, S.val, S0.val, sIF, sBF, List.map_cons, List.map_nil, bF_ev (s := 7) (f := nearR) (fun l => by rw [(h 7 l (by decide)).2]; simp only [K]), iF_ev (s := 13) (f := nearE) (fun l => by rw [(h 13 l (by decide)).1]; simp only [K])]; rfl)
theorem cCloseA_ok : CtOne Try.prog ρ 53 cCloseA :=
  ctD_ok gClose (fun _ => rfl) (fun al => by
    simp only [V.val, V2.val, S.val, S0.val, sIF, sBF, List.map_cons, List.map_nil, bF_ev (s := 8) (f := closeR) (fun l => by rw [(h 8 l (by decide)).2]; simp only [K]), iF_ev (s := 14) (f := closeE) (fun l => by rw [(h 14 l (by decide)).1]; simp only [K])]; rfl)
theorem cTurnA_ok : CtOne Try.prog ρ 83 cTurnA :=
  ctD_ok gTurn (fun _ => rfl) (fun al => by
    simp only [V.val, V2.val, S.val, S0.val, sIF, sBF, List.map_cons, List.map_nil, iF_ev (s := 15) (f := turnR) (fun l => by rw [(h 15 l (by decide)).1]; simp only [K]), iF_ev (s := 16) (f := turnE) (fun l => by rw [(h 16 l (by decide)).1]; simp only [K]), turnV, turnR, turnE]
    split <;> rfl)
theorem cPV1_ok : CtOne Try.prog ρ 11 cPV1 :=
  ctD_ok gPValid (fun _ => rfl) (fun al => by simp only [bV, V.s0, V.val, V2.val, S.val, S0.val, bF_ev (s := 20) (f := psgL) (fun l => by rw [(h 20 l (by decide)).2]; simp only [K])])
theorem cArr1_ok : CtOne Try.prog ρ 12 cArr1 :=
  ctD_ok gArr (fun _ => rfl) (fun al => by
    simp only [V.val, V2.val, S.val, S0.val, sIF, List.map_cons, List.map_nil, iF_ev (s := 21) (f := arrL) (fun l => by rw [(h 21 l (by decide)).1]; simp only [K]), iF_ev (s := 22) (f := arrH) (fun l => by rw [(h 22 l (by decide)).1]; simp only [K]), iF_ev (s := 23) (f := arrE) (fun l => by rw [(h 23 l (by decide)).1]; simp only [K])]; rw [arrV_eq]; rfl)
theorem cDur1_ok : CtOne Try.prog ρ 14 cDur1 :=
  ctD_ok gDur (fun _ => rfl) (fun al => by
    simp only [V.val, V2.val, S.val, S0.val, sIF, List.map_cons, List.map_nil, iF_ev (s := 24) (f := durL) (fun l => by rw [(h 24 l (by decide)).1]; simp only [K]), iF_ev (s := 25) (f := durH) (fun l => by rw [(h 25 l (by decide)).1]; simp only [K]), iF_ev (s := 26) (f := durE) (fun l => by rw [(h 26 l (by decide)).1]; simp only [K])]; rw [durV_eq]; rfl)
theorem cRest1_ok : CtOne Try.prog ρ 13 cRest1 :=
  ctD_ok gRest (fun _ => rfl) (fun al => by
    simp only [V.val, V2.val, S.val, S0.val, sIF, List.map_cons, List.map_nil, iF_ev (s := 27) (f := restK) (fun l => by rw [(h 27 l (by decide)).1]; simp only [K]), iF_ev (s := 28) (f := restE) (fun l => by rw [(h 28 l (by decide)).1]; simp only [K])]; rfl)
theorem cPlaceK_ok : CtOne Try.prog ρ 38 cPlace1 := cPlace1_ok (fun l => by rw [(h 3 l (by decide)).2]; simp only [K])
end
def ctPl : Ct := [(38, cPlace1), (51, cDist1), (37, cNearA), (53, cCloseA), (83, cTurnA)]
theorem ctPl_ok {ρ : Env} (h : Sees ρ K 30) : CtOk Try.prog ρ ctPl := .cons (cPlaceK_ok h) <| .cons (cDist1_ok h) <| .cons (cNearA_ok h) <| .cons (cCloseA_ok h) <| .cons (cTurnA_ok h) .nil
def ctH : Ct := (11, cPV1) :: (12, cArr1) :: (14, cDur1) :: (13, cRest1) :: ctPl
theorem ctH_ok {ρ : Env} (h : Sees ρ K 30) : CtOk Try.prog ρ ctH := .cons (cPV1_ok h) <| .cons (cArr1_ok h) <| .cons (cDur1_ok h) <| .cons (cRest1_ok h) (ctPl_ok h)
end Go.Proofs.Ytinfmmofcadjgaa
