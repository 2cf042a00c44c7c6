/- Chapter 38: span.WithinBox; passage.Zone, Holds. -/
import Derived.Test.YtinfmmofcadjgaaTCm
set_option linter.unusedSimpArgs false
set_option linter.unusedVariables false
namespace Go.Proofs.Ytinfmmofcadjgaa
open Go.RowKit
section
variable (W : World) (ds l : List D)
theorem K5i26 : (envOf K5 W ds).fi 26 l = durE l := by simp only [envOf, K5, K]
theorem K5i24 : (envOf K5 W ds).fi 24 l = durL l := by simp only [envOf, K5, K]
theorem K5i25 : (envOf K5 W ds).fi 25 l = durH l := by simp only [envOf, K5, K]
theorem K5i32 : (envOf K5 W ds).fi 32 l = uniA l := by simp only [envOf, K5]
theorem K5i33 : (envOf K5 W ds).fi 33 l = uniB l := by simp only [envOf, K5]
theorem K5i34 : (envOf K5 W ds).fi 34 l = uniC l := by simp only [envOf, K5]
theorem K5i35 : (envOf K5 W ds).fi 35 l = uniD l := by simp only [envOf, K5]
theorem K5i36 : (envOf K5 W ds).fi 36 l = uniE l := by simp only [envOf, K5]
theorem K5i42 : (envOf K5 W ds).fi 42 l = growA l := by simp only [envOf, K5]
theorem K5i43 : (envOf K5 W ds).fi 43 l = growB l := by simp only [envOf, K5]
theorem K5i44 : (envOf K5 W ds).fi 44 l = growC l := by simp only [envOf, K5]
theorem K5i45 : (envOf K5 W ds).fi 45 l = growD l := by simp only [envOf, K5]
theorem K5i46 : (envOf K5 W ds).fi 46 l = growE l := by simp only [envOf, K5]
theorem K5b3 : (envOf K5 W ds).fb 3 l = placeL l := by simp only [envOf, K5, K]
theorem K5b7 : (envOf K5 W ds).fb 7 l = nearR l := by simp only [envOf, K5, K]
theorem K5b20 : (envOf K5 W ds).fb 20 l = psgL l := by simp only [envOf, K5, K]
theorem K5b8 : (envOf K5 W ds).fb 8 l = closeR l := by simp only [envOf, K5, K]
theorem K5b31 : (envOf K5 W ds).fb 31 l = boxL l := by simp only [envOf, K5, K]
end
/-! ### Is a box in another one? -/
def withinR (ds : List D) : Bool := box8 ds && decide (iAt ds 4 ≤ iAt ds 0 ∧ iAt ds 1 ≤ iAt ds 5 ∧ iAt ds 6 ≤ iAt ds 2 ∧ iAt ds 3 ≤ iAt ds 7)
def withinV (ds : List D) : Value := .tuple #[.bool (withinR ds), .int .i64 (uniE ds)]
def octL (a b c d e f g h : Int) : List D := [.i a, .i b, .i c, .i d, .i e, .i f, .i g, .i h]
theorem uni_oct (a b c d e f g h : Int) (hb : (boxB a b c d && boxB e f g h) = true) : uniA (octL a b c d e f g h) = min a e ∧ uniB (octL a b c d e f g h) = max b f ∧ uniC (octL a b c d e f g h) = min c g ∧ uniD (octL a b c d e f g h) = max d h ∧ uniE (octL a b c d e f g h) = 0 := by
  have : box8 (octL a b c d e f g h) = true := hb
  unfold uniA uniB uniC uniD uniE
  rw [if_pos this, if_pos this, if_pos this, if_pos this, if_pos this]
  exact ⟨rfl, rfl, rfl, rfl, rfl⟩
theorem oct_eq (a b c d e f g h : Int) : [D.i a, .i b, .i c, .i d, .i e, .i f, .i g, .i h] = octL a b c d e f g h := rfl
theorem uniE_oct (ds : List D) : uniE (octL (iAt ds 0) (iAt ds 1) (iAt ds 2) (iAt ds 3) (iAt ds 4) (iAt ds 5) (iAt ds 6) (iAt ds 7)) = uniE ds := rfl
theorem gWithin : Gives Try.prog 20 [bx, bx] withinV := by
  refine GivesIf.all (fn_gives K5 (by kernel_rfl) (fun ρ h => ct5_ok (Sees.of h 50)) (by kernel_rfl) trWithin_is trWithin_low (by decide) (fun W vals ds _ _ => ?_))
  simp only [trWithin, TT.sat_ret, TT.sat_ite, B.ev, E.ev, AL.ev, cmp_t, cmp_f, V.plain, V2.plain, S.plain, S0.plain, V.val, V2.val, S.val, S0.val, List.all_cons, List.all_nil, Bool.and_self, envOf_i, List.map_cons, List.map_nil, true_and, cmpP, K5i32, K5i33, K5i34, K5i35, K5i36, oct_eq, uniE_oct]
  unfold withinV withinR
  cases h : box8 ds
  · have : uniE ds = 1 := by unfold uniE; rw [h]; rfl
    rw [this]
    exact ⟨fun q => by simp [cmpP] at q, fun _ => rfl⟩
  · have h0 : uniE ds = 0 := by unfold uniE; rw [h]; rfl
    obtain ⟨e1, e2, e3, e4, _⟩ := uni_oct (iAt ds 0) (iAt ds 1) (iAt ds 2) (iAt ds 3) (iAt ds 4) (iAt ds 5) (iAt ds 6) (iAt ds 7) h
    rw [h0, e1, e2, e3, e4]
    refine ⟨fun _ => ?_, fun q => by simp [cmpP] at q⟩
    refine congrArg (fun b => Value.tuple #[Value.bool b, Value.int .i64 0]) ?_
    rw [Bool.eq_iff_iff]
    simp only [Bool.and_eq_true, cmp_t, cmpP, decide_eq_true_eq, Bool.true_and]
    omega
def cWithin := ctD [bx, bx] fun al => .ret (.tup [.one (sBF 51 withinR al), .one (sIF 36 uniE al)])

/-! ### The zone of a leg -/
def zoneO (ds : List D) : Bool := psgB (iAt ds 0) (iAt ds 1) (iAt ds 2) (rAt ds 3) && decide (0 ≤ iAt ds 4 ∧ iAt ds 4 < (rAt ds 3).length)
def zoneL (ds : List D) : List D := [.i (min (lg (rAt ds 3) (iAt ds 4) 0) (lg (rAt ds 3) (iAt ds 4) 2)), .i (max (lg (rAt ds 3) (iAt ds 4) 0) (lg (rAt ds 3) (iAt ds 4) 2)), .i (min (lg (rAt ds 3) (iAt ds 4) 1) (lg (rAt ds 3) (iAt ds 4) 3)), .i (max (lg (rAt ds 3) (iAt ds 4) 1) (lg (rAt ds 3) (iAt ds 4) 3)), .i (iAt ds 2)]
def zoneV (ds : List D) : Value := if zoneO ds then growV (zoneL ds) else boxE 0 0 0 0 1
theorem gZone : Gives Try.prog 24 [psg, it] zoneV := by
  refine GivesIf.all (fn_gives K5 (by kernel_rfl) (fun ρ h => ct5_ok (Sees.of h 50)) (by kernel_rfl) trZone_is trZone_low (by decide) (fun W vals ds hr _ => ?_))
  simp only [trZone, TT.sat_ret, TT.sat_ite, TT.sat_ob, Ob.ok, B.ev, E.ev, X.ev, AL.ev, cmp_t, cmp_f, V.plain, V2.plain, S.plain, S0.plain, V.val, V2.val, S.val, S0.val, List.all_cons, List.all_nil, Bool.and_self, envOf_i, envOf_d, List.map_cons, List.map_nil, true_and, Bool.not_eq_true', Bool.not_eq_false', cell_lg, cmpP, K5b20, psgL_four, K5i32, K5i33, K5i34, K5i35, K5i36, K5i42, K5i43, K5i44, K5i45, K5i46, oct_eq, legK]
  unfold zoneV zoneO
  refine ⟨fun h1 => ?_, fun h1 => ⟨fun h2 => ?_, fun h2 => ⟨fun h3 => ?_, fun h3 => ⟨by omega, by omega, by omega, by omega, ?_⟩⟩⟩⟩
  · rw [h1]; rfl
  · rw [if_neg (by rw [Bool.and_eq_true, decide_eq_true_eq]; omega)]; rfl
  · rw [if_neg (by rw [Bool.and_eq_true, decide_eq_true_eq]; omega)]; rfl
  · rw [if_pos (by rw [Bool.and_eq_true, decide_eq_true_eq]; exact ⟨h1, by omega, by omega⟩)]
    obtain ⟨p1, p2, p3, p4⟩ := psgB_iff h1
    obtain ⟨k, hk⟩ := Int.eq_ofNat_of_zero_le (a := iAt ds 4) (by omega)
    have hl := legB_iff.1 (p4 k (by omega))
    rw [← hk] at hl
    have hl1 := hl.1
    simp only [placeB, decide_eq_true_eq] at hl1
    obtain ⟨e1, e2, e3, e4, _⟩ := uni_oct (lg (rAt ds 3) (iAt ds 4) 0) (lg (rAt ds 3) (iAt ds 4) 0) (lg (rAt ds 3) (iAt ds 4) 1) (lg (rAt ds 3) (iAt ds 4) 1) (lg (rAt ds 3) (iAt ds 4) 2) (lg (rAt ds 3) (iAt ds 4) 2) (lg (rAt ds 3) (iAt ds 4) 3) (lg (rAt ds 3) (iAt ds 4) 3) (by rw [Bool.and_eq_true, boxB_t, boxB_t]; omega)
    rw [e1, e2, e3, e4, growV_eq]
    rfl
/-! ### Can the ship be there? -/
def holdsR (ds : List D) : Bool := placeB (iAt ds 6) (iAt ds 7) && timeB (iAt ds 5) && decide (durE ds = 0) && nearR [.i (iAt ds 6), .i (iAt ds 7), .i (lg (rAt ds 3) (iAt ds 4) 0), .i (lg (rAt ds 3) (iAt ds 4) 1), .i (lg (rAt ds 3) (iAt ds 4) 2), .i (lg (rAt ds 3) (iAt ds 4) 3), .i (iAt ds 2)] && decide (durL ds ≤ iAt ds 5 ∧ iAt ds 5 ≤ durH ds)
def holdsE (ds : List D) : Int := if placeB (iAt ds 6) (iAt ds 7) && timeB (iAt ds 5) then durE ds else 1
def holdsV (ds : List D) : Value := .tuple #[.bool (holdsR ds), .int .i64 (holdsE ds)]
theorem durL_eq (ds : List D) : durL [.i (iAt ds 0), .i (iAt ds 1), .i (iAt ds 2), .l (rAt ds 3), .i (iAt ds 4)] = durL ds := rfl
theorem durH_eq (ds : List D) : durH [.i (iAt ds 0), .i (iAt ds 1), .i (iAt ds 2), .l (rAt ds 3), .i (iAt ds 4)] = durH ds := rfl
theorem durE_eq (ds : List D) : durE [.i (iAt ds 0), .i (iAt ds 1), .i (iAt ds 2), .l (rAt ds 3), .i (iAt ds 4)] = durE ds := rfl
theorem durE_zero {ds : List D} (h : durE ds = 0) : durX ds = true ∧ durO ds = true := by
  unfold durE at h
  cases h1 : durO ds
  · rw [h1] at h; simp at h
  · cases h2 : durX ds
    · rw [h1, h2] at h; simp at h
    · exact ⟨rfl, rfl⟩
theorem gHolds : Gives Try.prog 25 [psg, it, it, pt] holdsV := by
  refine GivesIf.all (fn_gives K5 (by kernel_rfl) (fun ρ h => ct5_ok (Sees.of h 50)) (by kernel_rfl) trHolds_is trHolds_low (by decide) (fun W vals ds hr _ => ?_))
  simp only [trHolds, TT.sat_ret, TT.sat_ite, TT.sat_ob, Ob.ok, B.ev, E.ev, X.ev, AL.ev, cmp_t, cmp_f, V.plain, V2.plain, S.plain, S0.plain, V.val, V2.val, S.val, S0.val, List.all_cons, List.all_nil, Bool.and_self, envOf_i, envOf_d, List.map_cons, List.map_nil, true_and, Bool.not_eq_true', Bool.not_eq_false', cell_lg, cmpP, K5b3, K5b7, placeL_two, K5i24, K5i25, K5i26, legK, durL_eq, durH_eq, durE_eq]
  unfold holdsV holdsR holdsE timeB
  generalize nearR _ = nr
  refine ⟨fun h1 => ?_, fun h1 => ⟨fun h2 => ⟨fun h3 => ?_, fun h3 => ⟨fun h4 => ?_, fun h4 => ⟨?_, ?_, ?_, ?_, fun h5 => ⟨fun h6 => ?_, fun h6 => ?_⟩, fun h5 => ?_⟩⟩⟩, fun h2 => ?_⟩⟩
  case refine_4 | refine_5 | refine_6 | refine_7 =>
    have := (durE_zero (Decidable.not_not.1 h4)).2
    simp only [durO, Bool.and_eq_true, decide_eq_true_eq] at this
    omega
  case refine_8 =>
    have h7 : durE ds = 0 := Decidable.not_not.1 h4
    have : cmpEv BinOp.leq (iAt ds 5) (durH ds) = decide (iAt ds 5 ≤ durH ds) := by rw [Bool.eq_iff_iff, cmp_t]; simp [cmpP]
    simp [*]
  case refine_9 | refine_10 =>
    have h7 : durE ds = 0 := Decidable.not_not.1 h4
    simp [*]
  all_goals (simp [*]; done)
/-! ### Contracts -/
def zoneA (ds : List D) : Int := if zoneO ds then growA (zoneL ds) else 0
def zoneB (ds : List D) : Int := if zoneO ds then growB (zoneL ds) else 0
def zoneC (ds : List D) : Int := if zoneO ds then growC (zoneL ds) else 0
def zoneD (ds : List D) : Int := if zoneO ds then growD (zoneL ds) else 0
def zoneE (ds : List D) : Int := if zoneO ds then growE (zoneL ds) else 1
theorem zoneV_eq (ds : List D) : zoneV ds = boxE (zoneA ds) (zoneB ds) (zoneC ds) (zoneD ds) (zoneE ds) := by
  unfold zoneV zoneA zoneB zoneC zoneD zoneE
  split
  · rw [growV_eq]
  · rfl
/-- All symbols so far. -/
def K6 : Interp where
  fi n l := match n with | 53 => holdsE l | 54 => zoneA l | 55 => zoneB l | 56 => zoneC l | 57 => zoneD l | 58 => zoneE l | n => K5.fi n l
  fb n l := match n with | 51 => withinR l | 52 => holdsR l | n => K5.fb n l
  fd _ _ := []
def cHolds := ctD [psg, it, it, pt] fun al => .ret (.tup [.one (sBF 52 holdsR al), .one (sIF 53 holdsE al)])
def cZone := ctD [psg, it] fun al => .ret (bx5 (sIF 54 zoneA al) (sIF 55 zoneB al) (sIF 56 zoneC al) (sIF 57 zoneD al) (sIF 58 zoneE al))
section
variable {ρ : Env} (h : Sees ρ K6 60)
include h
theorem K6_K5 : Sees ρ K5 50 := h.trans (by decide) fun n l hn => by
  constructor
  · simp only [K6]
    split <;> first | omega | rfl
  · simp only [K6]
    split <;> first | omega | rfl
theorem cWithin_ok : CtOne Try.prog ρ 20 cWithin :=
  ctD_ok gWithin (fun _ => rfl) (fun al => by
    simp only [V.val, V2.val, S.val, S0.val, sIF, sBF, List.map_cons, List.map_nil, bF_ev (s := 51) (f := withinR) (fun l => by rw [(h 51 l (by decide)).2]; simp only [K6]), iF_ev (s := 36) (f := uniE) (fun l => by rw [(h 36 l (by decide)).1]; simp only [K6, K5])]; rfl)
theorem cHolds_ok : CtOne Try.prog ρ 25 cHolds :=
  ctD_ok gHolds (fun _ => rfl) (fun al => by
    simp only [V.val, V2.val, S.val, S0.val, sIF, sBF, List.map_cons, List.map_nil, bF_ev (s := 52) (f := holdsR) (fun l => by rw [(h 52 l (by decide)).2]; simp only [K6]), iF_ev (s := 53) (f := holdsE) (fun l => by rw [(h 53 l (by decide)).1]; simp only [K6])]; rfl)
theorem cZone_ok : CtOne Try.prog ρ 24 cZone :=
  ctD_ok gZone (fun _ => rfl) (fun al => by
    simp only [bx5, V.val, V2.val, S.val, S0.val, sIF, List.map_cons, List.map_nil, iF_ev (s := 54) (f := zoneA) (fun l => by rw [(h 54 l (by decide)).1]; simp only [K6]), iF_ev (s := 55) (f := zoneB) (fun l => by rw [(h 55 l (by decide)).1]; simp only [K6]), iF_ev (s := 56) (f := zoneC) (fun l => by rw [(h 56 l (by decide)).1]; simp only [K6]), iF_ev (s := 57) (f := zoneD) (fun l => by rw [(h 57 l (by decide)).1]; simp only [K6]), iF_ev (s := 58) (f := zoneE) (fun l => by rw [(h 58 l (by decide)).1]; simp only [K6])]; rw [zoneV_eq]; rfl)
end
def ct6 : Ct := (20, cWithin) :: (25, cHolds) :: (24, cZone) :: ct5
theorem ct6_ok {ρ : Env} (h : Sees ρ K6 60) : CtOk Try.prog ρ ct6 := .cons (cWithin_ok h) <| .cons (cHolds_ok h) <| .cons (cZone_ok h) (ct5_ok (K6_K5 h))
end Go.Proofs.Ytinfmmofcadjgaa
