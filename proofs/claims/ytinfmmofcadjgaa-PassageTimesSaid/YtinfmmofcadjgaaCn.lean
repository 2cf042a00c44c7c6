/- Chapter 38: passage.Concerns. -/
import Derived.Test.YtinfmmofcadjgaaTCn
set_option linter.unusedSimpArgs false
set_option linter.unusedVariables false
namespace Go.Proofs.Ytinfmmofcadjgaa
open Go.RowKit
section
variable (W : World) (ds l : List D)
theorem K6b20 : (envOf K6 W ds).fb 20 l = psgL l := by simp only [envOf, K6, K5, K]
theorem K6b8 : (envOf K6 W ds).fb 8 l = closeR l := by simp only [envOf, K6, K5, K]
theorem K6b31 : (envOf K6 W ds).fb 31 l = boxL l := by simp only [envOf, K6, K5]
theorem K6b51 : (envOf K6 W ds).fb 51 l = withinR l := by simp only [envOf, K6]
end
theorem subR_len (r : Rows) (b : Nat) : (subR r (b : Int) (r.length : Int)).length = r.length - b := by
  simp only [subR, List.length_take, List.length_drop, Int.toNat_natCast]; omega
theorem subR_lg (r : Rows) (b i j : Nat) : lg (subR r (b : Int) (r.length : Int)) (i : Int) j = lg r ((b + i : Nat) : Int) j := by
  have : cellAt (subR r (b : Int) (r.length : Int)) (i : Int) j = cellAt r ((b + i : Nat) : Int) j := by
    simp only [cellAt, subR, Int.toNat_natCast]
    rw [List.take_of_length_le (by rw [List.length_drop]; exact Nat.le_refl _)]
    simp only [List.getElem?_drop, List.getD_eq_getElem?_getD]
  rw [lg, lg, this]
/-- Does a box concern a ship on the leg i? -/
def legCon (r : Rows) (i a b c d off : Int) : Bool :=
  withinR [.i (lg r i 0), .i (lg r i 0), .i (lg r i 1), .i (lg r i 1), .i a, .i b, .i c, .i d] || (closeR [.i (lg r i 0), .i (lg r i 1), .i (lg r i 2), .i (lg r i 3), .i a, .i d, .i a, .i c, .i off] || (closeR [.i (lg r i 0), .i (lg r i 1), .i (lg r i 2), .i (lg r i 3), .i a, .i c, .i b, .i c, .i off] || (closeR [.i (lg r i 0), .i (lg r i 1), .i (lg r i 2), .i (lg r i 3), .i b, .i c, .i b, .i d, .i off] || closeR [.i (lg r i 0), .i (lg r i 1), .i (lg r i 2), .i (lg r i 3), .i b, .i d, .i a, .i d, .i off])))
def conFrom (r : Rows) (a b c d off : Int) : Nat → Nat → Bool
  | 0, _ => false
  | f + 1, j => legCon r j a b c d off || conFrom r a b c d off f (j + 1)
def conO (ds : List D) : Bool := psgB (iAt ds 0) (iAt ds 1) (iAt ds 2) (rAt ds 3) && boxB (iAt ds 4) (iAt ds 5) (iAt ds 6) (iAt ds 7) && decide (0 ≤ iAt ds 8 ∧ iAt ds 8 ≤ (rAt ds 3).length)
def conR (ds : List D) : Bool := conO ds && conFrom (rAt ds 3) (iAt ds 4) (iAt ds 5) (iAt ds 6) (iAt ds 7) (iAt ds 2) ((rAt ds 3).length - (iAt ds 8).toNat) (iAt ds 8).toNat
def conE (ds : List D) : Int := if conO ds then 0 else 1
def conV (ds : List D) : Value := .tuple #[.bool (conR ds), .int .i64 (conE ds)]
theorem gCon : Gives Try.prog 18 [psg, bx, it] conV := by
  refine GivesIf.all (fn_gives K6 (by kernel_rfl) (fun ρ h => ct6_ok (Sees.of h 60)) (by kernel_rfl) trCon_is trCon_low (by decide) (fun W vals ds hr _ => ?_))
  simp only [trCon, TT.sat_ret, TT.sat_ite, TT.sat_ob, Ob.ok, B.ev, E.ev, X.ev, AL.ev, cmp_t, cmp_f, V.plain, V2.plain, S.plain, S0.plain, V.val, V2.val, S.val, S0.val, List.all_cons, List.all_nil, Bool.and_self, envOf_i, envOf_d, List.map_cons, List.map_nil, true_and, Bool.not_eq_true', Bool.not_eq_false', cmpP, K6b20, K6b8, K6b31, K6b51, psgL_four, box_four]
  have F : ∀ (h : conO ds = false), Value.tuple #[Value.bool false, Value.int IntKind.i64 1] = conV ds := fun h => by simp [conV, conR, conE, h]
  refine ⟨fun h1 => F ?_, fun h1 => ⟨fun h2 => F ?_, fun h2 => ⟨fun h3 => F ?_, fun h3 => ⟨fun h4 => F ?_, fun h4 => ⟨?_, ?_, ?_⟩⟩⟩⟩⟩
  case refine_7 =>
    obtain ⟨p1, p2, p3, p4⟩ := psgB_iff h1
    have hO : conO ds = true := by simp only [conO, h1, h2, Bool.true_and, decide_eq_true_eq]; omega
    obtain ⟨b, hb⟩ := Int.eq_ofNat_of_zero_le (a := iAt ds 8) (by omega)
    refine TT.sat_loop (fun v => ∃ i : Nat, v.i 0 = i ∧ b + i ≤ (rAt ds 3).length ∧ conFrom (rAt ds 3) (iAt ds 4) (iAt ds 5) (iAt ds 6) (iAt ds 7) (iAt ds 2) ((rAt ds 3).length - (b + i)) (b + i) = conR ds) (fun v => (rAt ds 3).length - (v.i 0).toNat)
      ⟨0, by simp [val_i, aget, E.ev], by omega, by simp only [conR, hO, hb, Bool.true_and]; rfl⟩ (fun v hv => ?_)
    obtain ⟨i, i0, i1, i2⟩ := hv
    simp only [TT.sat_ret, TT.sat_ite, TT.sat_ob, TT.sat_next, put_i, put_d, put_fb, Ob.ok, B.ev, E.ev, X.ev, AL.ev, cmp_t, cmp_f, arEv, V2.plain, S.plain, S0.plain, V2.val, S.val, S0.val, List.all_cons, List.all_nil, Bool.and_self, envOf_i, envOf_d, List.map_cons, List.map_nil, true_and, cell_lg, cmpP, val_i, aget, beq_self_eq_true, if_true, if_false, Nat.reduceLT, Nat.reduceSub, Nat.sub_self, Nat.lt_irrefl, K6b20, K6b8, K6b31, K6b51, psgL_four, box_four, i0, legK]
    have hn : (subR (rAt ds 3) (iAt ds 8) ((rAt ds 3).length : Int)).length = (rAt ds 3).length - b := by rw [hb]; exact subR_len _ _
    have hlg : ∀ j : Nat, lg (subR (rAt ds 3) (iAt ds 8) ((rAt ds 3).length : Int)) (i : Int) j = lg (rAt ds 3) ((b + i : Nat) : Int) j := fun j => by rw [hb]; exact subR_lg _ _ _ _
    simp only [hn, hlg]
    refine ⟨fun hc => ⟨by omega, by omega, ?_⟩, fun hc => ?_⟩
    · obtain ⟨f, hf⟩ : ∃ f, (rAt ds 3).length - (b + i) = f + 1 := ⟨(rAt ds 3).length - (b + i) - 1, by omega⟩
      rw [hf] at i2
      simp only [conFrom, legCon] at i2
      have T : conR ds = true → Value.tuple #[Value.bool true, Value.int IntKind.i64 0] = conV ds := fun h => by simp [conV, conE, hO, h]
      refine ⟨fun q => T (by rw [← i2, q]; rfl), fun q => ⟨fun q1 => T (by rw [← i2, q, q1]; rfl), fun q1 => ⟨fun q2 => T (by rw [← i2, q, q1, q2]; rfl), fun q2 => ⟨fun q3 => T (by rw [← i2, q, q1, q2, q3]; rfl), fun q3 => ⟨fun q4 => T (by rw [← i2, q, q1, q2, q3, q4]; rfl), fun q4 => ?_⟩⟩⟩⟩⟩
      rw [q, q1, q2, q3, q4] at i2
      refine ⟨⟨i + 1, ?_, by omega, ?_⟩, ?_⟩
      · rw [wrap_in _ (by omega) (by omega)]; rfl
      · rw [show (rAt ds 3).length - (b + (i + 1)) = f by omega, ← i2]; rfl
      · rw [wrap_in _ (by omega) (by omega)]; omega
    · have : (rAt ds 3).length - (b + i) = 0 := by omega
      rw [this] at i2
      simp only [conV, conE, hO, ← i2]
      rfl
  case refine_5 | refine_6 => first | omega | simp
  all_goals (simp only [conO, Bool.and_eq_false_imp, Bool.and_eq_true, decide_eq_true_eq, decide_eq_false_iff_not]; first | omega | (intros; omega) | (intros; simp_all; done))
/-- All symbols so far. -/
def K7 : Interp where
  fi n l := match n with | 60 => conE l | n => K6.fi n l
  fb n l := match n with | 60 => conR l | n => K6.fb n l
  fd _ _ := []
def cCon := ctD [psg, bx, it] fun al => .ret (.tup [.one (sBF 60 conR al), .one (sIF 60 conE al)])
section
variable {ρ : Env} (h : Sees ρ K7 70)
include h
theorem K7_K6 : Sees ρ K6 60 := h.trans (by decide) fun n l hn => by
  constructor
  · simp only [K7]
    split <;> first | omega | rfl
  · simp only [K7]
    split <;> first | omega | rfl
theorem cCon_ok : CtOne Try.prog ρ 18 cCon :=
  ctD_ok gCon (fun _ => rfl) (fun al => by
    simp only [V.val, V2.val, S.val, S0.val, sIF, sBF, List.map_cons, List.map_nil, bF_ev (s := 60) (f := conR) (fun l => by rw [(h 60 l (by decide)).2]; simp only [K7]), iF_ev (s := 60) (f := conE) (fun l => by rw [(h 60 l (by decide)).1]; simp only [K7])]; rfl)
end
def ct7 : Ct := (18, cCon) :: ct6
theorem ct7_ok {ρ : Env} (h : Sees ρ K7 70) : CtOk Try.prog ρ ct7 := .cons (cCon_ok h) (ct6_ok (K7_K6 h))
end Go.Proofs.Ytinfmmofcadjgaa
