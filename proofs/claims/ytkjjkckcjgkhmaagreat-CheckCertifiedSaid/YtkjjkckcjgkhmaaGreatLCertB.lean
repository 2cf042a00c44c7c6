/- LCertB, merged: Ns, TNp, Nt, TNu, Nn, Nu. -/
import Derived.Test.YtkjjkckcjgkhmaaGreatLCertA
import Derived.Test.YtkjjkckcjgkhmaaGreatMP
set_option linter.unusedSimpArgs false
set_option linter.unusedVariables false
/- Chapter 40: the digest of a sheet; what the finest sheet says of a leg, with the sheet; a feature of a sheet. -/
namespace Go.Proofs.YtkjjkckcjgkhmaaGreat
open Go.RowKit
theorem lsAre_two {ρ : Env} {q : OpR} {l1 l2 : NL} {ds : List D} {s1 s2 : S0} {x1 x2 : X} (h1 : lrows q.2.1 l1.e l1.ks s1 = some x1) (e1 : x1.ev ρ = l1.rows ds) (h2 : lrows q.2.1 l2.e l2.ks s2 = some x2) (e2 : x2.ev ρ = l2.rows ds)
    (hne : ∀ id v v', s1 = .own id v → s2 = .own id v' → False) : LsAre ρ q [l1, l2] ds [s1, s2] := by
  refine ⟨rfl, fun k l s hk hs => ?_, fun i j id v v' hi hj => ?_⟩
  · match k with
    | 0 =>
      simp only [List.getElem?_cons_zero, Option.some.injEq] at hk hs
      subst hk hs
      exact ⟨x1, h1, e1⟩
    | 1 =>
      simp only [List.getElem?_cons_succ, List.getElem?_cons_zero, Option.some.injEq] at hk hs
      subst hk hs
      exact ⟨x2, h2, e2⟩
    | k + 2 => simp at hk
  · match i, j with
    | 0, 0 => rfl
    | 1, 1 => rfl
    | 0, 1 =>
      simp only [List.getElem?_cons_succ, List.getElem?_cons_zero, Option.some.injEq] at hi hj
      exact (hne _ _ _ hi hj).elim
    | 1, 0 =>
      simp only [List.getElem?_cons_succ, List.getElem?_cons_zero, Option.some.injEq] at hi hj
      exact (hne _ _ _ hj hi).elim
    | i + 2, _ => simp at hi
    | 0, j + 2 => simp at hj
    | 1, j + 2 => simp at hj
/-! The digest of a sheet -/
theorem secsB_le {r : Rows} (h : secsB r = true) : r.length ≤ 12 := by
  unfold secsB at h
  simp only [Bool.and_eq_true, decide_eq_true_eq] at h
  exact h.2
theorem row_feaOk {r : Rows} {i : Nat} (h : featRow r i = true) : feaOk (rowFe r i) = true := by
  have e : feaOk (rowFe r i) = decide ((lr r i 5).length ≤ 24 ∧ (lr r i 8).length ≤ 12) := rfl
  rw [e, decide_eq_true_eq]
  obtain ⟨_, _, _, _, q | q | q⟩ := featB_iff.1 h
  · omega
  · have := polyB_len q.2.1
    omega
  · have := secsB_le q.2.2.1
    omega
theorem sheet_facts {ds : List D} (h : sheetL ds = true) : (rAt ds 11).length ≤ 200 ∧ listB (rAt ds 12) = true := by
  unfold sheetL at h
  simp only [Bool.and_eq_true, decide_eq_true_eq] at h
  exact ⟨h.2.1.1, h.2.2.2⟩
theorem lis_rows {r : Rows} : ∀ (f i : Nat) (last : Int), lisN r f i last = true → ∀ k : Nat, i ≤ k → k < i + f → featRow r k = true ∧ last < lg r k 0 ∧ ∀ l : Nat, k < l → l < i + f → lg r k 0 < lg r l 0
  | 0, i, last, _, k, h1, h2 => by omega
  | f + 1, i, last, h, k, h1, h2 => by
    simp only [lisN, Bool.and_eq_true, decide_eq_true_eq] at h
    by_cases e : k = i
    · subst e
      exact ⟨h.1.1, h.1.2, fun l g1 g2 => (lis_rows f (k + 1) _ h.2 l (by omega) (by omega)).2.1⟩
    · obtain ⟨g1, g2, g3⟩ := lis_rows f (i + 1) _ h.2 k (by omega) (by omega)
      exact ⟨g1, by omega, fun l q1 q2 => g3 l q1 (by omega)⟩
theorem lis_spec {r : Rows} (h : listB r = true) : r.length ≤ 300 ∧ (∀ k : Nat, k < r.length → featRow r k = true) ∧ ∀ k l : Nat, k < l → l < r.length → lg r k 0 < lg r l 0 := by
  simp only [listB, Bool.and_eq_true, decide_eq_true_eq] at h
  exact ⟨h.2, fun k hk => (lis_rows _ 0 0 h.1 k (by omega) (by omega)).1, fun k l h1 h2 => (lis_rows _ 0 0 h.1 k (by omega) (by omega)).2.2 l h1 (by omega)⟩
theorem sheet_allOk {ds : List D} (h : sheetL ds = true) : allOk ds = true := by
  obtain ⟨h1, h2⟩ := sheet_facts h
  obtain ⟨g1, g2, _⟩ := lis_spec h2
  unfold allOk
  rw [decide_eq_true ⟨h1, g1⟩, okN_of _ (fun i hi => row_feaOk (g2 i hi))]
  rfl
def digI (ds : List D) : Int := if sheetL ds then digL [.l (allR ds)] else 0
def digE (ds : List D) : Int := if sheetL ds then 0 else 1
def N9b : Interp where
  fi n l := N9.fi n l
  fb n l := N9.fb n l
  fd n l := match n with | 1 => allR l | n => N9.fd n l
theorem N9b_N9d {ρ : Env} (h : SeesD ρ N9b 2) : SeesD ρ N9 1 := fun n l hn => by
  rw [h n l (by omega)]
  simp only [N9b]
  split <;> first | omega | rfl
theorem N9b_N9 {ρ : Env} (h : Sees ρ N9b 230) : Sees ρ N9 230 := h.trans (by decide) fun n l hn => by
  refine ⟨?_, ?_⟩
  ·
    rfl
  ·
    rfl
theorem cAllS_ok {ρ : Env} (h : Sees ρ N9 230) (hd : SeesD ρ N9b 2) : CtOne Tryz.prog ρ 119 cAllS := by
  refine ctL_ok gAllS rfl (fun l => ?_) (fun al ho => ?_) (fun al σ s v hs => hs)
  · rw [hd 1 l (by decide)]; simp only [N9b]
  · have := ho _ (List.mem_singleton.2 rfl)
    simp only [Ob.ok, B.ev, (h 221 _ (by decide)).2, N9] at this
    exact this
theorem cCoDig_ok {ρ : Env} (h : Sees ρ N9 230) : CtOne Tryz.prog ρ 63 cCoDig :=
  ctD_ok gCoDig (fun _ => rfl) (fun al => by simp only [iV, V.s0, V.val, V2.val, S.val, S0.val, E.ev, (h 222 _ (by decide)).1, N9])
theorem ctO2_ok {ρ : Env} (h : Sees ρ N9b 230) (hd : SeesD ρ N9b 2) : CtOk Tryz.prog ρ ctO2 := .cons (cAllS_ok (N9b_N9 h) hd) <| .cons (cCoDig_ok (N9b_N9 h)) (ctO1_ok (N9b_N9 h) (N9b_N9d hd))
theorem N9bb151 (W : World) (ds l : List D) : (envOf N9b W ds).fb 151 l = sheetL l := by simp only [envOf, N9b, N9, N8, N7, N6, N5, N4, N3, N2, N1, KG, KF, KE, KD, KC, KB, KA, K9, K8, K7, K6, K5, K]
theorem N9bb221 (W : World) (ds l : List D) : (envOf N9b W ds).fb 221 l = allOk l := by simp only [envOf, N9b, N9, N8, N7, N6, N5, N4, N3, N2, N1, KG, KF, KE, KD, KC, KB, KA, K9, K8, K7, K6, K5, K]
theorem N9bi222 (W : World) (ds l : List D) : (envOf N9b W ds).fi 222 l = digL l := by simp only [envOf, N9b, N9, N8, N7, N6, N5, N4, N3, N2, N1, KG, KF, KE, KD, KC, KB, KA, K9, K8, K7, K6, K5, K]
theorem N9bd1 (W : World) (ds l : List D) : (envOf N9b W ds).fd 1 l = allR l := by simp only [envOf, N9b, N9, N8, N7, N6, N5, N4, N3, N2, N1, KG, KF, KE, KD, KC, KB, KA, K9, K8, K7, K6, K5, K]
theorem N9bi190 (W : World) (ds l : List D) : (envOf N9b W ds).fi 190 l = legR l := by simp only [envOf, N9b, N9, N8, N7, N6, N5, N4, N3, N2, N1, KG, KF, KE, KD, KC, KB, KA, K9, K8, K7, K6, K5, K]
theorem N9bi191 (W : World) (ds l : List D) : (envOf N9b W ds).fi 191 l = legE l := by simp only [envOf, N9b, N9, N8, N7, N6, N5, N4, N3, N2, N1, KG, KF, KE, KD, KC, KB, KA, K9, K8, K7, K6, K5, K]
theorem gDigest : Gives Tryz.prog 21 [shee] (fun ds => .tuple #[.int .u64 (digI ds), .int .i64 (digE ds)]) := by
  refine GivesIf.all (fn_gives N9b (by kernel_rfl) (fun ρ h => ctO2_ok (Sees.of h 230) (SeesD.of h 2)) (by kernel_rfl) trDigest_is trDigest_low (by decide) (fun W vals ds hr _ => ?_))
  have e1 : ∀ f : List D → Bool, f = sheetL ∨ f = allOk → f [D.i (iAt ds 0), .i (iAt ds 1), .i (iAt ds 2), .i (iAt ds 3), .i (iAt ds 4), .i (iAt ds 5), .i (iAt ds 6), .i (iAt ds 7), .i (iAt ds 8), .i (iAt ds 9), .i (iAt ds 10), .l (rAt ds 11), .l (rAt ds 12)] = f ds := fun f hf => by rcases hf with rfl | rfl <;> rfl
  have e2 : allR [D.i (iAt ds 0), .i (iAt ds 1), .i (iAt ds 2), .i (iAt ds 3), .i (iAt ds 4), .i (iAt ds 5), .i (iAt ds 6), .i (iAt ds 7), .i (iAt ds 8), .i (iAt ds 9), .i (iAt ds 10), .l (rAt ds 11), .l (rAt ds 12)] = allR ds := rfl
  simp only [trDigest, TT.sat_ret, TT.sat_ite, TT.sat_ob, TT.sat_next, TT.sat_stuck, put_i, put_b, put_d, put_fi, put_fb, put_fd, Ob.ok, B.ev, E.ev, X.ev, AL.ev, cmp_t, cmp_f, arEv, V.plain, V2.plain, S.plain, S0.plain, V.val, V2.val, S.val, S0.val, bV, iV, List.all_cons, List.all_nil, Bool.and_true, Bool.and_self, envOf_i, envOf_b, envOf_d, List.map_cons, List.map_nil, true_and, Bool.not_eq_true', Bool.not_eq_false', Bool.not_not, Bool.and_eq_true, and_f, cell_lg, cell_lb, cell_lr, cmpP, val_i, val_b, val_d, aget, Nat.reduceBEq, beq_self_eq_true, Bool.false_eq_true, if_true, if_false, Nat.reduceLT, Nat.reduceSub, Nat.sub_self, Nat.lt_irrefl, X.ev, N9bb151, N9bb221, N9bi222, N9bd1, e1 sheetL (.inl rfl), e1 allOk (.inr rfl), e2]
  refine ⟨fun h => ?_, fun h => ⟨sheet_allOk h, ?_⟩⟩
  · have a : digI ds = 0 := by unfold digI; rw [h, if_neg (by decide)]
    have b : digE ds = 1 := by unfold digE; rw [h, if_neg (by decide)]
    rw [a, b]
  · have a : digI ds = digL [.l (allR ds)] := by unfold digI; rw [h, if_pos rfl]
    have b : digE ds = 0 := by unfold digE; rw [h, if_pos rfl]
    rw [a, b]
/-! What the finest sheet says, with the sheet -/
def fD (ds : List D) : List D := [.l (rAt ds 10), .i (iAt ds 0), .i (iAt ds 1), .i (iAt ds 2), .l (rAt ds 3), .i (iAt ds 11), .i (iAt ds 4), .i (iAt ds 5), .l (rAt ds 6), .i (iAt ds 7), .i (iAt ds 8), .l (rAt ds 9)]
def finJ (ds : List D) (i j : Nat) : Int := if finN ds i < 0 then 0 else lg (rAt ds 0) (finN ds i) j
def finX (ds : List D) (i j : Nat) : Rows := if finN ds i < 0 then [] else lr (rAt ds 0) (finN ds i) j
def fiJ : List D → Int
  | .i j :: ds => finJ (fD ds) (rAt ds 10).length j.toNat
  | _ => 0
def fiI (ds : List D) : Int := finI (fD ds) (rAt ds 10).length
def fiE (ds : List D) : Int := finE (fD ds) (rAt ds 10).length
def fiX (ds : List D) : Rows := finX (fD ds) (rAt ds 10).length 11
def fiY (ds : List D) : Rows := finX (fD ds) (rAt ds 10).length 12
theorem fin_go {ds : List D} {i : Nat} (h : legE (rowLeg ds i) = 0 ∨ legE (rowLeg ds i) = 20) (h1 : finJ ds i 1 < lg (rAt ds 0) i 1) : (∀ j, finJ ds (i + 1) j = lg (rAt ds 0) i j) ∧ (∀ j, finX ds (i + 1) j = lr (rAt ds 0) i j) ∧ finI ds (i + 1) = legR (rowLeg ds i) ∧ finE ds (i + 1) = legE (rowLeg ds i) := by
  have e : finN ds (i + 1) = i := by rw [finN]; exact if_pos ⟨h, h1⟩
  obtain ⟨_, _, e3, e4⟩ := fin_yes h h1
  refine ⟨fun j => ?_, fun j => ?_, e3, e4⟩
  · unfold finJ; rw [e, if_neg (by omega)]
  · unfold finX; rw [e, if_neg (by omega)]
theorem fin_stay {ds : List D} {i : Nat} (h : ¬ ((legE (rowLeg ds i) = 0 ∨ legE (rowLeg ds i) = 20) ∧ finJ ds i 1 < lg (rAt ds 0) i 1)) : (∀ j, finJ ds (i + 1) j = finJ ds i j) ∧ (∀ j, finX ds (i + 1) j = finX ds i j) ∧ finI ds (i + 1) = finI ds i ∧ finE ds (i + 1) = finE ds i := by
  have e : finN ds (i + 1) = finN ds i := by rw [finN]; exact if_neg h
  obtain ⟨_, _, e3, e4⟩ := fin_no h
  exact ⟨fun j => by unfold finJ; rw [e], fun j => by unfold finX; rw [e], e3, e4⟩
theorem voy_len {W : World} {vals : List Value} {ds : List D} {sh : List Sh} (h : repSh W (voyS :: shes :: sh) vals ds) : (rAt ds 10).length ≤ 281474976710656 := by
  obtain ⟨v, vs', d, ds', rfl, rfl, ⟨us, rfl, h0⟩, h⟩ := h
  have hl : d.length = 10 := (reps_len h0).2
  obtain ⟨v, vs', d2, ds2, rfl, rfl, ⟨d2, rfl, h⟩, _⟩ := h
  have := list_rep h
  have e : rAt (d ++ ([d2] ++ ds2)) 10 = d2.rows := by
    unfold rAt
    rw [List.getD_eq_getElem?_getD, List.getElem?_append_right (by omega)]
    simp [hl]
  rw [e]; exact this
theorem N8i190 (W : World) (ds l : List D) : (envOf N8 W ds).fi 190 l = legR l := by simp only [envOf, N8, N7, N6, N5, N4, N3, N2, N1, KG, KF, KE, KD, KC, KB, KA, K9, K8, K7, K6, K5, K]
theorem N8i191 (W : World) (ds l : List D) : (envOf N8 W ds).fi 191 l = legE l := by simp only [envOf, N8, N7, N6, N5, N4, N3, N2, N1, KG, KF, KE, KD, KC, KB, KA, K9, K8, K7, K6, K5, K]
def finRes (w0 : World) (ds : List D) (_vs : List Value) (u : Value) : Prop := ∃ d f, u = .agg #[.int .i64 (fiJ (.i 0 :: ds)), .int .i64 (fiJ (.i 1 :: ds)), .int .i64 (fiJ (.i 2 :: ds)), .int .i64 (fiJ (.i 3 :: ds)), .int .i64 (fiJ (.i 4 :: ds)), .int .i64 (fiJ (.i 5 :: ds)), .int .i64 (fiJ (.i 6 :: ds)), .int .i64 (fiJ (.i 7 :: ds)), .int .i64 (fiJ (.i 8 :: ds)), .int .i64 (fiJ (.i 9 :: ds)), .int .i64 (fiJ (.i 10 :: ds)), d, f, .int .i64 (fiI ds), .int .i64 (fiE ds)] ∧ Sl w0 [.int .i64] d (fiX ds) false ∧ Sl w0 featK f (fiY ds) false
set_option maxHeartbeats 1000000 in
theorem gFinest : GivesN Tryz.prog 44 [voyS, shes, it] [] (fun _ => True) finRes := by
  refine fn_givesN N9b (by kernel_rfl) (fun ρ h => ctO2_ok (Sees.of h 230) (SeesD.of h 2)) (by kernel_rfl) trFinest_is trFinest_low (by decide) (fun w0 vals ds hr _ => ?_)
  have hlen := voy_len hr
  simp only [trFinest]
  refine TT.sat_loop (fun v => ∃ i : Nat, v.i 0 = i ∧ i ≤ (rAt ds 10).length ∧ v.i 1 = finJ (fD ds) i 0 ∧ v.i 2 = finJ (fD ds) i 1 ∧ v.i 3 = finJ (fD ds) i 2 ∧ v.i 4 = finJ (fD ds) i 3 ∧ v.i 5 = finJ (fD ds) i 4 ∧ v.i 6 = finJ (fD ds) i 5 ∧ v.i 7 = finJ (fD ds) i 6 ∧ v.i 8 = finJ (fD ds) i 7 ∧ v.i 9 = finJ (fD ds) i 8 ∧ v.i 10 = finJ (fD ds) i 9 ∧ v.i 11 = finJ (fD ds) i 10 ∧ v.d 12 = finX (fD ds) i 11 ∧ v.d 13 = finX (fD ds) i 12 ∧ v.i 14 = finI (fD ds) i ∧ v.i 15 = finE (fD ds) i) (fun v => (rAt ds 10).length - (v.i 0).toNat) ⟨0, by simp [val_i, aget, E.ev], by omega, rfl, rfl, rfl, rfl, rfl, rfl, rfl, rfl, rfl, rfl, rfl, rfl, rfl, rfl, rfl⟩ (fun v hv => ?_)
  obtain ⟨i, i0, i1, c1, c2, c3, c4, c5, c6, c7, c8, c9, c10, c11, i3, i4, i5, i6⟩ := hv
  have eL : [D.i (lg (rAt ds 10) i 0), .i (lg (rAt ds 10) i 1), .i (lg (rAt ds 10) i 2), .i (lg (rAt ds 10) i 3), .i (lg (rAt ds 10) i 4), .i (lg (rAt ds 10) i 5), .i (lg (rAt ds 10) i 6), .i (lg (rAt ds 10) i 7), .i (lg (rAt ds 10) i 8), .i (lg (rAt ds 10) i 9), .i (lg (rAt ds 10) i 10), .l (lr (rAt ds 10) i 11), .l (lr (rAt ds 10) i 12), .i (iAt ds 0), .i (iAt ds 1), .i (iAt ds 2), .l (rAt ds 3), .i (iAt ds 11), .i (iAt ds 4), .i (iAt ds 5), .l (rAt ds 6), .i (iAt ds 7), .i (iAt ds 8), .l (rAt ds 9)] = rowLeg (fD ds) i := rfl
  simp only [TT.sat_ret, TT.sat_ite, TT.sat_ob, TT.sat_next, TT.sat_stuck, put_i, put_b, put_d, put_fi, put_fb, put_fd, Ob.ok, B.ev, E.ev, X.ev, AL.ev, cmp_t, cmp_f, arEv, V.plain, V2.plain, S.plain, S0.plain, V.val, V2.val, S.val, S0.val, bV, iV, List.all_cons, List.all_nil, Bool.and_true, Bool.and_self, envOf_i, envOf_b, envOf_d, List.map_cons, List.map_nil, true_and, Bool.not_eq_true', Bool.not_eq_false', Bool.not_not, Bool.and_eq_true, and_f, cell_lg, cell_lb, cell_lr, cmpP, val_i, val_b, val_d, aget, Nat.reduceBEq, beq_self_eq_true, Bool.false_eq_true, if_true, if_false, Nat.reduceLT, Nat.reduceSub, Nat.sub_self, Nat.lt_irrefl, i0, i3, i4, i5, i6, c1, c2, c3, c4, c5, c6, c7, c8, c9, c10, c11, N9bi190, N9bi191, eL]
  refine ⟨fun hc => ?_, fun hc => ?_⟩
  · have hw : IntKind.i64.wrap ((i : Int) + 1) = (i + 1 : Nat) := by rw [wrap_in ((i : Int) + 1) (by omega) (by omega)]; rfl
    have eR : ∀ j : Nat, lg (rAt ds 10) i j = lg (rAt (fD ds) 0) i j := fun _ => rfl
    have yes : (legE (rowLeg (fD ds) i) = 0 ∨ legE (rowLeg (fD ds) i) = 20) → finJ (fD ds) i 1 < lg (rAt ds 10) i 1 → _ := fun a b => fin_go (ds := fD ds) a b
    have no := fin_stay (ds := fD ds) (i := i)
    refine ⟨by omega, hc, fun a => ⟨fun b => ?_, fun b => ?_⟩, fun a => ⟨fun a2 => ⟨fun b => ?_, fun b => ?_⟩, fun a2 => ?_⟩⟩
    · obtain ⟨e1, e2, e3, e4⟩ := yes (.inl a) b
      exact ⟨⟨i + 1, hw, by omega, (e1 0).symm, (e1 1).symm, (e1 2).symm, (e1 3).symm, (e1 4).symm, (e1 5).symm, (e1 6).symm, (e1 7).symm, (e1 8).symm, (e1 9).symm, (e1 10).symm, (e2 11).symm, (e2 12).symm, e3.symm, e4.symm⟩, by rw [hw]; omega⟩
    · obtain ⟨e1, e2, e3, e4⟩ := no (fun q => b q.2)
      exact ⟨⟨i + 1, hw, by omega, (e1 0).symm, (e1 1).symm, (e1 2).symm, (e1 3).symm, (e1 4).symm, (e1 5).symm, (e1 6).symm, (e1 7).symm, (e1 8).symm, (e1 9).symm, (e1 10).symm, (e2 11).symm, (e2 12).symm, e3.symm, e4.symm⟩, by rw [hw]; omega⟩
    · obtain ⟨e1, e2, e3, e4⟩ := yes (.inr a2) b
      exact ⟨⟨i + 1, hw, by omega, (e1 0).symm, (e1 1).symm, (e1 2).symm, (e1 3).symm, (e1 4).symm, (e1 5).symm, (e1 6).symm, (e1 7).symm, (e1 8).symm, (e1 9).symm, (e1 10).symm, (e2 11).symm, (e2 12).symm, e3.symm, e4.symm⟩, by rw [hw]; omega⟩
    · obtain ⟨e1, e2, e3, e4⟩ := no (fun q => b q.2)
      exact ⟨⟨i + 1, hw, by omega, (e1 0).symm, (e1 1).symm, (e1 2).symm, (e1 3).symm, (e1 4).symm, (e1 5).symm, (e1 6).symm, (e1 7).symm, (e1 8).symm, (e1 9).symm, (e1 10).symm, (e2 11).symm, (e2 12).symm, e3.symm, e4.symm⟩, by rw [hw]; omega⟩
    · obtain ⟨e1, e2, e3, e4⟩ := no (fun q => q.1.elim a a2)
      exact ⟨⟨i + 1, hw, by omega, (e1 0).symm, (e1 1).symm, (e1 2).symm, (e1 3).symm, (e1 4).symm, (e1 5).symm, (e1 6).symm, (e1 7).symm, (e1 8).symm, (e1 9).symm, (e1 10).symm, (e2 11).symm, (e2 12).symm, e3.symm, e4.symm⟩, by rw [hw]; omega⟩
  · obtain rfl : i = (rAt ds 10).length := by omega
    refine ⟨[], lsAre_nil, fun σ u hw hu => ⟨[], trivial, ?_⟩⟩
    obtain ⟨us, hu, rfl⟩ := hu
    obtain ⟨u0, us, rfl, h0, hu⟩ := DL.cons_inv hu
    obtain ⟨u1, us, rfl, h1, hu⟩ := DL.cons_inv hu
    obtain ⟨u2, us, rfl, h2, hu⟩ := DL.cons_inv hu
    obtain ⟨u3, us, rfl, h3, hu⟩ := DL.cons_inv hu
    obtain ⟨u4, us, rfl, h4, hu⟩ := DL.cons_inv hu
    obtain ⟨u5, us, rfl, h5, hu⟩ := DL.cons_inv hu
    obtain ⟨u6, us, rfl, h6, hu⟩ := DL.cons_inv hu
    obtain ⟨u7, us, rfl, h7, hu⟩ := DL.cons_inv hu
    obtain ⟨u8, us, rfl, h8, hu⟩ := DL.cons_inv hu
    obtain ⟨u9, us, rfl, h9, hu⟩ := DL.cons_inv hu
    obtain ⟨u10, us, rfl, h10, hu⟩ := DL.cons_inv hu
    obtain ⟨u11, us, rfl, h11, hu⟩ := DL.cons_inv hu
    obtain ⟨u12, us, rfl, h12, hu⟩ := DL.cons_inv hu
    obtain ⟨u13, us, rfl, h13, hu⟩ := DL.cons_inv hu
    obtain ⟨u14, us, rfl, h14, hu⟩ := DL.cons_inv hu
    obtain rfl := DL.nil_inv hu
    refine ⟨u11, u12, ?_, ?_, ?_⟩
    · obtain rfl : u0 = .int .i64 (v.i 1) := h0
      obtain rfl : u1 = .int .i64 (v.i 2) := h1
      obtain rfl : u2 = .int .i64 (v.i 3) := h2
      obtain rfl : u3 = .int .i64 (v.i 4) := h3
      obtain rfl : u4 = .int .i64 (v.i 5) := h4
      obtain rfl : u5 = .int .i64 (v.i 6) := h5
      obtain rfl : u6 = .int .i64 (v.i 7) := h6
      obtain rfl : u7 = .int .i64 (v.i 8) := h7
      obtain rfl : u8 = .int .i64 (v.i 9) := h8
      obtain rfl : u9 = .int .i64 (v.i 10) := h9
      obtain rfl : u10 = .int .i64 (v.i 11) := h10
      obtain rfl : u13 = .int .i64 (v.i 14) := h13
      obtain rfl : u14 = .int .i64 (v.i 15) := h14
      rw [c1, c2, c3, c4, c5, c6, c7, c8, c9, c10, c11, i5, i6]
      rfl
    · have h11 : Sl ((envOf N9b w0 ds).put 9000 v).w [.int .i64] u11 (v.d 12) false := h11
      rw [i3] at h11; exact h11
    · have h12 : Sl ((envOf N9b w0 ds).put 9000 v).w featK u12 (v.d 13) false := h12
      rw [i4] at h12; exact h12
/-! Contracts -/
def N9c : Interp where
  fi n l := match n with | 233 => digI l | 234 => digE l | 230 => fiJ l | 231 => fiI l | 232 => fiE l | n => N9b.fi n l
  fb n l := N9b.fb n l
  fd n l := match n with | 2 => fiX l | 3 => fiY l | n => N9b.fd n l
theorem N9c_N9bd {ρ : Env} (h : SeesD ρ N9c 4) : SeesD ρ N9b 2 := fun n l hn => by
  rw [h n l (by omega)]
  simp only [N9c]
  split <;> first | omega | rfl
theorem N9c_N9b {ρ : Env} (h : Sees ρ N9c 240) : Sees ρ N9b 230 := h.trans (by decide) fun n l hn => by
  refine ⟨?_, ?_⟩
  ·
    simp only [N9c]
    split <;> first | omega | rfl
  ·
    rfl
def cDigest := ctD [shee] fun al => .ret (.tup [.one (.z (.int .u64 (.fn 233 al))), .one (.z (.int .i64 (.fn 234 al)))])
theorem cDigest_ok {ρ : Env} (h : Sees ρ N9c 240) : CtOne Tryz.prog ρ 21 cDigest :=
  ctD_ok gDigest (fun _ => rfl) (fun al => by simp only [V.val, V2.val, S.val, S0.val, E.ev, List.map_cons, List.map_nil, (h 233 _ (by decide)).1, (h 234 _ (by decide)).1, N9c])
def jS (j : Int) (al : AL) : S := .z (.int .i64 (.fn 230 (.i (.lit j) al)))
def cFinest (args : List V) (_mem : Mem) (nx : Nat) : T OpR := match argsE [voyS, shes, it] args with
  | some al => ctN [] [] (.v (.agg [jS 0 al, jS 1 al, jS 2 al, jS 3 al, jS 4 al, jS 5 al, jS 6 al, jS 7 al, jS 8 al, jS 9 al, jS 10 al, .z (.ext [.int .i64] (.fn 2 al) false), .z (.ext featK (.fn 3 al) false), .z (.int .i64 (.fn 231 al)), .z (.int .i64 (.fn 232 al))])) al nx
  | none => .stuck "finest"
theorem cFinest_ok {ρ : Env} (h : Sees ρ N9c 240) (hd : SeesD ρ N9c 4) : CtOne Tryz.prog ρ 44 cFinest := by
  intro args mem nx q hq hle σ W vals hr hfr hdl
  unfold cFinest at hq
  split at hq
  · rename_i al ha
    refine ctN_ok gFinest ha (fun _ => trivial) (fun l hl a => by cases hl) hq (fun σ' vs u hv hl hres => ?_) hr hfr hdl
    obtain ⟨d, f, rfl, h1, h2⟩ := hres
    have ej : ∀ (j : Int), (jS j al).den ρ σ' (.int .i64 (fiJ (.i j :: al.ev ρ))) := fun j => by
      show Value.int .i64 _ = .int .i64 (ρ.fi 230 (.i j :: al.ev ρ))
      rw [(h 230 _ (by decide)).1]; simp only [N9c]
    have e1 : (X.fn 2 al).ev ρ = fiX (al.ev ρ) := by simp only [X.ev]; rw [hd 2 _ (by decide)]; simp only [N9c]
    have e2 : (X.fn 3 al).ev ρ = fiY (al.ev ρ) := by simp only [X.ev]; rw [hd 3 _ (by decide)]; simp only [N9c]
    have e3 : Value.int .i64 (fiI (al.ev ρ)) = .int .i64 ((E.fn 231 al).ev ρ) := by simp only [E.ev]; rw [(h 231 _ (by decide)).1]; simp only [N9c]
    have e4 : Value.int .i64 (fiE (al.ev ρ)) = .int .i64 ((E.fn 232 al).ev ρ) := by simp only [E.ev]; rw [(h 232 _ (by decide)).1]; simp only [N9c]
    refine ⟨[_, _, _, _, _, _, _, _, _, _, _, d, f, _, _], ⟨ej 0, ej 1, ej 2, ej 3, ej 4, ej 5, ej 6, ej 7, ej 8, ej 9, ej 10, ?_, ?_, e3, e4, trivial⟩, rfl⟩
    · show Sl ρ.w [.int .i64] d ((X.fn 2 al).ev ρ) false
      rw [e1]; exact h1
    · show Sl ρ.w featK f ((X.fn 3 al).ev ρ) false
      rw [e2]; exact h2
  · exact hq.elim
def ctO3 : Ct := (44, cFinest) :: (21, cDigest) :: ctO2
theorem ctO3_ok {ρ : Env} (h : Sees ρ N9c 240) (hd : SeesD ρ N9c 4) : CtOk Tryz.prog ρ ctO3 := .cons (cFinest_ok h hd) <| .cons (cDigest_ok h) (ctO2_ok (N9c_N9b h) (N9c_N9bd hd))
end Go.Proofs.YtkjjkckcjgkhmaaGreat
/- Chapter 40: trees of Make and Verify. -/
namespace Go.Proofs.YtkjjkckcjgkhmaaGreat
open Go.RowKit
def certS : Sh := .agg [.sl [.int .i64], .sl [.int .u64]]
def trMake : TT OpR :=
(.loop 0 6000 ⟨[(0, (.lit 0)), (1, (.lit 0))], [], []⟩
 (.ite (.cmp .lss (.var 6001) (.len (.var 0)))
 (.ob (.tru (.cmp .leq (.lit 0) (.var 6001)))
 (.ob (.tru (.cmp .lss (.var 6001) (.len (.var 0))))
 (.ite (.not (.fn 151 (.i (.rd (.var 0) (.var 6001) 0) (.i (.rd (.var 0) (.var 6001) 1) (.i (.rd (.var 0) (.var 6001) 2) (.i (.rd (.var 0) (.var 6001) 3) (.i (.rd (.var 0) (.var 6001) 4) (.i (.rd (.var 0) (.var 6001) 5) (.i (.rd (.var 0) (.var 6001) 6) (.i (.rd (.var 0) (.var 6001) 7) (.i (.rd (.var 0) (.var 6001) 8) (.i (.rd (.var 0) (.var 6001) 9) (.i (.rd (.var 0) (.var 6001) 10) (.x (.rd (.var 0) (.var 6001) 11) (.x (.rd (.var 0) (.var 6001) 12) .nil)))))))))))))))
 (.ret ((.tup [(.agg [(.z (.const (.slice none 0 0))), (.z (.const (.slice none 0 0)))]), (.one (.z (.int .i64 (.lit 0)))), (.one (.z (.int .i64 (.lit 0)))), (.one (.z (.int .i64 (.lit 1))))]), [], 7))
 (.ite (.cmp .leq (.rd (.var 0) (.var 6001) 0) (.var 6000))
 (.ret ((.tup [(.agg [(.z (.const (.slice none 0 0))), (.z (.const (.slice none 0 0)))]), (.one (.z (.int .i64 (.lit 0)))), (.one (.z (.int .i64 (.lit 0)))), (.one (.z (.int .i64 (.lit 1))))]), [], 7))
 (.next 0 ⟨[(0, (.rd (.var 0) (.var 6001) 0)), (1, (.ar .add .i64 (.var 6001) (.lit 1)))], [], []⟩)))))
 (.ite (.not (.cmp .leq (.len (.var 0)) (.lit 20)))
 (.ret ((.tup [(.agg [(.z (.const (.slice none 0 0))), (.z (.const (.slice none 0 0)))]), (.one (.z (.int .i64 (.lit 0)))), (.one (.z (.int .i64 (.lit 0)))), (.one (.z (.int .i64 (.lit 1))))]), [], 7))
 (.ite (.fn 20 (.i (.var 1) (.i (.var 2) (.i (.var 3) (.x (.var 4) .nil)))))
 (.ite (.cmp .lss (.lit 0) (.len (.var 4)))
 (.ite (.fn 144 (.i (.var 5) (.i (.var 6) (.x (.var 7) .nil))))
 (.ite (.not (.fn 150 (.i (.var 8) (.i (.var 9) (.x (.var 10) .nil)))))
 (.ret ((.tup [(.agg [(.z (.const (.slice none 0 0))), (.z (.const (.slice none 0 0)))]), (.one (.z (.int .i64 (.lit 0)))), (.one (.z (.int .i64 (.lit 0)))), (.one (.z (.int .i64 (.lit 1))))]), [], 8))
 (.loop 1 10000 ⟨[(0, (.lit 0)), (3, (.lit 0)), (1, (.lit 0)), (1, (.lit 0)), (3, (.lit 0))], [], [(4, .nil), (2, .nil)]⟩
 (.ite (.cmp .lss (.var 10000) (.len (.var 4)))
 (.ite (.cmp .neq (.fn 232 (.i (.var 1) (.i (.var 2) (.i (.var 3) (.x (.var 4) (.i (.var 5) (.i (.var 6) (.x (.var 7) (.i (.var 8) (.i (.var 9) (.x (.var 10) (.x (.var 0) (.i (.var 10000) .nil))))))))))))) (.lit 0))
 (.ret ((.tup [(.agg [(.z (.const (.slice none 0 0))), (.z (.const (.slice none 0 0)))]), (.one (.z (.int .i64 (.var 10000)))), (.one (.z (.int .i64 (.fn 231 (.i (.var 1) (.i (.var 2) (.i (.var 3) (.x (.var 4) (.i (.var 5) (.i (.var 6) (.x (.var 7) (.i (.var 8) (.i (.var 9) (.x (.var 10) (.x (.var 0) (.i (.var 10000) .nil)))))))))))))))), (.one (.z (.int .i64 (.fn 232 (.i (.var 1) (.i (.var 2) (.i (.var 3) (.x (.var 4) (.i (.var 5) (.i (.var 6) (.x (.var 7) (.i (.var 8) (.i (.var 9) (.x (.var 10) (.x (.var 0) (.i (.var 10000) .nil))))))))))))))))]), [], 15))
 (.ite (.cmp .neq (.fn 234 (.i (.fn 230 (.i (.lit 0) (.i (.var 1) (.i (.var 2) (.i (.var 3) (.x (.var 4) (.i (.var 5) (.i (.var 6) (.x (.var 7) (.i (.var 8) (.i (.var 9) (.x (.var 10) (.x (.var 0) (.i (.var 10000) .nil)))))))))))))) (.i (.fn 230 (.i (.lit 1) (.i (.var 1) (.i (.var 2) (.i (.var 3) (.x (.var 4) (.i (.var 5) (.i (.var 6) (.x (.var 7) (.i (.var 8) (.i (.var 9) (.x (.var 10) (.x (.var 0) (.i (.var 10000) .nil)))))))))))))) (.i (.fn 230 (.i (.lit 2) (.i (.var 1) (.i (.var 2) (.i (.var 3) (.x (.var 4) (.i (.var 5) (.i (.var 6) (.x (.var 7) (.i (.var 8) (.i (.var 9) (.x (.var 10) (.x (.var 0) (.i (.var 10000) .nil)))))))))))))) (.i (.fn 230 (.i (.lit 3) (.i (.var 1) (.i (.var 2) (.i (.var 3) (.x (.var 4) (.i (.var 5) (.i (.var 6) (.x (.var 7) (.i (.var 8) (.i (.var 9) (.x (.var 10) (.x (.var 0) (.i (.var 10000) .nil)))))))))))))) (.i (.fn 230 (.i (.lit 4) (.i (.var 1) (.i (.var 2) (.i (.var 3) (.x (.var 4) (.i (.var 5) (.i (.var 6) (.x (.var 7) (.i (.var 8) (.i (.var 9) (.x (.var 10) (.x (.var 0) (.i (.var 10000) .nil)))))))))))))) (.i (.fn 230 (.i (.lit 5) (.i (.var 1) (.i (.var 2) (.i (.var 3) (.x (.var 4) (.i (.var 5) (.i (.var 6) (.x (.var 7) (.i (.var 8) (.i (.var 9) (.x (.var 10) (.x (.var 0) (.i (.var 10000) .nil)))))))))))))) (.i (.fn 230 (.i (.lit 6) (.i (.var 1) (.i (.var 2) (.i (.var 3) (.x (.var 4) (.i (.var 5) (.i (.var 6) (.x (.var 7) (.i (.var 8) (.i (.var 9) (.x (.var 10) (.x (.var 0) (.i (.var 10000) .nil)))))))))))))) (.i (.fn 230 (.i (.lit 7) (.i (.var 1) (.i (.var 2) (.i (.var 3) (.x (.var 4) (.i (.var 5) (.i (.var 6) (.x (.var 7) (.i (.var 8) (.i (.var 9) (.x (.var 10) (.x (.var 0) (.i (.var 10000) .nil)))))))))))))) (.i (.fn 230 (.i (.lit 8) (.i (.var 1) (.i (.var 2) (.i (.var 3) (.x (.var 4) (.i (.var 5) (.i (.var 6) (.x (.var 7) (.i (.var 8) (.i (.var 9) (.x (.var 10) (.x (.var 0) (.i (.var 10000) .nil)))))))))))))) (.i (.fn 230 (.i (.lit 9) (.i (.var 1) (.i (.var 2) (.i (.var 3) (.x (.var 4) (.i (.var 5) (.i (.var 6) (.x (.var 7) (.i (.var 8) (.i (.var 9) (.x (.var 10) (.x (.var 0) (.i (.var 10000) .nil)))))))))))))) (.i (.fn 230 (.i (.lit 10) (.i (.var 1) (.i (.var 2) (.i (.var 3) (.x (.var 4) (.i (.var 5) (.i (.var 6) (.x (.var 7) (.i (.var 8) (.i (.var 9) (.x (.var 10) (.x (.var 0) (.i (.var 10000) .nil)))))))))))))) (.x (.fn 2 (.i (.var 1) (.i (.var 2) (.i (.var 3) (.x (.var 4) (.i (.var 5) (.i (.var 6) (.x (.var 7) (.i (.var 8) (.i (.var 9) (.x (.var 10) (.x (.var 0) (.i (.var 10000) .nil))))))))))))) (.x (.fn 3 (.i (.var 1) (.i (.var 2) (.i (.var 3) (.x (.var 4) (.i (.var 5) (.i (.var 6) (.x (.var 7) (.i (.var 8) (.i (.var 9) (.x (.var 10) (.x (.var 0) (.i (.var 10000) .nil))))))))))))) .nil)))))))))))))) (.lit 0))
 (.ret ((.tup [(.agg [(.z (.const (.slice none 0 0))), (.z (.const (.slice none 0 0)))]), (.one (.z (.int .i64 (.var 10000)))), (.one (.z (.int .i64 (.lit 0)))), (.one (.z (.int .i64 (.fn 234 (.i (.fn 230 (.i (.lit 0) (.i (.var 1) (.i (.var 2) (.i (.var 3) (.x (.var 4) (.i (.var 5) (.i (.var 6) (.x (.var 7) (.i (.var 8) (.i (.var 9) (.x (.var 10) (.x (.var 0) (.i (.var 10000) .nil)))))))))))))) (.i (.fn 230 (.i (.lit 1) (.i (.var 1) (.i (.var 2) (.i (.var 3) (.x (.var 4) (.i (.var 5) (.i (.var 6) (.x (.var 7) (.i (.var 8) (.i (.var 9) (.x (.var 10) (.x (.var 0) (.i (.var 10000) .nil)))))))))))))) (.i (.fn 230 (.i (.lit 2) (.i (.var 1) (.i (.var 2) (.i (.var 3) (.x (.var 4) (.i (.var 5) (.i (.var 6) (.x (.var 7) (.i (.var 8) (.i (.var 9) (.x (.var 10) (.x (.var 0) (.i (.var 10000) .nil)))))))))))))) (.i (.fn 230 (.i (.lit 3) (.i (.var 1) (.i (.var 2) (.i (.var 3) (.x (.var 4) (.i (.var 5) (.i (.var 6) (.x (.var 7) (.i (.var 8) (.i (.var 9) (.x (.var 10) (.x (.var 0) (.i (.var 10000) .nil)))))))))))))) (.i (.fn 230 (.i (.lit 4) (.i (.var 1) (.i (.var 2) (.i (.var 3) (.x (.var 4) (.i (.var 5) (.i (.var 6) (.x (.var 7) (.i (.var 8) (.i (.var 9) (.x (.var 10) (.x (.var 0) (.i (.var 10000) .nil)))))))))))))) (.i (.fn 230 (.i (.lit 5) (.i (.var 1) (.i (.var 2) (.i (.var 3) (.x (.var 4) (.i (.var 5) (.i (.var 6) (.x (.var 7) (.i (.var 8) (.i (.var 9) (.x (.var 10) (.x (.var 0) (.i (.var 10000) .nil)))))))))))))) (.i (.fn 230 (.i (.lit 6) (.i (.var 1) (.i (.var 2) (.i (.var 3) (.x (.var 4) (.i (.var 5) (.i (.var 6) (.x (.var 7) (.i (.var 8) (.i (.var 9) (.x (.var 10) (.x (.var 0) (.i (.var 10000) .nil)))))))))))))) (.i (.fn 230 (.i (.lit 7) (.i (.var 1) (.i (.var 2) (.i (.var 3) (.x (.var 4) (.i (.var 5) (.i (.var 6) (.x (.var 7) (.i (.var 8) (.i (.var 9) (.x (.var 10) (.x (.var 0) (.i (.var 10000) .nil)))))))))))))) (.i (.fn 230 (.i (.lit 8) (.i (.var 1) (.i (.var 2) (.i (.var 3) (.x (.var 4) (.i (.var 5) (.i (.var 6) (.x (.var 7) (.i (.var 8) (.i (.var 9) (.x (.var 10) (.x (.var 0) (.i (.var 10000) .nil)))))))))))))) (.i (.fn 230 (.i (.lit 9) (.i (.var 1) (.i (.var 2) (.i (.var 3) (.x (.var 4) (.i (.var 5) (.i (.var 6) (.x (.var 7) (.i (.var 8) (.i (.var 9) (.x (.var 10) (.x (.var 0) (.i (.var 10000) .nil)))))))))))))) (.i (.fn 230 (.i (.lit 10) (.i (.var 1) (.i (.var 2) (.i (.var 3) (.x (.var 4) (.i (.var 5) (.i (.var 6) (.x (.var 7) (.i (.var 8) (.i (.var 9) (.x (.var 10) (.x (.var 0) (.i (.var 10000) .nil)))))))))))))) (.x (.fn 2 (.i (.var 1) (.i (.var 2) (.i (.var 3) (.x (.var 4) (.i (.var 5) (.i (.var 6) (.x (.var 7) (.i (.var 8) (.i (.var 9) (.x (.var 10) (.x (.var 0) (.i (.var 10000) .nil))))))))))))) (.x (.fn 3 (.i (.var 1) (.i (.var 2) (.i (.var 3) (.x (.var 4) (.i (.var 5) (.i (.var 6) (.x (.var 7) (.i (.var 8) (.i (.var 9) (.x (.var 10) (.x (.var 0) (.i (.var 10000) .nil))))))))))))) .nil)))))))))))))))))]), [], 15))
 (.ob (.tru (.cmp .leq (.len (.app (.var 10002) (.app (.row (.i (.fn 230 (.i (.lit 0) (.i (.var 1) (.i (.var 2) (.i (.var 3) (.x (.var 4) (.i (.var 5) (.i (.var 6) (.x (.var 7) (.i (.var 8) (.i (.var 9) (.x (.var 10) (.x (.var 0) (.i (.var 10000) .nil)))))))))))))) .nil)) .nil))) (.lit 1000000)))
 (.ob (.tru (.cmp .leq (.len (.app (.var 10004) (.app (.row (.i (.fn 233 (.i (.fn 230 (.i (.lit 0) (.i (.var 1) (.i (.var 2) (.i (.var 3) (.x (.var 4) (.i (.var 5) (.i (.var 6) (.x (.var 7) (.i (.var 8) (.i (.var 9) (.x (.var 10) (.x (.var 0) (.i (.var 10000) .nil)))))))))))))) (.i (.fn 230 (.i (.lit 1) (.i (.var 1) (.i (.var 2) (.i (.var 3) (.x (.var 4) (.i (.var 5) (.i (.var 6) (.x (.var 7) (.i (.var 8) (.i (.var 9) (.x (.var 10) (.x (.var 0) (.i (.var 10000) .nil)))))))))))))) (.i (.fn 230 (.i (.lit 2) (.i (.var 1) (.i (.var 2) (.i (.var 3) (.x (.var 4) (.i (.var 5) (.i (.var 6) (.x (.var 7) (.i (.var 8) (.i (.var 9) (.x (.var 10) (.x (.var 0) (.i (.var 10000) .nil)))))))))))))) (.i (.fn 230 (.i (.lit 3) (.i (.var 1) (.i (.var 2) (.i (.var 3) (.x (.var 4) (.i (.var 5) (.i (.var 6) (.x (.var 7) (.i (.var 8) (.i (.var 9) (.x (.var 10) (.x (.var 0) (.i (.var 10000) .nil)))))))))))))) (.i (.fn 230 (.i (.lit 4) (.i (.var 1) (.i (.var 2) (.i (.var 3) (.x (.var 4) (.i (.var 5) (.i (.var 6) (.x (.var 7) (.i (.var 8) (.i (.var 9) (.x (.var 10) (.x (.var 0) (.i (.var 10000) .nil)))))))))))))) (.i (.fn 230 (.i (.lit 5) (.i (.var 1) (.i (.var 2) (.i (.var 3) (.x (.var 4) (.i (.var 5) (.i (.var 6) (.x (.var 7) (.i (.var 8) (.i (.var 9) (.x (.var 10) (.x (.var 0) (.i (.var 10000) .nil)))))))))))))) (.i (.fn 230 (.i (.lit 6) (.i (.var 1) (.i (.var 2) (.i (.var 3) (.x (.var 4) (.i (.var 5) (.i (.var 6) (.x (.var 7) (.i (.var 8) (.i (.var 9) (.x (.var 10) (.x (.var 0) (.i (.var 10000) .nil)))))))))))))) (.i (.fn 230 (.i (.lit 7) (.i (.var 1) (.i (.var 2) (.i (.var 3) (.x (.var 4) (.i (.var 5) (.i (.var 6) (.x (.var 7) (.i (.var 8) (.i (.var 9) (.x (.var 10) (.x (.var 0) (.i (.var 10000) .nil)))))))))))))) (.i (.fn 230 (.i (.lit 8) (.i (.var 1) (.i (.var 2) (.i (.var 3) (.x (.var 4) (.i (.var 5) (.i (.var 6) (.x (.var 7) (.i (.var 8) (.i (.var 9) (.x (.var 10) (.x (.var 0) (.i (.var 10000) .nil)))))))))))))) (.i (.fn 230 (.i (.lit 9) (.i (.var 1) (.i (.var 2) (.i (.var 3) (.x (.var 4) (.i (.var 5) (.i (.var 6) (.x (.var 7) (.i (.var 8) (.i (.var 9) (.x (.var 10) (.x (.var 0) (.i (.var 10000) .nil)))))))))))))) (.i (.fn 230 (.i (.lit 10) (.i (.var 1) (.i (.var 2) (.i (.var 3) (.x (.var 4) (.i (.var 5) (.i (.var 6) (.x (.var 7) (.i (.var 8) (.i (.var 9) (.x (.var 10) (.x (.var 0) (.i (.var 10000) .nil)))))))))))))) (.x (.fn 2 (.i (.var 1) (.i (.var 2) (.i (.var 3) (.x (.var 4) (.i (.var 5) (.i (.var 6) (.x (.var 7) (.i (.var 8) (.i (.var 9) (.x (.var 10) (.x (.var 0) (.i (.var 10000) .nil))))))))))))) (.x (.fn 3 (.i (.var 1) (.i (.var 2) (.i (.var 3) (.x (.var 4) (.i (.var 5) (.i (.var 6) (.x (.var 7) (.i (.var 8) (.i (.var 9) (.x (.var 10) (.x (.var 0) (.i (.var 10000) .nil))))))))))))) .nil)))))))))))))) .nil)) .nil))) (.lit 1000000)))
 (.next 1 ⟨[(0, (.ar .add .i64 (.var 10000) (.lit 1))), (3, (.plus (.var 10003) (.lit 1))), (1, (.plus (.var 10001) (.lit 1))), (1, (.plus (.var 10001) (.lit 1))), (3, (.plus (.var 10003) (.lit 1)))], [], [(4, (.app (.var 10004) (.app (.row (.i (.fn 233 (.i (.fn 230 (.i (.lit 0) (.i (.var 1) (.i (.var 2) (.i (.var 3) (.x (.var 4) (.i (.var 5) (.i (.var 6) (.x (.var 7) (.i (.var 8) (.i (.var 9) (.x (.var 10) (.x (.var 0) (.i (.var 10000) .nil)))))))))))))) (.i (.fn 230 (.i (.lit 1) (.i (.var 1) (.i (.var 2) (.i (.var 3) (.x (.var 4) (.i (.var 5) (.i (.var 6) (.x (.var 7) (.i (.var 8) (.i (.var 9) (.x (.var 10) (.x (.var 0) (.i (.var 10000) .nil)))))))))))))) (.i (.fn 230 (.i (.lit 2) (.i (.var 1) (.i (.var 2) (.i (.var 3) (.x (.var 4) (.i (.var 5) (.i (.var 6) (.x (.var 7) (.i (.var 8) (.i (.var 9) (.x (.var 10) (.x (.var 0) (.i (.var 10000) .nil)))))))))))))) (.i (.fn 230 (.i (.lit 3) (.i (.var 1) (.i (.var 2) (.i (.var 3) (.x (.var 4) (.i (.var 5) (.i (.var 6) (.x (.var 7) (.i (.var 8) (.i (.var 9) (.x (.var 10) (.x (.var 0) (.i (.var 10000) .nil)))))))))))))) (.i (.fn 230 (.i (.lit 4) (.i (.var 1) (.i (.var 2) (.i (.var 3) (.x (.var 4) (.i (.var 5) (.i (.var 6) (.x (.var 7) (.i (.var 8) (.i (.var 9) (.x (.var 10) (.x (.var 0) (.i (.var 10000) .nil)))))))))))))) (.i (.fn 230 (.i (.lit 5) (.i (.var 1) (.i (.var 2) (.i (.var 3) (.x (.var 4) (.i (.var 5) (.i (.var 6) (.x (.var 7) (.i (.var 8) (.i (.var 9) (.x (.var 10) (.x (.var 0) (.i (.var 10000) .nil)))))))))))))) (.i (.fn 230 (.i (.lit 6) (.i (.var 1) (.i (.var 2) (.i (.var 3) (.x (.var 4) (.i (.var 5) (.i (.var 6) (.x (.var 7) (.i (.var 8) (.i (.var 9) (.x (.var 10) (.x (.var 0) (.i (.var 10000) .nil)))))))))))))) (.i (.fn 230 (.i (.lit 7) (.i (.var 1) (.i (.var 2) (.i (.var 3) (.x (.var 4) (.i (.var 5) (.i (.var 6) (.x (.var 7) (.i (.var 8) (.i (.var 9) (.x (.var 10) (.x (.var 0) (.i (.var 10000) .nil)))))))))))))) (.i (.fn 230 (.i (.lit 8) (.i (.var 1) (.i (.var 2) (.i (.var 3) (.x (.var 4) (.i (.var 5) (.i (.var 6) (.x (.var 7) (.i (.var 8) (.i (.var 9) (.x (.var 10) (.x (.var 0) (.i (.var 10000) .nil)))))))))))))) (.i (.fn 230 (.i (.lit 9) (.i (.var 1) (.i (.var 2) (.i (.var 3) (.x (.var 4) (.i (.var 5) (.i (.var 6) (.x (.var 7) (.i (.var 8) (.i (.var 9) (.x (.var 10) (.x (.var 0) (.i (.var 10000) .nil)))))))))))))) (.i (.fn 230 (.i (.lit 10) (.i (.var 1) (.i (.var 2) (.i (.var 3) (.x (.var 4) (.i (.var 5) (.i (.var 6) (.x (.var 7) (.i (.var 8) (.i (.var 9) (.x (.var 10) (.x (.var 0) (.i (.var 10000) .nil)))))))))))))) (.x (.fn 2 (.i (.var 1) (.i (.var 2) (.i (.var 3) (.x (.var 4) (.i (.var 5) (.i (.var 6) (.x (.var 7) (.i (.var 8) (.i (.var 9) (.x (.var 10) (.x (.var 0) (.i (.var 10000) .nil))))))))))))) (.x (.fn 3 (.i (.var 1) (.i (.var 2) (.i (.var 3) (.x (.var 4) (.i (.var 5) (.i (.var 6) (.x (.var 7) (.i (.var 8) (.i (.var 9) (.x (.var 10) (.x (.var 0) (.i (.var 10000) .nil))))))))))))) .nil)))))))))))))) .nil)) .nil))), (2, (.app (.var 10002) (.app (.row (.i (.fn 230 (.i (.lit 0) (.i (.var 1) (.i (.var 2) (.i (.var 3) (.x (.var 4) (.i (.var 5) (.i (.var 6) (.x (.var 7) (.i (.var 8) (.i (.var 9) (.x (.var 10) (.x (.var 0) (.i (.var 10000) .nil)))))))))))))) .nil)) .nil)))]⟩)))))
 (.ret ((.tup [(.agg [(.z (.own 10 (.var 10001))), (.z (.own 11 (.var 10003)))]), (.one (.z (.int .i64 (.lit (-1))))), (.one (.z (.int .i64 (.lit 0)))), (.one (.z (.int .i64 (.lit 0))))]), [(11, (.own 68 [(.int .u64)] (.var 10004) (.var 10003))), (10, (.own 3 [(.int .i64)] (.var 10002) (.var 10001)))], 15)))))
 (.ret ((.tup [(.agg [(.z (.const (.slice none 0 0))), (.z (.const (.slice none 0 0)))]), (.one (.z (.int .i64 (.lit 0)))), (.one (.z (.int .i64 (.lit 0)))), (.one (.z (.int .i64 (.lit 1))))]), [], 8)))
 (.ret ((.tup [(.agg [(.z (.const (.slice none 0 0))), (.z (.const (.slice none 0 0)))]), (.one (.z (.int .i64 (.lit 0)))), (.one (.z (.int .i64 (.lit 0)))), (.one (.z (.int .i64 (.lit 1))))]), [], 8)))
 (.ret ((.tup [(.agg [(.z (.const (.slice none 0 0))), (.z (.const (.slice none 0 0)))]), (.one (.z (.int .i64 (.lit 0)))), (.one (.z (.int .i64 (.lit 0)))), (.one (.z (.int .i64 (.lit 1))))]), [], 8))))))
def trMake_h : List (Nat × St) := [
(5, ⟨(List.append [(.v (.one (.z (.ext [(.int .i64), (.int .i64), (.int .i64), (.int .i64), (.int .i64), (.int .i64), (.int .i64), (.int .i64), (.int .i64), (.int .i64), (.int .i64), (.sl [(.int .i64)]), (.sl [(.int .i64), (.int .i64), (.int .i64), (.int .i64), (.int .i64), (.sl [(.int .i64), (.int .i64)]), (.int .i64), (.int .i64), (.sl [(.int .i64), (.int .i64), (.int .i64), (.int .i64), (.int .i64), (.int .i64)])])] (.var 0) false)))), (.v (.one (.z .any))), (.v (.one (.z (.bool (.lit false))))), (.v (.one (.z (.int .i64 (.var 6000))))), (.v (.one (.z .any))), (.v (.one (.z .any))), (.v (.one (.z (.ext [(.int .i64), (.int .i64), (.int .i64), (.int .i64), (.int .i64), (.int .i64), (.int .i64), (.int .i64), (.int .i64), (.int .i64), (.int .i64), (.sl [(.int .i64)]), (.sl [(.int .i64), (.int .i64), (.int .i64), (.int .i64), (.int .i64), (.sl [(.int .i64), (.int .i64)]), (.int .i64), (.int .i64), (.sl [(.int .i64), (.int .i64), (.int .i64), (.int .i64), (.int .i64), (.int .i64)])])] (.var 0) false)))), (.v (.one (.z (.int .i64 (.len (.var 0)))))), (.v (.one (.z (.int .i64 (.var 6001)))))] (List.replicate 18 V.any)), [(4, (.cells 109 [(.z (.int .i64 (.var 1))), (.z (.int .i64 (.var 2))), (.z (.int .i64 (.var 3))), (.z (.ext [(.int .i64), (.int .i64), (.int .i64), (.int .i64), (.int .i64), (.int .i64)] (.var 4) false)), (.z (.int .i64 (.var 5))), (.z (.int .i64 (.var 6))), (.z (.ext [(.int .i64)] (.var 7) false)), (.z (.int .i64 (.var 8))), (.z (.int .i64 (.var 9))), (.z (.ext [(.int .i64), (.int .i64)] (.var 10) false))])), (3, (.cells 40 [(.z (.const (.slice none 0 0))), (.z (.const (.slice none 0 0)))])), (2, (.cells 33 [(.z (.int .i64 (.var 8))), (.z (.int .i64 (.var 9))), (.z (.ext [(.int .i64), (.int .i64)] (.var 10) false))])), (1, (.cells 30 [(.z (.int .i64 (.var 5))), (.z (.int .i64 (.var 6))), (.z (.ext [(.int .i64)] (.var 7) false))])), (0, (.cells 27 [(.z (.int .i64 (.var 1))), (.z (.int .i64 (.var 2))), (.z (.int .i64 (.var 3))), (.z (.ext [(.int .i64), (.int .i64), (.int .i64), (.int .i64), (.int .i64), (.int .i64)] (.var 4) false))]))], 6, []⟩),
(9, ⟨(List.append [(.v (.one (.z (.ext [(.int .i64), (.int .i64), (.int .i64), (.int .i64), (.int .i64), (.int .i64), (.int .i64), (.int .i64), (.int .i64), (.int .i64), (.int .i64), (.sl [(.int .i64)]), (.sl [(.int .i64), (.int .i64), (.int .i64), (.int .i64), (.int .i64), (.sl [(.int .i64), (.int .i64)]), (.int .i64), (.int .i64), (.sl [(.int .i64), (.int .i64), (.int .i64), (.int .i64), (.int .i64), (.int .i64)])])] (.var 0) false)))), (.v (.agg [(.z (.int .i64 (.var 1))), (.z (.int .i64 (.var 2))), (.z (.int .i64 (.var 3))), (.z (.ext [(.int .i64), (.int .i64), (.int .i64), (.int .i64), (.int .i64), (.int .i64)] (.var 4) false))])), (.v (.agg [(.z (.int .i64 (.var 5))), (.z (.int .i64 (.var 6))), (.z (.ext [(.int .i64)] (.var 7) false))])), (.v (.agg [(.z (.int .i64 (.var 8))), (.z (.int .i64 (.var 9))), (.z (.ext [(.int .i64), (.int .i64)] (.var 10) false))])), (.v (.one (.z .any))), (.v (.one (.z (.ptr 0 0)))), (.v (.one (.z (.ptr 1 0)))), (.v (.one (.z (.ptr 2 0)))), (.v (.one (.z (.ptr 3 0)))), (.v (.one (.z (.int .i64 (.lit 0))))), (.v (.one (.z (.int .i64 (.lit 0))))), (.v (.one (.z (.int .i64 (.lit 0))))), (.v (.one (.z (.ptr 4 0)))), (.v (.one (.z (.ptr 8 0))))] (List.append (List.replicate 4 V.any) (List.append [(.v (.agg [(.z (.int .i64 (.var 1))), (.z (.int .i64 (.var 2))), (.z (.int .i64 (.var 3))), (.z (.ext [(.int .i64), (.int .i64), (.int .i64), (.int .i64), (.int .i64), (.int .i64)] (.var 4) false))])), (.v (.agg [(.z (.int .i64 (.var 5))), (.z (.int .i64 (.var 6))), (.z (.ext [(.int .i64)] (.var 7) false))])), (.v (.agg [(.z (.int .i64 (.var 8))), (.z (.int .i64 (.var 9))), (.z (.ext [(.int .i64), (.int .i64)] (.var 10) false))])), (.v (.agg [(.z (.int .i64 (.var 1))), (.z (.int .i64 (.var 2))), (.z (.int .i64 (.var 3))), (.z (.ext [(.int .i64), (.int .i64), (.int .i64), (.int .i64), (.int .i64), (.int .i64)] (.var 4) false)), (.z (.int .i64 (.var 5))), (.z (.int .i64 (.var 6))), (.z (.ext [(.int .i64)] (.var 7) false)), (.z (.int .i64 (.var 8))), (.z (.int .i64 (.var 9))), (.z (.ext [(.int .i64), (.int .i64)] (.var 10) false))])), (.v (.one (.z (.ext [(.int .i64), (.int .i64), (.int .i64), (.int .i64), (.int .i64), (.int .i64), (.int .i64), (.int .i64), (.int .i64), (.int .i64), (.int .i64), (.sl [(.int .i64)]), (.sl [(.int .i64), (.int .i64), (.int .i64), (.int .i64), (.int .i64), (.sl [(.int .i64), (.int .i64)]), (.int .i64), (.int .i64), (.sl [(.int .i64), (.int .i64), (.int .i64), (.int .i64), (.int .i64), (.int .i64)])])] (.var 0) false)))), (.v (.one (.z (.bool (.cmp .leq (.len (.var 0)) (.lit 20)))))), (.v (.one (.z (.bool (.not (.cmp .leq (.len (.var 0)) (.lit 20))))))), (.v (.one (.z (.bool (.lit false))))), (.v (.agg [(.z (.int .i64 (.var 1))), (.z (.int .i64 (.var 2))), (.z (.int .i64 (.var 3))), (.z (.ext [(.int .i64), (.int .i64), (.int .i64), (.int .i64), (.int .i64), (.int .i64)] (.var 4) false)), (.z (.int .i64 (.var 5))), (.z (.int .i64 (.var 6))), (.z (.ext [(.int .i64)] (.var 7) false)), (.z (.int .i64 (.var 8))), (.z (.int .i64 (.var 9))), (.z (.ext [(.int .i64), (.int .i64)] (.var 10) false))])), (.v (.one (.z (.bool (.fn 150 (.i (.var 8) (.i (.var 9) (.x (.var 10) .nil)))))))), (.v (.one (.z (.bool (.not (.fn 150 (.i (.var 8) (.i (.var 9) (.x (.var 10) .nil))))))))), (.v (.one (.z (.bool (.not (.fn 150 (.i (.var 8) (.i (.var 9) (.x (.var 10) .nil))))))))), (.v (.one (.z .any))), (.v (.one (.z (.ptr 0 3)))), (.v (.one (.z (.ext [(.int .i64), (.int .i64), (.int .i64), (.int .i64), (.int .i64), (.int .i64)] (.var 4) false)))), (.v (.one (.z (.int .i64 (.len (.var 4)))))), (.v (.one (.z (.int .i64 (.var 10000)))))] (List.replicate 42 V.any)))), [(11, (.own 68 [(.int .u64)] (.var 10004) (.var 10003))), (10, (.own 3 [(.int .i64)] (.var 10002) (.var 10001))), (8, (.cells 40 [(.z (.own 10 (.var 10001))), (.z (.own 11 (.var 10003)))])), (4, (.cells 109 [(.z (.int .i64 (.var 1))), (.z (.int .i64 (.var 2))), (.z (.int .i64 (.var 3))), (.z (.ext [(.int .i64), (.int .i64), (.int .i64), (.int .i64), (.int .i64), (.int .i64)] (.var 4) false)), (.z (.int .i64 (.var 5))), (.z (.int .i64 (.var 6))), (.z (.ext [(.int .i64)] (.var 7) false)), (.z (.int .i64 (.var 8))), (.z (.int .i64 (.var 9))), (.z (.ext [(.int .i64), (.int .i64)] (.var 10) false))])), (3, (.cells 40 [(.z (.const (.slice none 0 0))), (.z (.const (.slice none 0 0)))])), (2, (.cells 33 [(.z (.int .i64 (.var 8))), (.z (.int .i64 (.var 9))), (.z (.ext [(.int .i64), (.int .i64)] (.var 10) false))])), (1, (.cells 30 [(.z (.int .i64 (.var 5))), (.z (.int .i64 (.var 6))), (.z (.ext [(.int .i64)] (.var 7) false))])), (0, (.cells 27 [(.z (.int .i64 (.var 1))), (.z (.int .i64 (.var 2))), (.z (.int .i64 (.var 3))), (.z (.ext [(.int .i64), (.int .i64), (.int .i64), (.int .i64), (.int .i64), (.int .i64)] (.var 4) false))]))], 12, []⟩)]
def trMake_j : List (FuncId × Nat × Nat × St) := [
]
set_option maxRecDepth 100000 in
theorem trMake_is : T.norm 0 (call Tryz.prog ctO3 ⟨Lt.un (Lt.of []), trMake_h, trMake_j⟩ 1000 14 (symArgs 0 [shes, psg, shp, tid]) [] 0) TT.ret = trMake := by kernel_rfl
theorem trMake_low : trMake.low 1000 = true := by kernel_rfl
def trVerify : TT OpR :=
(.loop 0 6000 ⟨[(0, (.lit 0)), (1, (.lit 0))], [], []⟩
 (.ite (.cmp .lss (.var 6001) (.len (.var 0)))
 (.ob (.tru (.cmp .leq (.lit 0) (.var 6001)))
 (.ob (.tru (.cmp .lss (.var 6001) (.len (.var 0))))
 (.ite (.not (.fn 151 (.i (.rd (.var 0) (.var 6001) 0) (.i (.rd (.var 0) (.var 6001) 1) (.i (.rd (.var 0) (.var 6001) 2) (.i (.rd (.var 0) (.var 6001) 3) (.i (.rd (.var 0) (.var 6001) 4) (.i (.rd (.var 0) (.var 6001) 5) (.i (.rd (.var 0) (.var 6001) 6) (.i (.rd (.var 0) (.var 6001) 7) (.i (.rd (.var 0) (.var 6001) 8) (.i (.rd (.var 0) (.var 6001) 9) (.i (.rd (.var 0) (.var 6001) 10) (.x (.rd (.var 0) (.var 6001) 11) (.x (.rd (.var 0) (.var 6001) 12) .nil)))))))))))))))
 (.ret ((.tup [(.one (.z (.bool (.lit false)))), (.one (.z (.int .i64 (.lit 1))))]), [], 7))
 (.ite (.cmp .leq (.rd (.var 0) (.var 6001) 0) (.var 6000))
 (.ret ((.tup [(.one (.z (.bool (.lit false)))), (.one (.z (.int .i64 (.lit 1))))]), [], 7))
 (.next 0 ⟨[(0, (.rd (.var 0) (.var 6001) 0)), (1, (.ar .add .i64 (.var 6001) (.lit 1)))], [], []⟩)))))
 (.ite (.not (.cmp .leq (.len (.var 0)) (.lit 20)))
 (.ret ((.tup [(.one (.z (.bool (.lit false)))), (.one (.z (.int .i64 (.lit 1))))]), [], 7))
 (.ite (.fn 20 (.i (.var 1) (.i (.var 2) (.i (.var 3) (.x (.var 4) .nil)))))
 (.ite (.cmp .lss (.lit 0) (.len (.var 4)))
 (.ite (.fn 144 (.i (.var 5) (.i (.var 6) (.x (.var 7) .nil))))
 (.ite (.not (.fn 150 (.i (.var 8) (.i (.var 9) (.x (.var 10) .nil)))))
 (.ret ((.tup [(.one (.z (.bool (.lit false)))), (.one (.z (.int .i64 (.lit 1))))]), [], 8))
 (.ite (.cmp .neq (.len (.var 11)) (.len (.var 4)))
 (.ret ((.tup [(.one (.z (.bool (.lit false)))), (.one (.z (.int .i64 (.lit 0))))]), [], 8))
 (.ite (.cmp .neq (.len (.var 12)) (.len (.var 4)))
 (.ret ((.tup [(.one (.z (.bool (.lit false)))), (.one (.z (.int .i64 (.lit 0))))]), [], 8))
 (.loop 1 9000 ⟨[(0, (.lit 0))], [], []⟩
 (.ite (.cmp .lss (.var 9000) (.len (.var 11)))
 (.ob (.tru (.cmp .leq (.lit 0) (.var 9000)))
 (.ob (.tru (.cmp .lss (.var 9000) (.len (.var 11))))
 (.loop 2 11000 ⟨[(0, (.lit 0))], [], []⟩
 (.ite (.cmp .lss (.var 11000) (.len (.var 0)))
 (.ob (.tru (.cmp .leq (.lit 0) (.var 11000)))
 (.ob (.tru (.cmp .lss (.var 11000) (.len (.var 0))))
 (.ite (.cmp .eql (.rd (.var 0) (.var 11000) 0) (.rd (.var 11) (.var 9000) 0))
 (.ite (.cmp .lss (.var 11000) (.lit 0))
 (.ret ((.tup [(.one (.z (.bool (.lit false)))), (.one (.z (.int .i64 (.lit 0))))]), [], 12))
 (.ob (.tru (.cmp .leq (.lit 0) (.var 11000)))
 (.ob (.tru (.cmp .lss (.var 11000) (.len (.var 0))))
 (.ite (.cmp .neq (.fn 234 (.i (.rd (.var 0) (.var 11000) 0) (.i (.rd (.var 0) (.var 11000) 1) (.i (.rd (.var 0) (.var 11000) 2) (.i (.rd (.var 0) (.var 11000) 3) (.i (.rd (.var 0) (.var 11000) 4) (.i (.rd (.var 0) (.var 11000) 5) (.i (.rd (.var 0) (.var 11000) 6) (.i (.rd (.var 0) (.var 11000) 7) (.i (.rd (.var 0) (.var 11000) 8) (.i (.rd (.var 0) (.var 11000) 9) (.i (.rd (.var 0) (.var 11000) 10) (.x (.rd (.var 0) (.var 11000) 11) (.x (.rd (.var 0) (.var 11000) 12) .nil)))))))))))))) (.lit 0))
 (.ret ((.tup [(.one (.z (.bool (.lit false)))), (.one (.z (.int .i64 (.lit 0))))]), [], 12))
 (.ob (.tru (.cmp .leq (.lit 0) (.var 9000)))
 (.ob (.tru (.cmp .lss (.var 9000) (.len (.var 12))))
 (.ite (.cmp .neq (.fn 233 (.i (.rd (.var 0) (.var 11000) 0) (.i (.rd (.var 0) (.var 11000) 1) (.i (.rd (.var 0) (.var 11000) 2) (.i (.rd (.var 0) (.var 11000) 3) (.i (.rd (.var 0) (.var 11000) 4) (.i (.rd (.var 0) (.var 11000) 5) (.i (.rd (.var 0) (.var 11000) 6) (.i (.rd (.var 0) (.var 11000) 7) (.i (.rd (.var 0) (.var 11000) 8) (.i (.rd (.var 0) (.var 11000) 9) (.i (.rd (.var 0) (.var 11000) 10) (.x (.rd (.var 0) (.var 11000) 11) (.x (.rd (.var 0) (.var 11000) 12) .nil)))))))))))))) (.rd (.var 12) (.var 9000) 0))
 (.ret ((.tup [(.one (.z (.bool (.lit false)))), (.one (.z (.int .i64 (.lit 0))))]), [], 12))
 (.ob (.tru (.cmp .leq (.lit 0) (.var 11000)))
 (.ob (.tru (.cmp .lss (.var 11000) (.len (.var 0))))
 (.ite (.cmp .neq (.fn 191 (.i (.rd (.var 0) (.var 11000) 0) (.i (.rd (.var 0) (.var 11000) 1) (.i (.rd (.var 0) (.var 11000) 2) (.i (.rd (.var 0) (.var 11000) 3) (.i (.rd (.var 0) (.var 11000) 4) (.i (.rd (.var 0) (.var 11000) 5) (.i (.rd (.var 0) (.var 11000) 6) (.i (.rd (.var 0) (.var 11000) 7) (.i (.rd (.var 0) (.var 11000) 8) (.i (.rd (.var 0) (.var 11000) 9) (.i (.rd (.var 0) (.var 11000) 10) (.x (.rd (.var 0) (.var 11000) 11) (.x (.rd (.var 0) (.var 11000) 12) (.i (.var 1) (.i (.var 2) (.i (.var 3) (.x (.var 4) (.i (.var 9000) (.i (.var 5) (.i (.var 6) (.x (.var 7) (.i (.var 8) (.i (.var 9) (.x (.var 10) .nil))))))))))))))))))))))))) (.lit 0))
 (.ret ((.tup [(.one (.z (.bool (.lit false)))), (.one (.z (.int .i64 (.lit 0))))]), [], 12))
 (.next 1 ⟨[(0, (.ar .add .i64 (.var 9000) (.lit 1)))], [], []⟩)))))))))))
 (.next 2 ⟨[(0, (.ar .add .i64 (.var 11000) (.lit 1)))], [], []⟩))))
 (.ret ((.tup [(.one (.z (.bool (.lit false)))), (.one (.z (.int .i64 (.lit 0))))]), [], 12))))))
 (.ret ((.tup [(.one (.z (.bool (.lit true)))), (.one (.z (.int .i64 (.lit 0))))]), [], 12)))))))
 (.ret ((.tup [(.one (.z (.bool (.lit false)))), (.one (.z (.int .i64 (.lit 1))))]), [], 8)))
 (.ret ((.tup [(.one (.z (.bool (.lit false)))), (.one (.z (.int .i64 (.lit 1))))]), [], 8)))
 (.ret ((.tup [(.one (.z (.bool (.lit false)))), (.one (.z (.int .i64 (.lit 1))))]), [], 8))))))
def trVerify_h : List (Nat × St) := [
(5, ⟨(List.append [(.v (.one (.z (.ext [(.int .i64), (.int .i64), (.int .i64), (.int .i64), (.int .i64), (.int .i64), (.int .i64), (.int .i64), (.int .i64), (.int .i64), (.int .i64), (.sl [(.int .i64)]), (.sl [(.int .i64), (.int .i64), (.int .i64), (.int .i64), (.int .i64), (.sl [(.int .i64), (.int .i64)]), (.int .i64), (.int .i64), (.sl [(.int .i64), (.int .i64), (.int .i64), (.int .i64), (.int .i64), (.int .i64)])])] (.var 0) false)))), (.v (.one (.z .any))), (.v (.one (.z (.bool (.lit false))))), (.v (.one (.z (.int .i64 (.var 6000))))), (.v (.one (.z .any))), (.v (.one (.z .any))), (.v (.one (.z (.ext [(.int .i64), (.int .i64), (.int .i64), (.int .i64), (.int .i64), (.int .i64), (.int .i64), (.int .i64), (.int .i64), (.int .i64), (.int .i64), (.sl [(.int .i64)]), (.sl [(.int .i64), (.int .i64), (.int .i64), (.int .i64), (.int .i64), (.sl [(.int .i64), (.int .i64)]), (.int .i64), (.int .i64), (.sl [(.int .i64), (.int .i64), (.int .i64), (.int .i64), (.int .i64), (.int .i64)])])] (.var 0) false)))), (.v (.one (.z (.int .i64 (.len (.var 0)))))), (.v (.one (.z (.int .i64 (.var 6001)))))] (List.replicate 18 V.any)), [(4, (.cells 109 [(.z (.int .i64 (.var 1))), (.z (.int .i64 (.var 2))), (.z (.int .i64 (.var 3))), (.z (.ext [(.int .i64), (.int .i64), (.int .i64), (.int .i64), (.int .i64), (.int .i64)] (.var 4) false)), (.z (.int .i64 (.var 5))), (.z (.int .i64 (.var 6))), (.z (.ext [(.int .i64)] (.var 7) false)), (.z (.int .i64 (.var 8))), (.z (.int .i64 (.var 9))), (.z (.ext [(.int .i64), (.int .i64)] (.var 10) false))])), (3, (.cells 40 [(.z (.ext [(.int .i64)] (.var 11) false)), (.z (.ext [(.int .u64)] (.var 12) false))])), (2, (.cells 33 [(.z (.int .i64 (.var 8))), (.z (.int .i64 (.var 9))), (.z (.ext [(.int .i64), (.int .i64)] (.var 10) false))])), (1, (.cells 30 [(.z (.int .i64 (.var 5))), (.z (.int .i64 (.var 6))), (.z (.ext [(.int .i64)] (.var 7) false))])), (0, (.cells 27 [(.z (.int .i64 (.var 1))), (.z (.int .i64 (.var 2))), (.z (.int .i64 (.var 3))), (.z (.ext [(.int .i64), (.int .i64), (.int .i64), (.int .i64), (.int .i64), (.int .i64)] (.var 4) false))]))], 6, []⟩),
(8, ⟨(List.append [(.v (.one (.z (.ext [(.int .i64), (.int .i64), (.int .i64), (.int .i64), (.int .i64), (.int .i64), (.int .i64), (.int .i64), (.int .i64), (.int .i64), (.int .i64), (.sl [(.int .i64)]), (.sl [(.int .i64), (.int .i64), (.int .i64), (.int .i64), (.int .i64), (.sl [(.int .i64), (.int .i64)]), (.int .i64), (.int .i64), (.sl [(.int .i64), (.int .i64), (.int .i64), (.int .i64), (.int .i64), (.int .i64)])])] (.var 0) false)))), (.v (.agg [(.z (.int .i64 (.var 1))), (.z (.int .i64 (.var 2))), (.z (.int .i64 (.var 3))), (.z (.ext [(.int .i64), (.int .i64), (.int .i64), (.int .i64), (.int .i64), (.int .i64)] (.var 4) false))])), (.v (.agg [(.z (.int .i64 (.var 5))), (.z (.int .i64 (.var 6))), (.z (.ext [(.int .i64)] (.var 7) false))])), (.v (.agg [(.z (.int .i64 (.var 8))), (.z (.int .i64 (.var 9))), (.z (.ext [(.int .i64), (.int .i64)] (.var 10) false))])), (.v (.agg [(.z (.ext [(.int .i64)] (.var 11) false)), (.z (.ext [(.int .u64)] (.var 12) false))])), (.v (.one (.z .any))), (.v (.one (.z (.ptr 0 0)))), (.v (.one (.z (.ptr 1 0)))), (.v (.one (.z (.ptr 2 0)))), (.v (.one (.z (.ptr 3 0)))), (.v (.one (.z (.bool (.lit false))))), (.v (.one (.z (.int .i64 (.lit 0))))), (.v (.one (.z (.ptr 4 0))))] (List.append (List.replicate 7 V.any) (List.append [(.v (.agg [(.z (.int .i64 (.var 1))), (.z (.int .i64 (.var 2))), (.z (.int .i64 (.var 3))), (.z (.ext [(.int .i64), (.int .i64), (.int .i64), (.int .i64), (.int .i64), (.int .i64)] (.var 4) false))])), (.v (.agg [(.z (.int .i64 (.var 5))), (.z (.int .i64 (.var 6))), (.z (.ext [(.int .i64)] (.var 7) false))])), (.v (.agg [(.z (.int .i64 (.var 8))), (.z (.int .i64 (.var 9))), (.z (.ext [(.int .i64), (.int .i64)] (.var 10) false))])), (.v (.agg [(.z (.int .i64 (.var 1))), (.z (.int .i64 (.var 2))), (.z (.int .i64 (.var 3))), (.z (.ext [(.int .i64), (.int .i64), (.int .i64), (.int .i64), (.int .i64), (.int .i64)] (.var 4) false)), (.z (.int .i64 (.var 5))), (.z (.int .i64 (.var 6))), (.z (.ext [(.int .i64)] (.var 7) false)), (.z (.int .i64 (.var 8))), (.z (.int .i64 (.var 9))), (.z (.ext [(.int .i64), (.int .i64)] (.var 10) false))])), (.v (.one (.z (.ext [(.int .i64), (.int .i64), (.int .i64), (.int .i64), (.int .i64), (.int .i64), (.int .i64), (.int .i64), (.int .i64), (.int .i64), (.int .i64), (.sl [(.int .i64)]), (.sl [(.int .i64), (.int .i64), (.int .i64), (.int .i64), (.int .i64), (.sl [(.int .i64), (.int .i64)]), (.int .i64), (.int .i64), (.sl [(.int .i64), (.int .i64), (.int .i64), (.int .i64), (.int .i64), (.int .i64)])])] (.var 0) false)))), (.v (.one (.z (.bool (.cmp .leq (.len (.var 0)) (.lit 20)))))), (.v (.one (.z (.bool (.not (.cmp .leq (.len (.var 0)) (.lit 20))))))), (.v (.one (.z (.bool (.lit false))))), (.v (.agg [(.z (.int .i64 (.var 1))), (.z (.int .i64 (.var 2))), (.z (.int .i64 (.var 3))), (.z (.ext [(.int .i64), (.int .i64), (.int .i64), (.int .i64), (.int .i64), (.int .i64)] (.var 4) false)), (.z (.int .i64 (.var 5))), (.z (.int .i64 (.var 6))), (.z (.ext [(.int .i64)] (.var 7) false)), (.z (.int .i64 (.var 8))), (.z (.int .i64 (.var 9))), (.z (.ext [(.int .i64), (.int .i64)] (.var 10) false))])), (.v (.one (.z (.bool (.fn 150 (.i (.var 8) (.i (.var 9) (.x (.var 10) .nil)))))))), (.v (.one (.z (.bool (.not (.fn 150 (.i (.var 8) (.i (.var 9) (.x (.var 10) .nil))))))))), (.v (.one (.z (.bool (.not (.fn 150 (.i (.var 8) (.i (.var 9) (.x (.var 10) .nil))))))))), (.v (.one (.z (.ptr 3 0)))), (.v (.one (.z (.ext [(.int .i64)] (.var 11) false)))), (.v (.one (.z (.int .i64 (.len (.var 11)))))), (.v (.one (.z (.ptr 0 3)))), (.v (.one (.z (.ext [(.int .i64), (.int .i64), (.int .i64), (.int .i64), (.int .i64), (.int .i64)] (.var 4) false)))), (.v (.one (.z (.int .i64 (.len (.var 4)))))), (.v (.one (.z (.bool (.cmp .neq (.len (.var 11)) (.len (.var 4))))))), (.v (.one (.z (.bool (.lit false))))), (.v (.one (.z (.ptr 3 1)))), (.v (.one (.z (.ext [(.int .u64)] (.var 12) false)))), (.v (.one (.z (.int .i64 (.len (.var 12)))))), (.v (.one (.z (.ptr 0 3)))), (.v (.one (.z (.ext [(.int .i64), (.int .i64), (.int .i64), (.int .i64), (.int .i64), (.int .i64)] (.var 4) false)))), (.v (.one (.z (.int .i64 (.len (.var 4)))))), (.v (.one (.z (.bool (.cmp .neq (.len (.var 12)) (.len (.var 4))))))), (.v (.one (.z (.bool (.cmp .neq (.len (.var 12)) (.len (.var 4))))))), (.v (.one (.z (.ptr 3 0)))), (.v (.one (.z (.ext [(.int .i64)] (.var 11) false)))), (.v (.one (.z (.int .i64 (.len (.var 11)))))), (.v (.one (.z (.int .i64 (.var 9000)))))] (List.replicate 43 V.any)))), [(4, (.cells 109 [(.z (.int .i64 (.var 1))), (.z (.int .i64 (.var 2))), (.z (.int .i64 (.var 3))), (.z (.ext [(.int .i64), (.int .i64), (.int .i64), (.int .i64), (.int .i64), (.int .i64)] (.var 4) false)), (.z (.int .i64 (.var 5))), (.z (.int .i64 (.var 6))), (.z (.ext [(.int .i64)] (.var 7) false)), (.z (.int .i64 (.var 8))), (.z (.int .i64 (.var 9))), (.z (.ext [(.int .i64), (.int .i64)] (.var 10) false))])), (3, (.cells 40 [(.z (.ext [(.int .i64)] (.var 11) false)), (.z (.ext [(.int .u64)] (.var 12) false))])), (2, (.cells 33 [(.z (.int .i64 (.var 8))), (.z (.int .i64 (.var 9))), (.z (.ext [(.int .i64), (.int .i64)] (.var 10) false))])), (1, (.cells 30 [(.z (.int .i64 (.var 5))), (.z (.int .i64 (.var 6))), (.z (.ext [(.int .i64)] (.var 7) false))])), (0, (.cells 27 [(.z (.int .i64 (.var 1))), (.z (.int .i64 (.var 2))), (.z (.int .i64 (.var 3))), (.z (.ext [(.int .i64), (.int .i64), (.int .i64), (.int .i64), (.int .i64), (.int .i64)] (.var 4) false))]))], 9, []⟩),
(10, ⟨(List.append [(.v (.one (.z (.ext [(.int .i64), (.int .i64), (.int .i64), (.int .i64), (.int .i64), (.int .i64), (.int .i64), (.int .i64), (.int .i64), (.int .i64), (.int .i64), (.sl [(.int .i64)]), (.sl [(.int .i64), (.int .i64), (.int .i64), (.int .i64), (.int .i64), (.sl [(.int .i64), (.int .i64)]), (.int .i64), (.int .i64), (.sl [(.int .i64), (.int .i64), (.int .i64), (.int .i64), (.int .i64), (.int .i64)])])] (.var 0) false)))), (.v (.one (.z (.clo 46 [(9, 0)])))), (.v (.one (.z .any))), (.v (.one (.z .any))), (.v (.one (.z (.int .i64 (.lit 0))))), (.v (.one (.z .any))), (.v (.one (.z (.ext [(.int .i64), (.int .i64), (.int .i64), (.int .i64), (.int .i64), (.int .i64), (.int .i64), (.int .i64), (.int .i64), (.int .i64), (.int .i64), (.sl [(.int .i64)]), (.sl [(.int .i64), (.int .i64), (.int .i64), (.int .i64), (.int .i64), (.sl [(.int .i64), (.int .i64)]), (.int .i64), (.int .i64), (.sl [(.int .i64), (.int .i64), (.int .i64), (.int .i64), (.int .i64), (.int .i64)])])] (.var 0) false)))), (.v (.one (.z (.int .i64 (.len (.var 0)))))), (.v (.one (.z (.int .i64 (.var 11000)))))] (List.replicate 10 V.any)), [(9, (.cells 3 [(.z (.int .i64 (.rd (.var 11) (.var 9000) 0)))])), (4, (.cells 109 [(.z (.int .i64 (.var 1))), (.z (.int .i64 (.var 2))), (.z (.int .i64 (.var 3))), (.z (.ext [(.int .i64), (.int .i64), (.int .i64), (.int .i64), (.int .i64), (.int .i64)] (.var 4) false)), (.z (.int .i64 (.var 5))), (.z (.int .i64 (.var 6))), (.z (.ext [(.int .i64)] (.var 7) false)), (.z (.int .i64 (.var 8))), (.z (.int .i64 (.var 9))), (.z (.ext [(.int .i64), (.int .i64)] (.var 10) false))])), (3, (.cells 40 [(.z (.ext [(.int .i64)] (.var 11) false)), (.z (.ext [(.int .u64)] (.var 12) false))])), (2, (.cells 33 [(.z (.int .i64 (.var 8))), (.z (.int .i64 (.var 9))), (.z (.ext [(.int .i64), (.int .i64)] (.var 10) false))])), (1, (.cells 30 [(.z (.int .i64 (.var 5))), (.z (.int .i64 (.var 6))), (.z (.ext [(.int .i64)] (.var 7) false))])), (0, (.cells 27 [(.z (.int .i64 (.var 1))), (.z (.int .i64 (.var 2))), (.z (.int .i64 (.var 3))), (.z (.ext [(.int .i64), (.int .i64), (.int .i64), (.int .i64), (.int .i64), (.int .i64)] (.var 4) false))]))], 11, []⟩)]
def trVerify_j : List (FuncId × Nat × Nat × St) := [
]
set_option maxRecDepth 100000 in
theorem trVerify_is : T.norm 0 (call Tryz.prog ctO3 ⟨Lt.un (Lt.of []), trVerify_h, trVerify_j⟩ 1000 15 (symArgs 0 [shes, psg, shp, tid, certS]) [] 0) TT.ret = trVerify := by kernel_rfl
theorem trVerify_low : trVerify.low 1000 = true := by kernel_rfl
end Go.Proofs.YtkjjkckcjgkhmaaGreat
/- Chapter 40: what Make and Verify answer. -/
namespace Go.Proofs.YtkjjkckcjgkhmaaGreat
open Go.RowKit
def mkO (ds : List D) : Bool := shsB (rAt ds 0) && (psgB (iAt ds 1) (iAt ds 2) (iAt ds 3) (rAt ds 4) && (decide (0 < (rAt ds 4).length) && (kevB (iAt ds 5) (iAt ds 6) (rAt ds 7) && tideB (iAt ds 8) (iAt ds 9) (rAt ds 10))))
def mkD (ds : List D) (k : Nat) : List D := [.l (rAt ds 0), .i (iAt ds 1), .i (iAt ds 2), .i (iAt ds 3), .l (rAt ds 4), .i k, .i (iAt ds 5), .i (iAt ds 6), .l (rAt ds 7), .i (iAt ds 8), .i (iAt ds 9), .l (rAt ds 10)]
def fq (ds : List D) (k : Nat) : List D := [.i (iAt ds 1), .i (iAt ds 2), .i (iAt ds 3), .l (rAt ds 4), .i (iAt ds 5), .i (iAt ds 6), .l (rAt ds 7), .i (iAt ds 8), .i (iAt ds 9), .l (rAt ds 10), .l (rAt ds 0), .i k]
def shF (ds : List D) (k : Nat) : List D := [.i (fiJ (.i 0 :: fq ds k)), .i (fiJ (.i 1 :: fq ds k)), .i (fiJ (.i 2 :: fq ds k)), .i (fiJ (.i 3 :: fq ds k)), .i (fiJ (.i 4 :: fq ds k)), .i (fiJ (.i 5 :: fq ds k)), .i (fiJ (.i 6 :: fq ds k)), .i (fiJ (.i 7 :: fq ds k)), .i (fiJ (.i 8 :: fq ds k)), .i (fiJ (.i 9 :: fq ds k)), .i (fiJ (.i 10 :: fq ds k)), .l (fiX (fq ds k)), .l (fiY (fq ds k))]
theorem fin_has {ds : List D} : ∀ i, finN ds i = -1 ∨ ∃ j : Nat, finN ds i = j ∧ j < i ∧ (legE (rowLeg ds j) = 0 ∨ legE (rowLeg ds j) = 20)
  | 0 => .inl rfl
  | i + 1 => by
    rw [finN]
    by_cases h : (legE (rowLeg ds i) = 0 ∨ legE (rowLeg ds i) = 20) ∧ (if finN ds i < 0 then 0 else lg (rAt ds 0) (finN ds i) 1) < lg (rAt ds 0) i 1
    · rw [if_pos h]
      exact .inr ⟨i, rfl, by omega, h.1⟩
    · rw [if_neg h]
      rcases fin_has (ds := ds) i with h | ⟨j, h1, h2, h3⟩
      · exact .inl h
      · exact .inr ⟨j, h1, by omega, h3⟩
theorem shF_row {ds : List D} {k : Nat} (h : fiE (fq ds k) = 0) : ∃ j : Nat, j < (rAt ds 0).length ∧ finN (mkD ds k) (rAt ds 0).length = j ∧ legE (rowLeg (mkD ds k) j) = 0 ∧ shF ds k = rowSh (rAt ds 0) j := by
  have h : finE (mkD ds k) (rAt ds 0).length = 0 := h
  rcases fin_has (ds := mkD ds k) (rAt ds 0).length with e | ⟨j, e, h2, _⟩
  · unfold finE at h
    rw [if_pos (by omega)] at h
    exact absurd h (by decide)
  · have hl : legE (rowLeg (mkD ds k) j) = 0 := by
      unfold finE at h
      rwa [if_neg (by omega), e, Int.toNat_natCast] at h
    refine ⟨j, h2, e, hl, ?_⟩
    have eJ : ∀ c : Nat, fiJ (.i c :: fq ds k) = lg (rAt ds 0) j c := fun c => by
      show finJ (mkD ds k) (rAt ds 0).length (c : Int).toNat = _
      unfold finJ
      rw [if_neg (by omega), e, Int.toNat_natCast]; rfl
    have eX : ∀ c : Nat, finX (mkD ds k) (rAt ds 0).length c = lr (rAt ds 0) j c := fun c => by
      unfold finX
      rw [if_neg (by omega), e]; rfl
    have e11 : fiX (fq ds k) = lr (rAt ds 0) j 11 := eX 11
    have e12 : fiY (fq ds k) = lr (rAt ds 0) j 12 := eX 12
    have a0 := eJ 0
    have a1 := eJ 1
    have a2 := eJ 2
    have a3 := eJ 3
    have a4 := eJ 4
    have a5 := eJ 5
    have a6 := eJ 6
    have a7 := eJ 7
    have a8 := eJ 8
    have a9 := eJ 9
    have a10 := eJ 10
    unfold shF rowSh
    rw [e11, e12]
    simp only [show (D.i 0) = D.i ((0 : Nat) : Int) from rfl, show (D.i 1) = D.i ((1 : Nat) : Int) from rfl, show (D.i 2) = D.i ((2 : Nat) : Int) from rfl, show (D.i 3) = D.i ((3 : Nat) : Int) from rfl, show (D.i 4) = D.i ((4 : Nat) : Int) from rfl, show (D.i 5) = D.i ((5 : Nat) : Int) from rfl, show (D.i 6) = D.i ((6 : Nat) : Int) from rfl, show (D.i 7) = D.i ((7 : Nat) : Int) from rfl, show (D.i 8) = D.i ((8 : Nat) : Int) from rfl, show (D.i 9) = D.i ((9 : Nat) : Int) from rfl, show (D.i 10) = D.i ((10 : Nat) : Int) from rfl, a0, a1, a2, a3, a4, a5, a6, a7, a8, a9, a10]
theorem shs_rows {r : Rows} : ∀ (f i : Nat) (last : Int), shsN r f i last = true → ∀ k : Nat, i ≤ k → k < i + f → sheetL (rowSh r k) = true
  | 0, i, last, _, k, h1, h2 => by omega
  | f + 1, i, last, h, k, h1, h2 => by
    simp only [shsN, Bool.and_eq_true, decide_eq_true_eq] at h
    by_cases e : k = i
    · subst e; exact h.1.1
    · exact shs_rows f (i + 1) _ h.2 k (by omega) (by omega)
def mkF (ds : List D) : Nat → Nat → Nat
  | 0, k => k
  | f + 1, k => if fiE (fq ds k) = 0 then mkF ds f (k + 1) else k
def mkS (ds : List D) : Nat := mkF ds (rAt ds 4).length 0
theorem mkF_spec {ds : List D} : ∀ f k, k ≤ mkF ds f k ∧ mkF ds f k ≤ k + f ∧ (∀ l, k ≤ l → l < mkF ds f k → fiE (fq ds l) = 0) ∧ (mkF ds f k < k + f → fiE (fq ds (mkF ds f k)) ≠ 0)
  | 0, k => ⟨Nat.le_refl _, Nat.le_refl _, fun l h1 h2 => by simp only [mkF] at h2; omega, fun h => by simp only [mkF] at h; omega⟩
  | f + 1, k => by
    rw [mkF]
    by_cases h : fiE (fq ds k) = 0
    · rw [if_pos h]
      obtain ⟨a, b, c, d⟩ := mkF_spec (ds := ds) f (k + 1)
      refine ⟨by omega, by omega, fun l h1 h2 => ?_, fun q => d (by omega)⟩
      by_cases e : l = k
      · subst e; exact h
      · exact c l (by omega) h2
    · rw [if_neg h]
      exact ⟨Nat.le_refl _, by omega, fun l h1 h2 => by omega, fun _ => h⟩
def mkK (ds : List D) : Int := if mkO ds then (if mkS ds < (rAt ds 4).length then mkS ds else -1) else 0
def mkI (ds : List D) : Int := if mkO ds then (if mkS ds < (rAt ds 4).length then fiI (fq ds (mkS ds)) else 0) else 0
def mkE (ds : List D) : Int := if mkO ds then (if mkS ds < (rAt ds 4).length then fiE (fq ds (mkS ds)) else 0) else 1
def chN (ds : List D) : Nat → Rows
  | 0 => []
  | k + 1 => chN ds k ++ [[.i (fiJ (.i 0 :: fq ds k))]]
def diN (ds : List D) : Nat → Rows
  | 0 => []
  | k + 1 => diN ds k ++ [[.i (digI (shF ds k))]]
def mkC (ds : List D) : Rows := if mkE ds = 0 then chN ds (rAt ds 4).length else []
def mkDi (ds : List D) : Rows := if mkE ds = 0 then diN ds (rAt ds 4).length else []
theorem chN_len {ds : List D} : ∀ k, (chN ds k).length = k
  | 0 => rfl
  | k + 1 => by rw [chN, List.length_append, chN_len k]; rfl
theorem diN_len {ds : List D} : ∀ k, (diN ds k).length = k
  | 0 => rfl
  | k + 1 => by rw [diN, List.length_append, diN_len k]; rfl
theorem mkS_le (ds : List D) : mkS ds ≤ (rAt ds 4).length := by have := (mkF_spec (ds := ds) (rAt ds 4).length 0).2.1; unfold mkS; omega
theorem mk_stop {ds : List D} (hO : mkO ds = true) {k : Nat} (hk : k < (rAt ds 4).length) (h : ∀ l, l < k → fiE (fq ds l) = 0) (h2 : fiE (fq ds k) ≠ 0) : mkK ds = k ∧ mkI ds = fiI (fq ds k) ∧ mkE ds = fiE (fq ds k) ∧ mkC ds = [] ∧ mkDi ds = [] := by
  have e : mkS ds = k := by
    obtain ⟨a, b, c, d⟩ := mkF_spec (ds := ds) (rAt ds 4).length 0
    have le : mkS ds ≤ k := by
      rcases Nat.lt_or_ge k (mkS ds) with q | q
      · exact absurd (c k (Nat.zero_le _) q) h2
      · exact q
    rcases Nat.lt_or_ge (mkS ds) k with q | q
    · exact absurd (h _ q) (d (by unfold mkS at q; omega))
    · omega
  have eE : mkE ds = fiE (fq ds k) := by unfold mkE; rw [hO, if_pos rfl, e, if_pos hk]
  refine ⟨by unfold mkK; rw [hO, if_pos rfl, e, if_pos hk], by unfold mkI; rw [hO, if_pos rfl, e, if_pos hk], eE, ?_, ?_⟩
  · unfold mkC; rw [eE, if_neg h2]
  · unfold mkDi; rw [eE, if_neg h2]
theorem mk_all {ds : List D} (hO : mkO ds = true) (h : ∀ l, l < (rAt ds 4).length → fiE (fq ds l) = 0) : mkK ds = -1 ∧ mkI ds = 0 ∧ mkE ds = 0 ∧ mkC ds = chN ds (rAt ds 4).length ∧ mkDi ds = diN ds (rAt ds 4).length := by
  have e : ¬ mkS ds < (rAt ds 4).length := fun q => by
    obtain ⟨a, b, c, d⟩ := mkF_spec (ds := ds) (rAt ds 4).length 0
    exact d (by unfold mkS at q; omega) (h _ q)
  have eE : mkE ds = 0 := by unfold mkE; rw [hO, if_pos rfl, if_neg e]
  exact ⟨by unfold mkK; rw [hO, if_pos rfl, if_neg e], by unfold mkI; rw [hO, if_pos rfl, if_neg e], eE, by unfold mkC; rw [if_pos eE], by unfold mkDi; rw [if_pos eE]⟩
theorem mk_arg {ds : List D} (hO : mkO ds = false) : mkK ds = 0 ∧ mkI ds = 0 ∧ mkE ds = 1 ∧ mkC ds = [] ∧ mkDi ds = [] := by
  have eE : mkE ds = 1 := by unfold mkE; rw [hO, if_neg (by decide)]
  exact ⟨by unfold mkK; rw [hO, if_neg (by decide)], by unfold mkI; rw [hO, if_neg (by decide)], eE, by unfold mkC; rw [eE, if_neg (by decide)], by unfold mkDi; rw [eE, if_neg (by decide)]⟩
def nlCh : NL := ⟨3, [.int .i64], 4, mkC⟩
def nlDi : NL := ⟨68, [.int .u64], 5, mkDi⟩
def mkRes (_w0 : World) (ds : List D) (vs : List Value) (u : Value) : Prop := ∃ a b, vs = [a, b] ∧ u = .tuple #[.agg #[a, b], .int .i64 (mkK ds), .int .i64 (mkI ds), .int .i64 (mkE ds)]
theorem cert_den {ρ : Env} {σ : As} {s1 s2 : S0} {k i e : E} {u : Value} (h : V.den ρ σ (.tup [.agg [.z s1, .z s2], .one (.z (.int .i64 k)), .one (.z (.int .i64 i)), .one (.z (.int .i64 e))]) u) :
    ∃ v1 v2, S0.den ρ σ s1 v1 ∧ S0.den ρ σ s2 v2 ∧ u = .tuple #[.agg #[v1, v2], .int .i64 (k.ev ρ), .int .i64 (i.ev ρ), .int .i64 (e.ev ρ)] := by
  obtain ⟨vs, h, rfl⟩ := h
  obtain ⟨w1, vs, rfl, h1, h⟩ := DL.cons_inv h
  obtain ⟨w2, vs, rfl, h2, h⟩ := DL.cons_inv h
  obtain ⟨w3, vs, rfl, h3, h⟩ := DL.cons_inv h
  obtain ⟨w4, vs, rfl, h4, h⟩ := DL.cons_inv h
  obtain rfl := DL.nil_inv h
  obtain rfl : w2 = .int .i64 (k.ev ρ) := h2
  obtain rfl : w3 = .int .i64 (i.ev ρ) := h3
  obtain rfl : w4 = .int .i64 (e.ev ρ) := h4
  obtain ⟨us, h1, rfl⟩ := h1
  obtain ⟨v1, us, rfl, g1, h1⟩ := DL.cons_inv h1
  obtain ⟨v2, us, rfl, g2, h1⟩ := DL.cons_inv h1
  obtain rfl := DL.nil_inv h1
  exact ⟨v1, v2, g1, g2, rfl⟩
theorem mk_end {ρ : Env} {w0 : World} {ds : List D} {s1 s2 : S0} {k i e : E} {m : Mem} {n : Nat} {x1 x2 : X} (h1 : lrows m 3 [.int .i64] s1 = some x1) (e1 : x1.ev ρ = mkC ds) (h2 : lrows m 68 [.int .u64] s2 = some x2) (e2 : x2.ev ρ = mkDi ds)
    (hne : ∀ id v v', s1 = .own id v → s2 = .own id v' → False) (hk : k.ev ρ = mkK ds) (hi : i.ev ρ = mkI ds) (he : e.ev ρ = mkE ds) :
    ∃ ss, LsAre ρ ((.tup [.agg [.z s1, .z s2], .one (.z (.int .i64 k)), .one (.z (.int .i64 i)), .one (.z (.int .i64 e))]), m, n) [nlCh, nlDi] ds ss ∧ ∀ (σ : As) u, ρ.w = w0 → V.den ρ σ (.tup [.agg [.z s1, .z s2], .one (.z (.int .i64 k)), .one (.z (.int .i64 i)), .one (.z (.int .i64 e))]) u → ∃ vs, DL (S0.den ρ σ) ss vs ∧ mkRes w0 ds vs u := by
  refine ⟨[s1, s2], lsAre_two (l1 := nlCh) (l2 := nlDi) h1 e1 h2 e2 hne, fun σ u _ hu => ?_⟩
  obtain ⟨v1, v2, g1, g2, rfl⟩ := cert_den hu
  rw [hk, hi, he]
  exact ⟨[v1, v2], ⟨g1, g2, trivial⟩, v1, v2, rfl, rfl⟩
theorem mk_nil {ρ : Env} {w0 : World} {ds : List D} {k i e : E} {n : Nat} (hc : mkC ds = []) (hd : mkDi ds = []) (hk : k.ev ρ = mkK ds) (hi : i.ev ρ = mkI ds) (he : e.ev ρ = mkE ds) :
    ∃ ss, LsAre ρ ((.tup [.agg [.z (.const (.slice none 0 0)), .z (.const (.slice none 0 0))], .one (.z (.int .i64 k)), .one (.z (.int .i64 i)), .one (.z (.int .i64 e))]), [], n) [nlCh, nlDi] ds ss ∧ ∀ (σ : As) u, ρ.w = w0 → V.den ρ σ (.tup [.agg [.z (.const (.slice none 0 0)), .z (.const (.slice none 0 0))], .one (.z (.int .i64 k)), .one (.z (.int .i64 i)), .one (.z (.int .i64 e))]) u → ∃ vs, DL (S0.den ρ σ) ss vs ∧ mkRes w0 ds vs u :=
  mk_end (x1 := .nil) (x2 := .nil) rfl (by rw [hc]; rfl) rfl (by rw [hd]; rfl) (fun id v v' h => by cases h) hk hi he
theorem N9cb151 (W : World) (ds l : List D) : (envOf N9c W ds).fb 151 l = sheetL l := by simp only [envOf, N9c, N9b, N9, N8, N7, N6, N5, N4, N3, N2, N1, KG, KF, KE, KD, KC, KB, KA, K9, K8, K7, K6, K5, K]
theorem N9cb20 (W : World) (ds l : List D) : (envOf N9c W ds).fb 20 l = psgL l := by simp only [envOf, N9c, N9b, N9, N8, N7, N6, N5, N4, N3, N2, N1, KG, KF, KE, KD, KC, KB, KA, K9, K8, K7, K6, K5, K]
theorem N9cb144 (W : World) (ds l : List D) : (envOf N9c W ds).fb 144 l = kevL l := by simp only [envOf, N9c, N9b, N9, N8, N7, N6, N5, N4, N3, N2, N1, KG, KF, KE, KD, KC, KB, KA, K9, K8, K7, K6, K5, K]
theorem N9cb150 (W : World) (ds l : List D) : (envOf N9c W ds).fb 150 l = tideL l := by simp only [envOf, N9c, N9b, N9, N8, N7, N6, N5, N4, N3, N2, N1, KG, KF, KE, KD, KC, KB, KA, K9, K8, K7, K6, K5, K]
theorem N9ci190 (W : World) (ds l : List D) : (envOf N9c W ds).fi 190 l = legR l := by simp only [envOf, N9c, N9b, N9, N8, N7, N6, N5, N4, N3, N2, N1, KG, KF, KE, KD, KC, KB, KA, K9, K8, K7, K6, K5, K]
theorem N9ci191 (W : World) (ds l : List D) : (envOf N9c W ds).fi 191 l = legE l := by simp only [envOf, N9c, N9b, N9, N8, N7, N6, N5, N4, N3, N2, N1, KG, KF, KE, KD, KC, KB, KA, K9, K8, K7, K6, K5, K]
theorem N9ci230 (W : World) (ds l : List D) : (envOf N9c W ds).fi 230 l = fiJ l := by simp only [envOf, N9c, N9b, N9, N8, N7, N6, N5, N4, N3, N2, N1, KG, KF, KE, KD, KC, KB, KA, K9, K8, K7, K6, K5, K]
theorem N9ci231 (W : World) (ds l : List D) : (envOf N9c W ds).fi 231 l = fiI l := by simp only [envOf, N9c, N9b, N9, N8, N7, N6, N5, N4, N3, N2, N1, KG, KF, KE, KD, KC, KB, KA, K9, K8, K7, K6, K5, K]
theorem N9ci232 (W : World) (ds l : List D) : (envOf N9c W ds).fi 232 l = fiE l := by simp only [envOf, N9c, N9b, N9, N8, N7, N6, N5, N4, N3, N2, N1, KG, KF, KE, KD, KC, KB, KA, K9, K8, K7, K6, K5, K]
theorem N9ci233 (W : World) (ds l : List D) : (envOf N9c W ds).fi 233 l = digI l := by simp only [envOf, N9c, N9b, N9, N8, N7, N6, N5, N4, N3, N2, N1, KG, KF, KE, KD, KC, KB, KA, K9, K8, K7, K6, K5, K]
theorem N9ci234 (W : World) (ds l : List D) : (envOf N9c W ds).fi 234 l = digE l := by simp only [envOf, N9c, N9b, N9, N8, N7, N6, N5, N4, N3, N2, N1, KG, KF, KE, KD, KC, KB, KA, K9, K8, K7, K6, K5, K]
theorem N9cd2 (W : World) (ds l : List D) : (envOf N9c W ds).fd 2 l = fiX l := by simp only [envOf, N9c, N9b, N9, N8, N7, N6, N5, N4, N3, N2, N1, KG, KF, KE, KD, KC, KB, KA, K9, K8, K7, K6, K5, K]
theorem N9cd3 (W : World) (ds l : List D) : (envOf N9c W ds).fd 3 l = fiY l := by simp only [envOf, N9c, N9b, N9, N8, N7, N6, N5, N4, N3, N2, N1, KG, KF, KE, KD, KC, KB, KA, K9, K8, K7, K6, K5, K]
set_option maxHeartbeats 2000000 in
theorem gMake : GivesN Tryz.prog 14 [shes, psg, shp, tid] [nlCh, nlDi] (fun _ => True) mkRes := by
  refine fn_givesN N9c (by kernel_rfl) (fun ρ h => ctO3_ok (Sees.of h 240) (SeesD.of h 4)) (by kernel_rfl) trMake_is trMake_low (by decide) (fun w0 vals ds hr _ => ?_)
  have hlen := shes_len hr
  simp only [trMake, TT.sat_ret, TT.sat_ite, TT.sat_ob, TT.sat_next, TT.sat_stuck, put_i, put_b, put_d, put_fi, put_fb, put_fd, Ob.ok, B.ev, E.ev, X.ev, AL.ev, cmp_t, cmp_f, arEv, V.plain, V2.plain, S.plain, S0.plain, V.val, V2.val, S.val, S0.val, bV, iV, List.all_cons, List.all_nil, Bool.and_true, Bool.and_self, envOf_i, envOf_b, envOf_d, List.map_cons, List.map_nil, true_and, Bool.not_eq_true', Bool.not_eq_false', Bool.not_not, Bool.and_eq_true, and_f, cell_lg, cell_lb, cell_lr, cmpP, val_i, val_b, val_d, aget, Nat.reduceBEq, beq_self_eq_true, Bool.false_eq_true, if_true, if_false, Nat.reduceLT, Nat.reduceSub, Nat.sub_self, Nat.lt_irrefl]
  clear hr
  have Z : ∀ {ρ : Env} {n : Nat}, mkO ds = false → ∃ ss, LsAre ρ ((.tup [.agg [.z (.const (.slice none 0 0)), .z (.const (.slice none 0 0))], .one (.z (.int .i64 (.lit 0))), .one (.z (.int .i64 (.lit 0))), .one (.z (.int .i64 (.lit 1)))]), [], n) [nlCh, nlDi] ds ss ∧ ∀ (σ : As) u, ρ.w = w0 → V.den ρ σ (.tup [.agg [.z (.const (.slice none 0 0)), .z (.const (.slice none 0 0))], .one (.z (.int .i64 (.lit 0))), .one (.z (.int .i64 (.lit 0))), .one (.z (.int .i64 (.lit 1)))]) u → ∃ vs, DL (S0.den ρ σ) ss vs ∧ mkRes w0 ds vs u := fun h => by
    obtain ⟨a, b, c, d, e⟩ := mk_arg h
    exact mk_nil d e (by rw [a]; rfl) (by rw [b]; rfl) (by rw [c]; rfl)
  refine TT.sat_loop (fun v => ∃ i : Nat, v.i 1 = i ∧ i ≤ (rAt ds 0).length ∧ shsN (rAt ds 0) ((rAt ds 0).length - i) i (v.i 0) = shsN (rAt ds 0) (rAt ds 0).length 0 0) (fun v => (rAt ds 0).length - (v.i 1).toNat) ⟨0, by simp [val_i, aget, E.ev], by omega, rfl⟩ (fun v hv => ?_)
  obtain ⟨i, i0, i1, i2⟩ := hv
  have eS : [D.i (lg (rAt ds 0) i 0), .i (lg (rAt ds 0) i 1), .i (lg (rAt ds 0) i 2), .i (lg (rAt ds 0) i 3), .i (lg (rAt ds 0) i 4), .i (lg (rAt ds 0) i 5), .i (lg (rAt ds 0) i 6), .i (lg (rAt ds 0) i 7), .i (lg (rAt ds 0) i 8), .i (lg (rAt ds 0) i 9), .i (lg (rAt ds 0) i 10), .l (lr (rAt ds 0) i 11), .l (lr (rAt ds 0) i 12)] = rowSh (rAt ds 0) i := rfl
  simp only [TT.sat_ret, TT.sat_ite, TT.sat_ob, TT.sat_next, TT.sat_stuck, put_i, put_b, put_d, put_fi, put_fb, put_fd, Ob.ok, B.ev, E.ev, X.ev, AL.ev, cmp_t, cmp_f, arEv, V.plain, V2.plain, S.plain, S0.plain, V.val, V2.val, S.val, S0.val, bV, iV, List.all_cons, List.all_nil, Bool.and_true, Bool.and_self, envOf_i, envOf_b, envOf_d, List.map_cons, List.map_nil, true_and, Bool.not_eq_true', Bool.not_eq_false', Bool.not_not, Bool.and_eq_true, and_f, cell_lg, cell_lb, cell_lr, cmpP, val_i, val_b, val_d, aget, Nat.reduceBEq, beq_self_eq_true, Bool.false_eq_true, if_true, if_false, Nat.reduceLT, Nat.reduceSub, Nat.sub_self, Nat.lt_irrefl, i0, N9cb151, N9cb20, N9cb144, N9cb150, psg_four, kev_3, tide_31, eS]
  have Z1 : shsN (rAt ds 0) (rAt ds 0).length 0 0 = false → mkO ds = false := fun h => by unfold mkO shsB; rw [h]; rfl
  refine ⟨fun hc => ?_, fun hc => ?_⟩
  · obtain ⟨f, hf⟩ : ∃ f, (rAt ds 0).length - i = f + 1 := ⟨(rAt ds 0).length - i - 1, by omega⟩
    have hf' : (rAt ds 0).length - (i + 1) = f := by omega
    rw [hf, shsN] at i2
    rw [wrap_in ((i : Int) + 1) (by omega) (by omega)]
    refine ⟨by omega, hc, fun h => Z (Z1 ?_), fun h => ⟨fun g => Z (Z1 ?_), fun g => ⟨⟨i + 1, rfl, by omega, ?_⟩, by omega⟩⟩⟩
    · rw [← i2, h]; rfl
    · rw [← i2, decide_eq_false (by omega), Bool.and_false, Bool.false_and]
    · rw [hf', ← i2, h, decide_eq_true (by omega)]; rfl
  have h0 : (rAt ds 0).length - i = 0 := by omega
  rw [h0, shsN] at i2
  clear h0 hc i0 i1 eS
  have hO : mkO ds = ((true && decide ((rAt ds 0).length ≤ 20)) && (psgB (iAt ds 1) (iAt ds 2) (iAt ds 3) (rAt ds 4) && (decide (0 < (rAt ds 4).length) && (kevB (iAt ds 5) (iAt ds 6) (rAt ds 7) && tideB (iAt ds 8) (iAt ds 9) (rAt ds 10))))) := by
    unfold mkO shsB; rw [← i2]
  refine ⟨fun h => Z ?_, fun h => ⟨fun p => ⟨fun k0 => ⟨fun q => ⟨fun t => Z ?_, fun t => ?_⟩, fun q => Z ?_⟩, fun k0 => Z ?_⟩, fun p => Z ?_⟩⟩
  · rw [hO, decide_eq_false (p := (rAt ds 0).length ≤ 20) (by omega)]; rfl
  · rw [hO, t]; simp
  rotate_left
  · rw [hO, q]; simp
  · rw [hO, decide_eq_false (p := 0 < (rAt ds 4).length) (by omega)]; simp
  · rw [hO, p]; simp
  rw [p, q, t, decide_eq_true (p := (rAt ds 0).length ≤ 20) (by omega), decide_eq_true (p := 0 < (rAt ds 4).length) (by omega)] at hO
  have hO : mkO ds = true := hO
  have hL4 : (rAt ds 4).length ≤ 40 := by have := (psgB_iff p).2.2.1; omega
  have hrows := shs_rows _ 0 0 i2.symm
  clear Z Z1
  refine TT.sat_loop (fun x => ∃ k : Nat, x.i 0 = k ∧ k ≤ (rAt ds 4).length ∧ x.d 2 = chN ds k ∧ x.d 4 = diN ds k ∧ ∀ l, l < k → fiE (fq ds l) = 0) (fun x => (rAt ds 4).length - (x.i 0).toNat) ⟨0, by simp [val_i, aget, E.ev], by omega, by simp [val_d, aget, X.ev, chN], by simp [val_d, aget, X.ev, diN], fun l hl => absurd hl (Nat.not_lt_zero _)⟩ (fun x hx => ?_)
  obtain ⟨k, k1, k2, k3, k4, k5⟩ := hx
  have eQ : [D.i (iAt ds 1), .i (iAt ds 2), .i (iAt ds 3), .l (rAt ds 4), .i (iAt ds 5), .i (iAt ds 6), .l (rAt ds 7), .i (iAt ds 8), .i (iAt ds 9), .l (rAt ds 10), .l (rAt ds 0), .i k] = fq ds k := rfl
  have eF : [D.i (fiJ (.i 0 :: fq ds k)), .i (fiJ (.i 1 :: fq ds k)), .i (fiJ (.i 2 :: fq ds k)), .i (fiJ (.i 3 :: fq ds k)), .i (fiJ (.i 4 :: fq ds k)), .i (fiJ (.i 5 :: fq ds k)), .i (fiJ (.i 6 :: fq ds k)), .i (fiJ (.i 7 :: fq ds k)), .i (fiJ (.i 8 :: fq ds k)), .i (fiJ (.i 9 :: fq ds k)), .i (fiJ (.i 10 :: fq ds k)), .l (fiX (fq ds k)), .l (fiY (fq ds k))] = shF ds k := rfl
  simp only [TT.sat_ret, TT.sat_ite, TT.sat_ob, TT.sat_next, TT.sat_stuck, put_i, put_b, put_d, put_fi, put_fb, put_fd, Ob.ok, B.ev, E.ev, X.ev, AL.ev, cmp_t, cmp_f, arEv, V.plain, V2.plain, S.plain, S0.plain, V.val, V2.val, S.val, S0.val, bV, iV, List.all_cons, List.all_nil, Bool.and_true, Bool.and_self, envOf_i, envOf_b, envOf_d, List.map_cons, List.map_nil, true_and, Bool.not_eq_true', Bool.not_eq_false', Bool.not_not, Bool.and_eq_true, and_f, cell_lg, cell_lb, cell_lr, cmpP, val_i, val_b, val_d, aget, Nat.reduceBEq, beq_self_eq_true, Bool.false_eq_true, if_true, if_false, Nat.reduceLT, Nat.reduceSub, Nat.sub_self, Nat.lt_irrefl, X.ev, k1, k3, k4, N9ci230, N9ci231, N9ci232, N9ci233, N9ci234, N9cd2, N9cd3, eQ, eF]
  refine ⟨fun hc => ⟨fun h => ?_, fun h => ?_⟩, fun hc => ?_⟩
  · obtain ⟨a, b, c, d, e⟩ := mk_stop hO (show k < (rAt ds 4).length by omega) k5 h
    refine mk_nil d e ?_ ?_ ?_
    · simp only [TT.sat_ret, TT.sat_ite, TT.sat_ob, TT.sat_next, TT.sat_stuck, put_i, put_b, put_d, put_fi, put_fb, put_fd, Ob.ok, B.ev, E.ev, X.ev, AL.ev, cmp_t, cmp_f, arEv, V.plain, V2.plain, S.plain, S0.plain, V.val, V2.val, S.val, S0.val, bV, iV, List.all_cons, List.all_nil, Bool.and_true, Bool.and_self, envOf_i, envOf_b, envOf_d, List.map_cons, List.map_nil, true_and, Bool.not_eq_true', Bool.not_eq_false', Bool.not_not, Bool.and_eq_true, and_f, cell_lg, cell_lb, cell_lr, cmpP, val_i, val_b, val_d, aget, Nat.reduceBEq, beq_self_eq_true, Bool.false_eq_true, if_true, if_false, Nat.reduceLT, Nat.reduceSub, Nat.sub_self, Nat.lt_irrefl, k1]; rw [a]
    · simp only [TT.sat_ret, TT.sat_ite, TT.sat_ob, TT.sat_next, TT.sat_stuck, put_i, put_b, put_d, put_fi, put_fb, put_fd, Ob.ok, B.ev, E.ev, X.ev, AL.ev, cmp_t, cmp_f, arEv, V.plain, V2.plain, S.plain, S0.plain, V.val, V2.val, S.val, S0.val, bV, iV, List.all_cons, List.all_nil, Bool.and_true, Bool.and_self, envOf_i, envOf_b, envOf_d, List.map_cons, List.map_nil, true_and, Bool.not_eq_true', Bool.not_eq_false', Bool.not_not, Bool.and_eq_true, and_f, cell_lg, cell_lb, cell_lr, cmpP, val_i, val_b, val_d, aget, Nat.reduceBEq, beq_self_eq_true, Bool.false_eq_true, if_true, if_false, Nat.reduceLT, Nat.reduceSub, Nat.sub_self, Nat.lt_irrefl, k1, N9ci231, eQ]; rw [b]
    · simp only [TT.sat_ret, TT.sat_ite, TT.sat_ob, TT.sat_next, TT.sat_stuck, put_i, put_b, put_d, put_fi, put_fb, put_fd, Ob.ok, B.ev, E.ev, X.ev, AL.ev, cmp_t, cmp_f, arEv, V.plain, V2.plain, S.plain, S0.plain, V.val, V2.val, S.val, S0.val, bV, iV, List.all_cons, List.all_nil, Bool.and_true, Bool.and_self, envOf_i, envOf_b, envOf_d, List.map_cons, List.map_nil, true_and, Bool.not_eq_true', Bool.not_eq_false', Bool.not_not, Bool.and_eq_true, and_f, cell_lg, cell_lb, cell_lr, cmpP, val_i, val_b, val_d, aget, Nat.reduceBEq, beq_self_eq_true, Bool.false_eq_true, if_true, if_false, Nat.reduceLT, Nat.reduceSub, Nat.sub_self, Nat.lt_irrefl, k1, N9ci232, eQ]; rw [c]
  · have h : fiE (fq ds k) = 0 := Decidable.not_not.mp h
    obtain ⟨j, j1, _, _, j4⟩ := shF_row h
    have hd : digE (shF ds k) = 0 := by unfold digE; rw [j4, hrows j (Nat.zero_le _) (by omega), if_pos rfl]
    refine ⟨fun g => absurd hd g, fun _ => ⟨?_, ?_, ?_⟩⟩
    · simp only [List.length_append, chN_len, List.length_cons, List.length_nil]; omega
    · simp only [List.length_append, diN_len, List.length_cons, List.length_nil]; omega
    · rw [wrap_in ((k : Int) + 1) (by omega) (by omega)]
      refine ⟨⟨k + 1, rfl, by omega, rfl, rfl, fun l hl => ?_⟩, by omega⟩
      by_cases e : l = k
      · subst e; exact h
      · exact k5 l (by omega)
  · obtain rfl : k = (rAt ds 4).length := by omega
    obtain ⟨a, b, c, d, e⟩ := mk_all hO k5
    exact mk_end (x1 := .var 10002) (x2 := .var 10004) (by kernel_rfl) (by simp only [TT.sat_ret, TT.sat_ite, TT.sat_ob, TT.sat_next, TT.sat_stuck, put_i, put_b, put_d, put_fi, put_fb, put_fd, Ob.ok, B.ev, E.ev, X.ev, AL.ev, cmp_t, cmp_f, arEv, V.plain, V2.plain, S.plain, S0.plain, V.val, V2.val, S.val, S0.val, bV, iV, List.all_cons, List.all_nil, Bool.and_true, Bool.and_self, envOf_i, envOf_b, envOf_d, List.map_cons, List.map_nil, true_and, Bool.not_eq_true', Bool.not_eq_false', Bool.not_not, Bool.and_eq_true, and_f, cell_lg, cell_lb, cell_lr, cmpP, val_i, val_b, val_d, aget, Nat.reduceBEq, beq_self_eq_true, Bool.false_eq_true, if_true, if_false, Nat.reduceLT, Nat.reduceSub, Nat.sub_self, Nat.lt_irrefl, X.ev, k3]; rw [d]) (by kernel_rfl) (by simp only [TT.sat_ret, TT.sat_ite, TT.sat_ob, TT.sat_next, TT.sat_stuck, put_i, put_b, put_d, put_fi, put_fb, put_fd, Ob.ok, B.ev, E.ev, X.ev, AL.ev, cmp_t, cmp_f, arEv, V.plain, V2.plain, S.plain, S0.plain, V.val, V2.val, S.val, S0.val, bV, iV, List.all_cons, List.all_nil, Bool.and_true, Bool.and_self, envOf_i, envOf_b, envOf_d, List.map_cons, List.map_nil, true_and, Bool.not_eq_true', Bool.not_eq_false', Bool.not_not, Bool.and_eq_true, and_f, cell_lg, cell_lb, cell_lr, cmpP, val_i, val_b, val_d, aget, Nat.reduceBEq, beq_self_eq_true, Bool.false_eq_true, if_true, if_false, Nat.reduceLT, Nat.reduceSub, Nat.sub_self, Nat.lt_irrefl, X.ev, k4]; rw [e]) (fun id v v' h h' => by cases h; cases h') (by rw [a]; rfl) (by rw [b]; rfl) (by rw [c]; rfl)
/-! Verify -/
def idxN (r : Rows) (c : Int) : Nat → Nat → Nat
  | 0, i => i
  | f + 1, i => if lg r i 0 = c then i else idxN r c f (i + 1)
def verI (ds : List D) (k : Nat) : Nat := idxN (rAt ds 0) (lg (rAt ds 11) k 0) (rAt ds 0).length 0
def verK (ds : List D) (k : Nat) : Bool := decide (verI ds k < (rAt ds 0).length) && (decide (digE (rowSh (rAt ds 0) (verI ds k)) = 0) && (decide (digI (rowSh (rAt ds 0) (verI ds k)) = lg (rAt ds 12) k 0) && decide (legE (rowLeg (mkD ds k) (verI ds k)) = 0)))
def verN (ds : List D) : Nat → Nat → Bool
  | 0, _ => true
  | f + 1, k => verK ds k && verN ds f (k + 1)
def verR (ds : List D) : Bool := mkO ds && (decide ((rAt ds 11).length = (rAt ds 4).length ∧ (rAt ds 12).length = (rAt ds 4).length) && verN ds (rAt ds 4).length 0)
def verE (ds : List D) : Int := if mkO ds then 0 else 1
set_option maxHeartbeats 2000000 in
theorem gVerify : Gives Tryz.prog 15 [shes, psg, shp, tid, certS] (fun ds => .tuple #[.bool (verR ds), .int .i64 (verE ds)]) := by
  refine GivesIf.all (fn_gives N9c (by kernel_rfl) (fun ρ h => ctO3_ok (Sees.of h 240) (SeesD.of h 4)) (by kernel_rfl) trVerify_is trVerify_low (by decide) (fun W vals ds hr _ => ?_))
  have hlen := shes_len hr
  simp only [trVerify, TT.sat_ret, TT.sat_ite, TT.sat_ob, TT.sat_next, TT.sat_stuck, put_i, put_b, put_d, put_fi, put_fb, put_fd, Ob.ok, B.ev, E.ev, X.ev, AL.ev, cmp_t, cmp_f, arEv, V.plain, V2.plain, S.plain, S0.plain, V.val, V2.val, S.val, S0.val, bV, iV, List.all_cons, List.all_nil, Bool.and_true, Bool.and_self, envOf_i, envOf_b, envOf_d, List.map_cons, List.map_nil, true_and, Bool.not_eq_true', Bool.not_eq_false', Bool.not_not, Bool.and_eq_true, and_f, cell_lg, cell_lb, cell_lr, cmpP, val_i, val_b, val_d, aget, Nat.reduceBEq, beq_self_eq_true, Bool.false_eq_true, if_true, if_false, Nat.reduceLT, Nat.reduceSub, Nat.sub_self, Nat.lt_irrefl]
  clear hr
  have Z : mkO ds = false → Value.tuple #[.bool false, .int .i64 1] = Value.tuple #[.bool (verR ds), .int .i64 (verE ds)] := fun h => by unfold verR verE; rw [h]; rfl
  refine TT.sat_loop (fun v => ∃ i : Nat, v.i 1 = i ∧ i ≤ (rAt ds 0).length ∧ shsN (rAt ds 0) ((rAt ds 0).length - i) i (v.i 0) = shsN (rAt ds 0) (rAt ds 0).length 0 0) (fun v => (rAt ds 0).length - (v.i 1).toNat) ⟨0, by simp [val_i, aget, E.ev], by omega, rfl⟩ (fun v hv => ?_)
  obtain ⟨i, i0, i1, i2⟩ := hv
  have eS : ∀ i : Nat, [D.i (lg (rAt ds 0) i 0), .i (lg (rAt ds 0) i 1), .i (lg (rAt ds 0) i 2), .i (lg (rAt ds 0) i 3), .i (lg (rAt ds 0) i 4), .i (lg (rAt ds 0) i 5), .i (lg (rAt ds 0) i 6), .i (lg (rAt ds 0) i 7), .i (lg (rAt ds 0) i 8), .i (lg (rAt ds 0) i 9), .i (lg (rAt ds 0) i 10), .l (lr (rAt ds 0) i 11), .l (lr (rAt ds 0) i 12)] = rowSh (rAt ds 0) i := fun _ => rfl
  simp only [TT.sat_ret, TT.sat_ite, TT.sat_ob, TT.sat_next, TT.sat_stuck, put_i, put_b, put_d, put_fi, put_fb, put_fd, Ob.ok, B.ev, E.ev, X.ev, AL.ev, cmp_t, cmp_f, arEv, V.plain, V2.plain, S.plain, S0.plain, V.val, V2.val, S.val, S0.val, bV, iV, List.all_cons, List.all_nil, Bool.and_true, Bool.and_self, envOf_i, envOf_b, envOf_d, List.map_cons, List.map_nil, true_and, Bool.not_eq_true', Bool.not_eq_false', Bool.not_not, Bool.and_eq_true, and_f, cell_lg, cell_lb, cell_lr, cmpP, val_i, val_b, val_d, aget, Nat.reduceBEq, beq_self_eq_true, Bool.false_eq_true, if_true, if_false, Nat.reduceLT, Nat.reduceSub, Nat.sub_self, Nat.lt_irrefl, i0, N9cb151, N9cb20, N9cb144, N9cb150, psg_four, kev_3, tide_31, eS]
  have Z1 : shsN (rAt ds 0) (rAt ds 0).length 0 0 = false → mkO ds = false := fun h => by unfold mkO shsB; rw [h]; rfl
  refine ⟨fun hc => ?_, fun hc => ?_⟩
  · obtain ⟨f, hf⟩ : ∃ f, (rAt ds 0).length - i = f + 1 := ⟨(rAt ds 0).length - i - 1, by omega⟩
    have hf' : (rAt ds 0).length - (i + 1) = f := by omega
    rw [hf, shsN] at i2
    rw [wrap_in ((i : Int) + 1) (by omega) (by omega)]
    refine ⟨by omega, hc, fun h => Z (Z1 ?_), fun h => ⟨fun g => Z (Z1 ?_), fun g => ⟨⟨i + 1, rfl, by omega, ?_⟩, by omega⟩⟩⟩
    · rw [← i2, h]; rfl
    · rw [← i2, decide_eq_false (by omega), Bool.and_false, Bool.false_and]
    · rw [hf', ← i2, h, decide_eq_true (by omega)]; rfl
  have h0 : (rAt ds 0).length - i = 0 := by omega
  rw [h0, shsN] at i2
  clear h0 hc i0 i1
  have hO : mkO ds = ((true && decide ((rAt ds 0).length ≤ 20)) && (psgB (iAt ds 1) (iAt ds 2) (iAt ds 3) (rAt ds 4) && (decide (0 < (rAt ds 4).length) && (kevB (iAt ds 5) (iAt ds 6) (rAt ds 7) && tideB (iAt ds 8) (iAt ds 9) (rAt ds 10))))) := by
    unfold mkO shsB; rw [← i2]
  have R : mkO ds = true → ∀ b, (decide ((rAt ds 11).length = (rAt ds 4).length ∧ (rAt ds 12).length = (rAt ds 4).length) && verN ds (rAt ds 4).length 0) = b → Value.tuple #[.bool b, .int .i64 0] = Value.tuple #[.bool (verR ds), .int .i64 (verE ds)] := fun h b hb => by unfold verR verE; rw [h, hb]; rfl
  refine ⟨fun h => Z ?_, fun h => ⟨fun p => ⟨fun k0 => ⟨fun q => ⟨fun t => Z ?_, fun t => ?_⟩, fun q => Z ?_⟩, fun k0 => Z ?_⟩, fun p => Z ?_⟩⟩
  · rw [hO, decide_eq_false (p := (rAt ds 0).length ≤ 20) (by omega)]; rfl
  · rw [hO, t]; simp
  rotate_left
  · rw [hO, q]; simp
  · rw [hO, decide_eq_false (p := 0 < (rAt ds 4).length) (by omega)]; simp
  · rw [hO, p]; simp
  rw [p, q, t, decide_eq_true (p := (rAt ds 0).length ≤ 20) (by omega), decide_eq_true (p := 0 < (rAt ds 4).length) (by omega)] at hO
  have R := R hO
  have hL4 : (rAt ds 4).length ≤ 40 := by have := (psgB_iff p).2.2.1; omega
  clear Z Z1 hO
  refine ⟨fun a => R _ (by rw [decide_eq_false (by omega)]; rfl), fun a => ⟨fun b => R _ (by rw [decide_eq_false (by omega)]; rfl), fun b => ?_⟩⟩
  have R : ∀ b, verN ds (rAt ds 4).length 0 = b → _ := fun b hb => R b (by rw [decide_eq_true (by omega), Bool.true_and]; exact hb)
  refine TT.sat_loop (fun x => ∃ k : Nat, x.i 0 = k ∧ k ≤ (rAt ds 4).length ∧ verN ds ((rAt ds 4).length - k) k = verN ds (rAt ds 4).length 0) (fun x => (rAt ds 4).length - (x.i 0).toNat) ⟨0, by simp [val_i, aget, E.ev], by omega, rfl⟩ (fun x hx => ?_)
  obtain ⟨k, k1, k2, k3⟩ := hx
  simp only [TT.sat_ret, TT.sat_ite, TT.sat_ob, TT.sat_next, TT.sat_stuck, put_i, put_b, put_d, put_fi, put_fb, put_fd, Ob.ok, B.ev, E.ev, X.ev, AL.ev, cmp_t, cmp_f, arEv, V.plain, V2.plain, S.plain, S0.plain, V.val, V2.val, S.val, S0.val, bV, iV, List.all_cons, List.all_nil, Bool.and_true, Bool.and_self, envOf_i, envOf_b, envOf_d, List.map_cons, List.map_nil, true_and, Bool.not_eq_true', Bool.not_eq_false', Bool.not_not, Bool.and_eq_true, and_f, cell_lg, cell_lb, cell_lr, cmpP, val_i, val_b, val_d, aget, Nat.reduceBEq, beq_self_eq_true, Bool.false_eq_true, if_true, if_false, Nat.reduceLT, Nat.reduceSub, Nat.sub_self, Nat.lt_irrefl, k1]
  refine ⟨fun hc => ?_, fun hc => ?_⟩
  rotate_left
  · have h0 : (rAt ds 4).length - k = 0 := by omega
    rw [h0, verN] at k3
    exact R _ k3.symm
  obtain ⟨f, hf⟩ : ∃ f, (rAt ds 4).length - k = f + 1 := ⟨(rAt ds 4).length - k - 1, by omega⟩
  have hf' : (rAt ds 4).length - (k + 1) = f := by omega
  rw [hf, verN] at k3
  have no : verK ds k = false → Value.tuple #[.bool false, .int .i64 0] = Value.tuple #[.bool (verR ds), .int .i64 (verE ds)] := fun g => R _ (by rw [← k3, g]; rfl)
  refine ⟨by omega, hc, ?_⟩
  refine TT.sat_loop (fun y => ∃ j : Nat, y.i 0 = j ∧ j ≤ (rAt ds 0).length ∧ idxN (rAt ds 0) (lg (rAt ds 11) k 0) ((rAt ds 0).length - j) j = verI ds k) (fun y => (rAt ds 0).length - (y.i 0).toNat) ⟨0, by simp [val_i, aget, E.ev], by omega, rfl⟩ (fun y hy => ?_)
  obtain ⟨j, j1, j2, j3⟩ := hy
  have eL : [D.i (lg (rAt ds 0) j 0), .i (lg (rAt ds 0) j 1), .i (lg (rAt ds 0) j 2), .i (lg (rAt ds 0) j 3), .i (lg (rAt ds 0) j 4), .i (lg (rAt ds 0) j 5), .i (lg (rAt ds 0) j 6), .i (lg (rAt ds 0) j 7), .i (lg (rAt ds 0) j 8), .i (lg (rAt ds 0) j 9), .i (lg (rAt ds 0) j 10), .l (lr (rAt ds 0) j 11), .l (lr (rAt ds 0) j 12), .i (iAt ds 1), .i (iAt ds 2), .i (iAt ds 3), .l (rAt ds 4), .i k, .i (iAt ds 5), .i (iAt ds 6), .l (rAt ds 7), .i (iAt ds 8), .i (iAt ds 9), .l (rAt ds 10)] = rowLeg (mkD ds k) j := rfl
  simp only [TT.sat_ret, TT.sat_ite, TT.sat_ob, TT.sat_next, TT.sat_stuck, put_i, put_b, put_d, put_fi, put_fb, put_fd, Ob.ok, B.ev, E.ev, X.ev, AL.ev, cmp_t, cmp_f, arEv, V.plain, V2.plain, S.plain, S0.plain, V.val, V2.val, S.val, S0.val, bV, iV, List.all_cons, List.all_nil, Bool.and_true, Bool.and_self, envOf_i, envOf_b, envOf_d, List.map_cons, List.map_nil, true_and, Bool.not_eq_true', Bool.not_eq_false', Bool.not_not, Bool.and_eq_true, and_f, cell_lg, cell_lb, cell_lr, cmpP, val_i, val_b, val_d, aget, Nat.reduceBEq, beq_self_eq_true, Bool.false_eq_true, if_true, if_false, Nat.reduceLT, Nat.reduceSub, Nat.sub_self, Nat.lt_irrefl, k1, j1, N9ci191, N9ci233, N9ci234, eS, eL]
  refine ⟨fun hd => ?_, fun hd => ?_⟩
  rotate_left
  · have h0 : (rAt ds 0).length - j = 0 := by omega
    rw [h0, idxN] at j3
    exact no (by unfold verK; rw [decide_eq_false (p := verI ds k < (rAt ds 0).length) (by omega)]; rfl)
  obtain ⟨f2, hf2⟩ : ∃ f, (rAt ds 0).length - j = f + 1 := ⟨(rAt ds 0).length - j - 1, by omega⟩
  have hf2' : (rAt ds 0).length - (j + 1) = f2 := by omega
  rw [hf2, idxN] at j3
  rw [wrap_in ((k : Int) + 1) (by omega) (by omega), wrap_in ((j : Int) + 1) (by omega) (by omega)]
  refine ⟨by omega, hd, fun g => ?_, fun g => ⟨⟨j + 1, rfl, by omega, by rw [hf2', ← j3, if_neg g]⟩, by omega⟩⟩
  rw [if_pos g] at j3
  have eK : verK ds k = (decide (digE (rowSh (rAt ds 0) j) = 0) && (decide (digI (rowSh (rAt ds 0) j) = lg (rAt ds 12) k 0) && decide (legE (rowLeg (mkD ds k) j) = 0))) := by
    unfold verK; rw [← j3, decide_eq_true (p := j < (rAt ds 0).length) (by omega)]; rfl
  refine ⟨fun z => absurd z (by omega), fun _ => ⟨by omega, hd, fun u => no (by rw [eK, decide_eq_false u]; rfl), fun u => ⟨by omega, by omega, fun w => no (by rw [eK, decide_eq_false w]; simp), fun w => ⟨by omega, hd, fun s => no (by rw [eK, decide_eq_false s]; simp), fun s => ?_⟩⟩⟩⟩
  have u := Decidable.not_not.mp u
  have w := Decidable.not_not.mp w
  have s := Decidable.not_not.mp s
  rw [decide_eq_true u, decide_eq_true w, decide_eq_true s] at eK
  refine ⟨⟨k + 1, rfl, by omega, ?_⟩, by omega⟩
  rw [hf', ← k3, eK]; rfl
def N10 : Interp where
  fi n l := match n with | 240 => mkK l | 241 => mkI l | 242 => mkE l | 244 => verE l | n => N9c.fi n l
  fb n l := match n with | 243 => verR l | n => N9c.fb n l
  fd n l := match n with | 4 => mkC l | 5 => mkDi l | n => N9c.fd n l
theorem N10_N9cd {ρ : Env} (h : SeesD ρ N10 6) : SeesD ρ N9c 4 := fun n l hn => by
  rw [h n l (by omega)]
  simp only [N10]
  split <;> first | omega | rfl
theorem N10_N9c {ρ : Env} (h : Sees ρ N10 250) : Sees ρ N9c 240 := h.trans (by decide) fun n l hn => by
  refine ⟨?_, ?_⟩
  ·
    simp only [N10]
    split <;> first | omega | rfl
  ·
    simp only [N10]
    split <;> first | omega | rfl
def cMake (args : List V) (_mem : Mem) (nx : Nat) : T OpR := match argsE [shes, psg, shp, tid] args with
  | some al => ctN [nlCh, nlDi] [] (.tup [.agg [.z (.own nx (.lit 0)), .z (.own (nx + 1) (.lit 0))], .one (.z (.int .i64 (.fn 240 al))), .one (.z (.int .i64 (.fn 241 al))), .one (.z (.int .i64 (.fn 242 al)))]) al nx
  | none => .stuck "Make"
theorem cMake_ok {ρ : Env} (h : Sees ρ N10 250) (hd : SeesD ρ N10 6) : CtOne Tryz.prog ρ 14 cMake := by
  intro args mem nx q hq hle σ W vals hr hfr hdl
  unfold cMake at hq
  split at hq
  · rename_i al ha
    refine ctN_ok gMake ha (fun _ => trivial) (fun l hl a => ?_) hq (fun σ' vs u hv hl hres => ?_) hr hfr hdl
    · rcases List.mem_cons.1 hl with rfl | hl
      · show ρ.fd 4 a = mkC a
        rw [hd 4 _ (by decide)]; simp only [N10]
      · obtain rfl := List.mem_singleton.1 hl
        show ρ.fd 5 a = mkDi a
        rw [hd 5 _ (by decide)]; simp only [N10]
    · obtain ⟨a, b, rfl, rfl⟩ := hres
      obtain ⟨a1, a2, a3, a4, a5⟩ := hv 0 a rfl
      obtain ⟨b1, b2, b3, b4, b5⟩ := hv 1 b rfl
      have e0 : Value.int .i64 (mkK (al.ev ρ)) = .int .i64 ((E.fn 240 al).ev ρ) := by simp only [E.ev]; rw [(h 240 _ (by decide)).1]; simp only [N10]
      have e1 : Value.int .i64 (mkI (al.ev ρ)) = .int .i64 ((E.fn 241 al).ev ρ) := by simp only [E.ev]; rw [(h 241 _ (by decide)).1]; simp only [N10]
      have e2 : Value.int .i64 (mkE (al.ev ρ)) = .int .i64 ((E.fn 242 al).ev ρ) := by simp only [E.ev]; rw [(h 242 _ (by decide)).1]; simp only [N10]
      exact ⟨[_, _, _, _], ⟨⟨[a, b], ⟨⟨⟨a2, a3, a4, a5⟩, a1⟩, ⟨⟨b2, b3, b4, b5⟩, b1⟩, trivial⟩, rfl⟩, e0, e1, e2, trivial⟩, rfl⟩
  · exact hq.elim
def cVerify := ctD [shes, psg, shp, tid, certS] fun al => .ret (.tup [.one (sBF 243 verR al), .one (sIF 244 verE al)])
theorem cVerify_ok {ρ : Env} (h : Sees ρ N10 250) : CtOne Tryz.prog ρ 15 cVerify :=
  ctD_ok gVerify (fun _ => rfl) (fun al => by simp only [V.val, V2.val, S.val, S0.val, sIF, sBF, List.map_cons, List.map_nil, bF_ev (s := 243) (f := verR) (fun l => by rw [(h 243 l (by decide)).2]; simp only [N10, N9c, N9b, N9, N8, N7, N6, N5, N4, N3, N2, N1, KG, KF, KE, KD, KC, KB, KA, K9, K8, K7, K6, K5, K]), iF_ev (s := 244) (f := verE) (fun l => by rw [(h 244 l (by decide)).1]; simp only [N10, N9c, N9b, N9, N8, N7, N6, N5, N4, N3, N2, N1, KG, KF, KE, KD, KC, KB, KA, K9, K8, K7, K6, K5, K])]; try rfl)
def ctO4 : Ct := (14, cMake) :: (15, cVerify) :: ctO3
theorem ctO4_ok {ρ : Env} (h : Sees ρ N10 250) (hd : SeesD ρ N10 6) : CtOk Tryz.prog ρ ctO4 := .cons (cMake_ok h hd) <| .cons (cVerify_ok h) (ctO3_ok (N10_N9c h) (N10_N9cd hd))
end Go.Proofs.YtkjjkckcjgkhmaaGreat
/- Chapter 40: the tree of the law CheckCertified. -/
namespace Go.Proofs.YtkjjkckcjgkhmaaGreat
open Go.RowKit
def trLawCert : TT OpR :=
(.ite (.cmp .gtr (.len (.var 0)) (.lit 4))
 (.ret ((.v (.one (.z (.bool (.lit true))))), [], 2))
 (.ite (.cmp .gtr (.len (.var 4)) (.lit 6))
 (.ret ((.v (.one (.z (.bool (.lit true))))), [], 2))
 (.loop 0 3000 ⟨[(0, (.lit 0))], [], []⟩
 (.ite (.cmp .lss (.var 3000) (.len (.var 0)))
 (.ob (.tru (.cmp .leq (.lit 0) (.var 3000)))
 (.ob (.tru (.cmp .lss (.var 3000) (.len (.var 0))))
 (.ite (.cmp .gtr (.len (.rd (.var 0) (.var 3000) 12)) (.lit 12))
 (.ret ((.v (.one (.z (.bool (.lit true))))), [], 3))
 (.next 0 ⟨[(0, (.ar .add .i64 (.var 3000) (.lit 1)))], [], []⟩))))
 (.ite (.cmp .neq (.fn 242 (.x (.var 0) (.i (.var 1) (.i (.var 2) (.i (.var 3) (.x (.var 4) (.i (.var 5) (.i (.var 6) (.x (.var 7) (.i (.var 8) (.i (.var 9) (.x (.var 10) .nil)))))))))))) (.lit 0))
 (.ite (.cmp .eql (.len (.fn 4 (.x (.var 0) (.i (.var 1) (.i (.var 2) (.i (.var 3) (.x (.var 4) (.i (.var 5) (.i (.var 6) (.x (.var 7) (.i (.var 8) (.i (.var 9) (.x (.var 10) .nil))))))))))))) (.lit 0))
 (.ite (.cmp .eql (.len (.fn 5 (.x (.var 0) (.i (.var 1) (.i (.var 2) (.i (.var 3) (.x (.var 4) (.i (.var 5) (.i (.var 6) (.x (.var 7) (.i (.var 8) (.i (.var 9) (.x (.var 10) .nil))))))))))))) (.lit 0))
 (.ite (.cmp .eql (.fn 242 (.x (.var 0) (.i (.var 1) (.i (.var 2) (.i (.var 3) (.x (.var 4) (.i (.var 5) (.i (.var 6) (.x (.var 7) (.i (.var 8) (.i (.var 9) (.x (.var 10) .nil)))))))))))) (.lit 20))
 (.ret ((.v (.one (.z (.bool (.cmp .geq (.fn 240 (.x (.var 0) (.i (.var 1) (.i (.var 2) (.i (.var 3) (.x (.var 4) (.i (.var 5) (.i (.var 6) (.x (.var 7) (.i (.var 8) (.i (.var 9) (.x (.var 10) .nil)))))))))))) (.lit 0)))))), [], 6))
 (.ite (.cmp .eql (.fn 241 (.x (.var 0) (.i (.var 1) (.i (.var 2) (.i (.var 3) (.x (.var 4) (.i (.var 5) (.i (.var 6) (.x (.var 7) (.i (.var 8) (.i (.var 9) (.x (.var 10) .nil)))))))))))) (.lit 0))
 (.ret ((.v (.one (.z (.bool (.cmp .geq (.fn 240 (.x (.var 0) (.i (.var 1) (.i (.var 2) (.i (.var 3) (.x (.var 4) (.i (.var 5) (.i (.var 6) (.x (.var 7) (.i (.var 8) (.i (.var 9) (.x (.var 10) .nil)))))))))))) (.lit 0)))))), [], 6))
 (.ret ((.v (.one (.z (.bool (.lit false))))), [], 6))))
 (.ret ((.v (.one (.z (.bool (.lit false))))), [], 6)))
 (.ret ((.v (.one (.z (.bool (.lit false))))), [], 6)))
 (.ite (.cmp .eql (.fn 240 (.x (.var 0) (.i (.var 1) (.i (.var 2) (.i (.var 3) (.x (.var 4) (.i (.var 5) (.i (.var 6) (.x (.var 7) (.i (.var 8) (.i (.var 9) (.x (.var 10) .nil)))))))))))) (.lit (-1)))
 (.ite (.cmp .eql (.fn 241 (.x (.var 0) (.i (.var 1) (.i (.var 2) (.i (.var 3) (.x (.var 4) (.i (.var 5) (.i (.var 6) (.x (.var 7) (.i (.var 8) (.i (.var 9) (.x (.var 10) .nil)))))))))))) (.lit 0))
 (.ite (.cmp .eql (.fn 244 (.x (.var 0) (.i (.var 1) (.i (.var 2) (.i (.var 3) (.x (.var 4) (.i (.var 5) (.i (.var 6) (.x (.var 7) (.i (.var 8) (.i (.var 9) (.x (.var 10) (.x (.fn 4 (.x (.var 0) (.i (.var 1) (.i (.var 2) (.i (.var 3) (.x (.var 4) (.i (.var 5) (.i (.var 6) (.x (.var 7) (.i (.var 8) (.i (.var 9) (.x (.var 10) .nil)))))))))))) (.x (.fn 5 (.x (.var 0) (.i (.var 1) (.i (.var 2) (.i (.var 3) (.x (.var 4) (.i (.var 5) (.i (.var 6) (.x (.var 7) (.i (.var 8) (.i (.var 9) (.x (.var 10) .nil)))))))))))) .nil)))))))))))))) (.lit 0))
 (.ite (.fn 243 (.x (.var 0) (.i (.var 1) (.i (.var 2) (.i (.var 3) (.x (.var 4) (.i (.var 5) (.i (.var 6) (.x (.var 7) (.i (.var 8) (.i (.var 9) (.x (.var 10) (.x (.fn 4 (.x (.var 0) (.i (.var 1) (.i (.var 2) (.i (.var 3) (.x (.var 4) (.i (.var 5) (.i (.var 6) (.x (.var 7) (.i (.var 8) (.i (.var 9) (.x (.var 10) .nil)))))))))))) (.x (.fn 5 (.x (.var 0) (.i (.var 1) (.i (.var 2) (.i (.var 3) (.x (.var 4) (.i (.var 5) (.i (.var 6) (.x (.var 7) (.i (.var 8) (.i (.var 9) (.x (.var 10) .nil)))))))))))) .nil))))))))))))))
 (.ite (.cmp .neq (.fn 211 (.x (.var 0) (.i (.var 1) (.i (.var 2) (.i (.var 3) (.x (.var 4) (.i (.var 11) (.i (.var 5) (.i (.var 6) (.x (.var 7) (.i (.var 8) (.i (.var 9) (.x (.var 10) (.x .nil .nil)))))))))))))) (.lit 0))
 (.ite (.cmp .eql (.len (.fn 4 (.x (.var 0) (.i (.var 1) (.i (.var 2) (.i (.var 3) (.x (.var 4) (.i (.var 5) (.i (.var 6) (.x (.var 7) (.i (.var 8) (.i (.var 9) (.x (.var 10) .nil))))))))))))) (.len (.var 4)))
 (.ite (.cmp .eql (.fn 211 (.x (.var 0) (.i (.var 1) (.i (.var 2) (.i (.var 3) (.x (.var 4) (.i (.var 11) (.i (.var 5) (.i (.var 6) (.x (.var 7) (.i (.var 8) (.i (.var 9) (.x (.var 10) (.x .nil .nil)))))))))))))) (.lit 0))
 (.ret ((.v (.one (.z (.bool (.lit true))))), [], 6))
 (.ite (.cmp .lss (.var 11) (.lit 0))
 (.ret ((.v (.one (.z (.bool (.lit true))))), [], 6))
 (.ret ((.v (.one (.z (.bool (.cmp .gtr (.var 11) (.len (.var 4))))))), [], 6))))
 (.ret ((.v (.one (.z (.bool (.lit false))))), [], 6)))
 (.ite (.cmp .lss (.fn 210 (.x (.var 0) (.i (.var 1) (.i (.var 2) (.i (.var 3) (.x (.var 4) (.i (.var 11) (.i (.var 5) (.i (.var 6) (.x (.var 7) (.i (.var 8) (.i (.var 9) (.x (.var 10) (.x .nil .nil)))))))))))))) (.lit 0))
 (.ite (.cmp .eql (.len (.fn 4 (.x (.var 0) (.i (.var 1) (.i (.var 2) (.i (.var 3) (.x (.var 4) (.i (.var 5) (.i (.var 6) (.x (.var 7) (.i (.var 8) (.i (.var 9) (.x (.var 10) .nil))))))))))))) (.len (.var 4)))
 (.ite (.cmp .eql (.fn 211 (.x (.var 0) (.i (.var 1) (.i (.var 2) (.i (.var 3) (.x (.var 4) (.i (.var 11) (.i (.var 5) (.i (.var 6) (.x (.var 7) (.i (.var 8) (.i (.var 9) (.x (.var 10) (.x .nil .nil)))))))))))))) (.lit 0))
 (.ret ((.v (.one (.z (.bool (.lit true))))), [], 6))
 (.ite (.cmp .lss (.var 11) (.lit 0))
 (.ret ((.v (.one (.z (.bool (.lit true))))), [], 6))
 (.ret ((.v (.one (.z (.bool (.cmp .gtr (.var 11) (.len (.var 4))))))), [], 6))))
 (.ret ((.v (.one (.z (.bool (.lit false))))), [], 6)))
 (.ite (.cmp .eql (.len (.fn 4 (.x (.var 0) (.i (.var 1) (.i (.var 2) (.i (.var 3) (.x (.var 4) (.i (.var 5) (.i (.var 6) (.x (.var 7) (.i (.var 8) (.i (.var 9) (.x (.var 10) .nil))))))))))))) (.len (.var 4)))
 (.ite (.cmp .geq (.fn 210 (.x (.var 0) (.i (.var 1) (.i (.var 2) (.i (.var 3) (.x (.var 4) (.i (.var 11) (.i (.var 5) (.i (.var 6) (.x (.var 7) (.i (.var 8) (.i (.var 9) (.x (.var 10) (.x .nil .nil)))))))))))))) (.var 11))
 (.ret ((.v (.one (.z (.bool (.cmp .neq (.fn 58 (.i (.var 1) (.i (.var 2) (.i (.var 3) (.x (.var 4) (.i (.fn 210 (.x (.var 0) (.i (.var 1) (.i (.var 2) (.i (.var 3) (.x (.var 4) (.i (.var 11) (.i (.var 5) (.i (.var 6) (.x (.var 7) (.i (.var 8) (.i (.var 9) (.x (.var 10) (.x .nil .nil)))))))))))))) .nil)))))) (.lit 0)))))), [], 7))
 (.ret ((.v (.one (.z (.bool (.lit false))))), [], 7)))
 (.ret ((.v (.one (.z (.bool (.lit false))))), [], 7)))))
 (.ite (.cmp .neq (.fn 211 (.x (.var 0) (.i (.var 1) (.i (.var 2) (.i (.var 3) (.x (.var 4) (.i (.var 11) (.i (.var 5) (.i (.var 6) (.x (.var 7) (.i (.var 8) (.i (.var 9) (.x (.var 10) (.x .nil .nil)))))))))))))) (.lit 0))
 (.ret ((.v (.one (.z (.bool (.lit false))))), [], 6))
 (.ite (.cmp .lss (.fn 210 (.x (.var 0) (.i (.var 1) (.i (.var 2) (.i (.var 3) (.x (.var 4) (.i (.var 11) (.i (.var 5) (.i (.var 6) (.x (.var 7) (.i (.var 8) (.i (.var 9) (.x (.var 10) (.x .nil .nil)))))))))))))) (.lit 0))
 (.ret ((.v (.one (.z (.bool (.lit false))))), [], 6))
 (.ret ((.v (.one (.z (.bool (.lit false))))), [], 7)))))
 (.ite (.cmp .neq (.fn 211 (.x (.var 0) (.i (.var 1) (.i (.var 2) (.i (.var 3) (.x (.var 4) (.i (.var 11) (.i (.var 5) (.i (.var 6) (.x (.var 7) (.i (.var 8) (.i (.var 9) (.x (.var 10) (.x .nil .nil)))))))))))))) (.lit 0))
 (.ret ((.v (.one (.z (.bool (.lit false))))), [], 6))
 (.ite (.cmp .lss (.fn 210 (.x (.var 0) (.i (.var 1) (.i (.var 2) (.i (.var 3) (.x (.var 4) (.i (.var 11) (.i (.var 5) (.i (.var 6) (.x (.var 7) (.i (.var 8) (.i (.var 9) (.x (.var 10) (.x .nil .nil)))))))))))))) (.lit 0))
 (.ret ((.v (.one (.z (.bool (.lit false))))), [], 6))
 (.ret ((.v (.one (.z (.bool (.lit false))))), [], 7)))))
 (.ite (.cmp .neq (.fn 211 (.x (.var 0) (.i (.var 1) (.i (.var 2) (.i (.var 3) (.x (.var 4) (.i (.var 11) (.i (.var 5) (.i (.var 6) (.x (.var 7) (.i (.var 8) (.i (.var 9) (.x (.var 10) (.x .nil .nil)))))))))))))) (.lit 0))
 (.ret ((.v (.one (.z (.bool (.lit false))))), [], 6))
 (.ite (.cmp .lss (.fn 210 (.x (.var 0) (.i (.var 1) (.i (.var 2) (.i (.var 3) (.x (.var 4) (.i (.var 11) (.i (.var 5) (.i (.var 6) (.x (.var 7) (.i (.var 8) (.i (.var 9) (.x (.var 10) (.x .nil .nil)))))))))))))) (.lit 0))
 (.ret ((.v (.one (.z (.bool (.lit false))))), [], 6))
 (.ret ((.v (.one (.z (.bool (.lit false))))), [], 7)))))
 (.ite (.cmp .neq (.fn 211 (.x (.var 0) (.i (.var 1) (.i (.var 2) (.i (.var 3) (.x (.var 4) (.i (.var 11) (.i (.var 5) (.i (.var 6) (.x (.var 7) (.i (.var 8) (.i (.var 9) (.x (.var 10) (.x .nil .nil)))))))))))))) (.lit 0))
 (.ret ((.v (.one (.z (.bool (.lit false))))), [], 6))
 (.ite (.cmp .lss (.fn 210 (.x (.var 0) (.i (.var 1) (.i (.var 2) (.i (.var 3) (.x (.var 4) (.i (.var 11) (.i (.var 5) (.i (.var 6) (.x (.var 7) (.i (.var 8) (.i (.var 9) (.x (.var 10) (.x .nil .nil)))))))))))))) (.lit 0))
 (.ret ((.v (.one (.z (.bool (.lit false))))), [], 6))
 (.ret ((.v (.one (.z (.bool (.lit false))))), [], 7))))))))))
def trLawCert_h : List (Nat × St) := [
(2, ⟨(List.append [(.v (.one (.z (.ext [(.int .i64), (.int .i64), (.int .i64), (.int .i64), (.int .i64), (.int .i64), (.int .i64), (.int .i64), (.int .i64), (.int .i64), (.int .i64), (.sl [(.int .i64)]), (.sl [(.int .i64), (.int .i64), (.int .i64), (.int .i64), (.int .i64), (.sl [(.int .i64), (.int .i64)]), (.int .i64), (.int .i64), (.sl [(.int .i64), (.int .i64), (.int .i64), (.int .i64), (.int .i64), (.int .i64)])])] (.var 0) false)))), (.v (.agg [(.z (.int .i64 (.var 1))), (.z (.int .i64 (.var 2))), (.z (.int .i64 (.var 3))), (.z (.ext [(.int .i64), (.int .i64), (.int .i64), (.int .i64), (.int .i64), (.int .i64)] (.var 4) false))])), (.v (.one (.z .any))), (.v (.one (.z (.ptr 1 0)))), (.v (.one (.z (.bool (.lit false))))), (.v (.one (.z (.int .i64 (.var 3000))))), (.v (.one (.z (.ext [(.int .i64), (.int .i64), (.int .i64), (.int .i64), (.int .i64), (.int .i64), (.int .i64), (.int .i64), (.int .i64), (.int .i64), (.int .i64), (.sl [(.int .i64)]), (.sl [(.int .i64), (.int .i64), (.int .i64), (.int .i64), (.int .i64), (.sl [(.int .i64), (.int .i64)]), (.int .i64), (.int .i64), (.sl [(.int .i64), (.int .i64), (.int .i64), (.int .i64), (.int .i64), (.int .i64)])])] (.var 0) false)))), (.v (.one (.z (.int .i64 (.len (.var 0)))))), (.v (.one (.z (.bool (.cmp .gtr (.len (.var 0)) (.lit 4)))))), (.v (.one (.z (.bool (.lit false))))), (.v (.one (.z (.ptr 1 3)))), (.v (.one (.z (.ext [(.int .i64), (.int .i64), (.int .i64), (.int .i64), (.int .i64), (.int .i64)] (.var 4) false)))), (.v (.one (.z (.int .i64 (.len (.var 4)))))), (.v (.one (.z (.bool (.cmp .gtr (.len (.var 4)) (.lit 6)))))), (.v (.one (.z (.bool (.cmp .gtr (.len (.var 4)) (.lit 6))))))] (List.replicate 13 V.any)), [(1, (.cells 27 [(.z (.int .i64 (.var 1))), (.z (.int .i64 (.var 2))), (.z (.int .i64 (.var 3))), (.z (.ext [(.int .i64), (.int .i64), (.int .i64), (.int .i64), (.int .i64), (.int .i64)] (.var 4) false))])), (0, (.cells 35 [(.z (.ext [(.int .i64), (.int .i64), (.int .i64), (.int .i64), (.int .i64), (.int .i64), (.int .i64), (.int .i64), (.int .i64), (.int .i64), (.int .i64), (.sl [(.int .i64)]), (.sl [(.int .i64), (.int .i64), (.int .i64), (.int .i64), (.int .i64), (.sl [(.int .i64), (.int .i64)]), (.int .i64), (.int .i64), (.sl [(.int .i64), (.int .i64), (.int .i64), (.int .i64), (.int .i64), (.int .i64)])])] (.var 0) false)), (.z (.int .i64 (.var 1))), (.z (.int .i64 (.var 2))), (.z (.int .i64 (.var 3))), (.z (.ext [(.int .i64), (.int .i64), (.int .i64), (.int .i64), (.int .i64), (.int .i64)] (.var 4) false)), (.z (.int .i64 (.var 5))), (.z (.int .i64 (.var 6))), (.z (.ext [(.int .i64)] (.var 7) false)), (.z (.int .i64 (.var 8))), (.z (.int .i64 (.var 9))), (.z (.ext [(.int .i64), (.int .i64)] (.var 10) false))]))], 3, []⟩)]
def trLawCert_j : List (FuncId × Nat × Nat × St) := [
]
set_option maxRecDepth 100000 in
theorem trLawCert_is : T.norm 0 (call Tryz.prog ctO4 ⟨Lt.un (Lt.of []), trLawCert_h, trLawCert_j⟩ 1000 3 (symArgs 0 [caseS, it]) [] 0) TT.ret = trLawCert := by kernel_rfl
theorem trLawCert_low : trLawCert.low 1000 = true := by kernel_rfl
end Go.Proofs.YtkjjkckcjgkhmaaGreat
/- Chapter 40: what Again answers (no program). -/
namespace Go.Proofs.YtkjjkckcjgkhmaaGreat
open Go.RowKit
theorem agN_spec {ds : List D} : ∀ f k, (agN ds f k = -1 ∧ ∀ n, k ≤ n → n < k + f → badB ds n = false) ∨ ∃ n : Nat, agN ds f k = n ∧ k ≤ n ∧ n < k + f ∧ badB ds n = true ∧ ∀ l, k ≤ l → l < n → badB ds l = false
  | 0, k => .inl ⟨rfl, fun n h1 h2 => by omega⟩
  | f + 1, k => by
    rw [agN]
    by_cases h : badB ds k = true
    · rw [if_pos h]
      exact .inr ⟨k, rfl, Nat.le_refl _, by omega, h, fun l h1 h2 => by omega⟩
    · rw [if_neg h]
      have h' := Bool.eq_false_iff.2 h
      rcases agN_spec (ds := ds) f (k + 1) with ⟨e, g⟩ | ⟨n, e, g1, g2, g3, g4⟩
      · refine .inl ⟨e, fun n h1 h2 => ?_⟩
        by_cases q : n = k
        · subst q; exact h'
        · exact g n (by omega) (by omega)
      · refine .inr ⟨n, e, by omega, by omega, g3, fun l h1 h2 => ?_⟩
        by_cases q : l = k
        · subst q; exact h'
        · exact g4 l (by omega) h2
def meK (ds : List D) (k j : Nat) : Int := meetE [.i (zoneA (zk ds k)), .i (zoneB (zk ds k)), .i (zoneC (zk ds k)), .i (zoneD (zk ds k)), .i (lg (rAt ds 12) j 0), .i (lg (rAt ds 12) j 1), .i (lg (rAt ds 12) j 2), .i (lg (rAt ds 12) j 3)]
theorem anyN_iff {ds : List D} {k : Nat} : ∀ f i, anyN ds k f i = true ↔ ∃ j, i ≤ j ∧ j < i + f ∧ meK ds k j = 0
  | 0, i => ⟨fun h => absurd h (by simp [anyN]), fun ⟨j, h1, h2, _⟩ => by omega⟩
  | f + 1, i => by
    rw [anyN, Bool.or_eq_true, decide_eq_true_eq, anyN_iff f (i + 1)]
    constructor
    · rintro (h | ⟨j, h1, h2, h3⟩)
      · exact ⟨i, by omega, by omega, h⟩
      · exact ⟨j, by omega, by omega, h3⟩
    · rintro ⟨j, h1, h2, h3⟩
      by_cases e : j = i
      · subst e; exact .inl h3
      · exact .inr ⟨j, by omega, by omega, h3⟩
theorem vbN_iff {ds : List D} : ∀ f i, vbN ds f i = true ↔ ∀ j, i ≤ j → j < i + f → arV ds j = true
  | 0, i => ⟨fun _ j h1 h2 => by omega, fun _ => rfl⟩
  | f + 1, i => by
    rw [vbN, Bool.and_eq_true, vbN_iff f (i + 1)]
    constructor
    · rintro ⟨h1, h2⟩ j g1 g2
      by_cases e : j = i
      · subst e; exact h1
      · exact h2 j (by omega) (by omega)
    · exact fun h => ⟨h i (Nat.le_refl _) (by omega), fun j g1 g2 => h j (by omega) (by omega)⟩
theorem zone_box {z : List D} (h : zoneE z = 0) : boxB (zoneA z) (zoneB z) (zoneC z) (zoneD z) = true := by
  unfold zoneE at h
  by_cases q : zoneO z = true
  · rw [if_pos q] at h
    have x : growX (zoneL z) = true := by
      unfold growE at h
      by_cases x : growX (zoneL z) = true
      · exact x
      · rw [if_neg x] at h
        split at h <;> exact absurd h (by decide)
    unfold zoneA zoneB zoneC zoneD growA growB growC growD
    rw [if_pos q, if_pos q, if_pos q, if_pos q, if_pos x, if_pos x, if_pos x, if_pos x]
    unfold growX at x
    exact (Bool.and_eq_true_iff.1 x).2
  · rw [if_neg q] at h; exact absurd h (by decide)
theorem meet_zero {a b c d e f g h : Int} (h1 : boxB a b c d = true) (h2 : boxB e f g h = true) : meetE [.i a, .i b, .i c, .i d, .i e, .i f, .i g, .i h] = 0 ↔ a ≤ f ∧ e ≤ b ∧ c ≤ h ∧ g ≤ d := by
  have e8 : box8 [.i a, .i b, .i c, .i d, .i e, .i f, .i g, .i h] = true := by
    show (boxB a b c d && boxB e f g h) = true
    rw [h1, h2]; rfl
  have eO : meetOn [.i a, .i b, .i c, .i d, .i e, .i f, .i g, .i h] = decide (max a e ≤ min b f ∧ max c g ≤ min d h) := rfl
  rw [boxB_t] at h1 h2
  unfold meetE meet8
  rw [e8, eO, Bool.true_and]
  by_cases q : max a e ≤ min b f ∧ max c g ≤ min d h
  · rw [decide_eq_true q, if_pos rfl]
    exact ⟨fun _ => by omega, fun _ => rfl⟩
  · rw [decide_eq_false q, if_neg (by decide), if_pos rfl]
    exact ⟨fun x => absurd x (by decide), fun x => absurd (by omega) q⟩
theorem again_facts {ds : List D} (h : againE ds = 0) : againO ds = true ∧ (0 ≤ iAt ds 5 ∧ iAt ds 5 ≤ (rAt ds 4).length ∧ (rAt ds 12).length ≤ 60) ∧ vbN ds (rAt ds 12).length 0 = true ∧ againI ds = agN ds ((rAt ds 4).length - (iAt ds 5).toNat) (iAt ds 5).toNat := by
  have hO : againO ds = true := by
    unfold againE at h
    by_cases q : againO ds = true
    · exact q
    · rw [if_neg q] at h; exact absurd h (by decide)
  have h2 := hO
  unfold againO at h2
  simp only [Bool.and_eq_true, decide_eq_true_eq] at h2
  exact ⟨hO, h2.2.2.2.2.2.1, h2.2.2.2.2.2.2, by unfold againI; rw [hO]; rfl⟩
theorem best_again {ds : List D} (h : againO ds = true) {n : Nat} (hn : n < (rAt ds 4).length) : bestE (agD ds n) = finE (agD ds n) (rAt ds 0).length := by
  unfold againO at h
  simp only [Bool.and_eq_true, decide_eq_true_eq] at h
  have hO : bestO (agD ds n) = true := by
    show (shsB (rAt ds 0) && (psgB (iAt ds 1) (iAt ds 2) (iAt ds 3) (rAt ds 4) && (decide (0 ≤ (n : Int) ∧ (n : Int) < (rAt ds 4).length) && (kevB (iAt ds 6) (iAt ds 7) (rAt ds 8) && tideB (iAt ds 9) (iAt ds 10) (rAt ds 11))))) = true
    rw [h.1, h.2.1, h.2.2.2.1, h.2.2.2.2.1, decide_eq_true (by omega)]; rfl
  unfold bestE
  rw [hO]; rfl
theorem bad_iff {ds : List D} (h : againO ds = true) {n : Nat} (hn : n < (rAt ds 4).length) : badB ds n = true ↔ bestE (agD ds n) ≠ 0 ∨ zoneE (zk ds n) ≠ 0 ∨ ∃ j : Nat, j < (rAt ds 12).length ∧ zoneA (zk ds n) ≤ lg (rAt ds 12) j 1 ∧ lg (rAt ds 12) j 0 ≤ zoneB (zk ds n) ∧ zoneC (zk ds n) ≤ lg (rAt ds 12) j 3 ∧ lg (rAt ds 12) j 2 ≤ zoneD (zk ds n) := by
  rw [best_again h hn]
  have hv : vbN ds (rAt ds 12).length 0 = true := by
    unfold againO at h
    simp only [Bool.and_eq_true] at h
    exact h.2.2.2.2.2.2
  rw [vbN_iff] at hv
  unfold badB
  rw [Bool.or_eq_true, Bool.or_eq_true, anyN_iff]
  simp only [Bool.not_eq_true', decide_eq_false_iff_not]
  have key : zoneE (zk ds n) = 0 → ∀ j : Nat, j < (rAt ds 12).length → (meK ds n j = 0 ↔ zoneA (zk ds n) ≤ lg (rAt ds 12) j 1 ∧ lg (rAt ds 12) j 0 ≤ zoneB (zk ds n) ∧ zoneC (zk ds n) ≤ lg (rAt ds 12) j 3 ∧ lg (rAt ds 12) j 2 ≤ zoneD (zk ds n)) := fun hz j hj => meet_zero (zone_box hz) (hv j (Nat.zero_le _) (by omega))
  by_cases hz : zoneE (zk ds n) = 0
  · constructor
    · rintro (q | q | ⟨j, q1, q2, q3⟩)
      · exact absurd hz q
      · exact .inl q
      · exact .inr (.inr ⟨j, by omega, (key hz j (by omega)).1 q3⟩)
    · rintro (q | q | ⟨j, q1, q2⟩)
      · exact .inr (.inl q)
      · exact absurd hz q
      · exact .inr (.inr ⟨j, Nat.zero_le _, by omega, (key hz j q1).2 q2⟩)
  · exact ⟨fun _ => .inr (.inl hz), fun _ => .inl hz⟩
def dA (ds : List D) (a : Rows) : List D := [.l (rAt ds 0), .i (iAt ds 1), .i (iAt ds 2), .i (iAt ds 3), .l (rAt ds 4), .i (iAt ds 11), .i (iAt ds 5), .i (iAt ds 6), .l (rAt ds 7), .i (iAt ds 8), .i (iAt ds 9), .l (rAt ds 10), .l a]
theorem bad_more {ds : List D} {a : Rows} {row : List D} {n : Nat} (h : badB (dA ds a) n = true) : badB (dA ds (a ++ [row])) n = true := by
  unfold badB at h ⊢
  rw [Bool.or_eq_true, Bool.or_eq_true, anyN_iff] at h ⊢
  refine h.imp id (fun h => h.imp id (fun ⟨j, h1, h2, h3⟩ => ⟨j, h1, ?_, ?_⟩))
  · have h2 : j < 0 + a.length := h2
    show j < 0 + (a ++ [row]).length
    rw [List.length_append]; omega
  · have h2 : j < 0 + a.length := h2
    have e : ∀ c, lg (a ++ [row]) j c = lg a j c := fun c => lg_app_low (by omega)
    have h3 : meetE [.i (zoneA (zk (dA ds a) n)), .i (zoneB (zk (dA ds a) n)), .i (zoneC (zk (dA ds a) n)), .i (zoneD (zk (dA ds a) n)), .i (lg a j 0), .i (lg a j 1), .i (lg a j 2), .i (lg a j 3)] = 0 := h3
    show meetE [.i (zoneA (zk (dA ds a) n)), .i (zoneB (zk (dA ds a) n)), .i (zoneC (zk (dA ds a) n)), .i (zoneD (zk (dA ds a) n)), .i (lg (a ++ [row]) j 0), .i (lg (a ++ [row]) j 1), .i (lg (a ++ [row]) j 2), .i (lg (a ++ [row]) j 3)] = 0
    rw [e, e, e, e]; exact h3
theorem again_more {ds : List D} {a : Rows} {row : List D} (h : againE (dA ds a) = 0) (h2 : againE (dA ds (a ++ [row])) = 0) :
    (againI (dA ds a) < 0 ∨ (0 ≤ againI (dA ds (a ++ [row])) ∧ againI (dA ds (a ++ [row])) ≤ againI (dA ds a))) ∧ (againI (dA ds (a ++ [row])) < 0 ∨ iAt ds 11 ≤ againI (dA ds (a ++ [row]))) := by
  obtain ⟨_, f2, _, f4⟩ := again_facts h
  obtain ⟨_, _, _, g4⟩ := again_facts h2
  have f2 : 0 ≤ iAt ds 11 ∧ iAt ds 11 ≤ (rAt ds 4).length ∧ a.length ≤ 60 := f2
  have f4 : againI (dA ds a) = agN (dA ds a) ((rAt ds 4).length - (iAt ds 11).toNat) (iAt ds 11).toNat := f4
  have g4 : againI (dA ds (a ++ [row])) = agN (dA ds (a ++ [row])) ((rAt ds 4).length - (iAt ds 11).toNat) (iAt ds 11).toNat := g4
  rw [f4, g4]
  rcases agN_spec (ds := dA ds (a ++ [row])) ((rAt ds 4).length - (iAt ds 11).toNat) (iAt ds 11).toNat with ⟨q, q1⟩ | ⟨n, q, q1, q2, q3, q4⟩
  · rcases agN_spec (ds := dA ds a) ((rAt ds 4).length - (iAt ds 11).toNat) (iAt ds 11).toNat with ⟨p, p1⟩ | ⟨m, p, p1, p2, p3, p4⟩
    · rw [p, q]; exact ⟨.inl (by decide), .inl (by decide)⟩
    · have := q1 m p1 p2
      rw [bad_more p3] at this; cases this
  · rw [q]
    refine ⟨?_, .inr (by omega)⟩
    rcases agN_spec (ds := dA ds a) ((rAt ds 4).length - (iAt ds 11).toNat) (iAt ds 11).toNat with ⟨p, p1⟩ | ⟨m, p, p1, p2, p3, p4⟩
    · rw [p]; exact .inl (by decide)
    · rw [p]
      refine .inr ⟨by omega, ?_⟩
      by_cases z : n ≤ m
      · omega
      · have := q4 m p1 (by omega)
        rw [bad_more p3] at this; cases this
end Go.Proofs.YtkjjkckcjgkhmaaGreat
/- Chapter 40: the law CheckCertified. -/
namespace Go.Proofs.YtkjjkckcjgkhmaaGreat
open Go.RowKit
theorem shsN_fw {r : Rows} : ∀ (f i : Nat) (last : Int), shsN r f i last = true → ∀ k : Nat, i ≤ k → k < i + f → sheetL (rowSh r k) = true ∧ last < lg r k 0 ∧ ∀ l : Nat, k < l → l < i + f → lg r k 0 < lg r l 0
  | 0, i, last, _, k, h1, h2 => by omega
  | f + 1, i, last, h, k, h1, h2 => by
    simp only [shsN, Bool.and_eq_true, decide_eq_true_eq] at h
    by_cases e : k = i
    · subst e
      exact ⟨h.1.1, h.1.2, fun l g1 g2 => (shsN_fw f (k + 1) _ h.2 l (by omega) (by omega)).2.1⟩
    · obtain ⟨g1, g2, g3⟩ := shsN_fw f (i + 1) _ h.2 k (by omega) (by omega)
      exact ⟨g1, by omega, fun l q1 q2 => g3 l q1 (by omega)⟩
theorem shs_spec {r : Rows} (h : shsB r = true) : r.length ≤ 20 ∧ (∀ k : Nat, k < r.length → sheetL (rowSh r k) = true) ∧ (∀ k l : Nat, k < l → l < r.length → lg r k 0 < lg r l 0) := by
  simp only [shsB, Bool.and_eq_true, decide_eq_true_eq] at h
  exact ⟨h.2, fun k hk => (shsN_fw _ 0 0 h.1 k (by omega) (by omega)).1, fun k l h1 h2 => (shsN_fw _ 0 0 h.1 k (by omega) (by omega)).2.2 l h1 (by omega)⟩
theorem fin_other {ds : List D} {i : Nat} (h : finE ds i ≠ 20) : finI ds i = 0 := by
  unfold finI finE at *
  split
  · rfl
  · rename_i q
    rw [if_neg q] at h
    unfold legR
    rw [if_neg (fun x => h x.1)]
theorem lg_snoc {a : Rows} {row : List D} {c : Nat} : lg (a ++ [row]) (a.length : Nat) c = (row[c]?.getD (.i 0)).int := by
  unfold lg cellAt
  rw [Int.toNat_natCast, List.getElem?_append_right (Nat.le_refl _), Nat.sub_self]
  rfl
theorem chN_at {ds : List D} : ∀ n k : Nat, k < n → lg (chN ds n) k 0 = fiJ (.i 0 :: fq ds k)
  | n + 1, k, h => by
    rw [chN]
    by_cases e : k = n
    · subst e
      have := lg_snoc (a := chN ds k) (row := [.i (fiJ (.i 0 :: fq ds k))]) (c := 0)
      rw [chN_len] at this
      rw [this]; rfl
    · rw [lg_app_low (by rw [chN_len]; omega)]
      exact chN_at n k (by omega)
theorem diN_at {ds : List D} : ∀ n k : Nat, k < n → lg (diN ds n) k 0 = digI (shF ds k)
  | n + 1, k, h => by
    rw [diN]
    by_cases e : k = n
    · subst e
      have := lg_snoc (a := diN ds k) (row := [.i (digI (shF ds k))]) (c := 0)
      rw [diN_len] at this
      rw [this]; rfl
    · rw [lg_app_low (by rw [diN_len]; omega)]
      exact diN_at n k (by omega)
theorem idxN_at {r : Rows} {c : Int} {j : Nat} (hj : lg r j 0 = c) : ∀ f i : Nat, i ≤ j → j < i + f → (∀ l : Nat, i ≤ l → l < j → lg r l 0 ≠ c) → idxN r c f i = j
  | 0, i, h1, h2, _ => by omega
  | f + 1, i, h1, h2, h3 => by
    rw [idxN]
    by_cases e : i = j
    · subst e; rw [if_pos hj]
    · rw [if_neg (h3 i (Nat.le_refl _) (by omega))]
      exact idxN_at hj f (i + 1) (by omega) (by omega) (fun l l1 l2 => h3 l (by omega) l2)
theorem mkO_parts {ds : List D} (h : mkO ds = true) : shsB (rAt ds 0) = true ∧ psgB (iAt ds 1) (iAt ds 2) (iAt ds 3) (rAt ds 4) = true ∧ 0 < (rAt ds 4).length ∧ kevB (iAt ds 5) (iAt ds 6) (rAt ds 7) = true ∧ tideB (iAt ds 8) (iAt ds 9) (rAt ds 10) = true := by
  unfold mkO at h
  simp only [Bool.and_eq_true, decide_eq_true_eq] at h
  exact h
theorem mk_not {ds : List D} (h : mkE ds ≠ 0) : mkC ds = [] ∧ mkDi ds = [] ∧ (mkE ds = 20 ∨ mkI ds = 0) ∧ 0 ≤ mkK ds := by
  refine ⟨by unfold mkC; rw [if_neg h], by unfold mkDi; rw [if_neg h], ?_, ?_⟩
  · by_cases hO : mkO ds = true
    · unfold mkE mkI at *
      rw [if_pos hO] at h ⊢
      rw [if_pos hO]
      by_cases c : mkS ds < (rAt ds 4).length
      · rw [if_pos c] at h ⊢
        rw [if_pos c]
        by_cases q : fiE (fq ds (mkS ds)) = 20
        · exact .inl q
        · exact .inr (fin_other q)
      · rw [if_neg c] at h; exact absurd rfl h
    · right; unfold mkI; rw [if_neg hO]
  · by_cases hO : mkO ds = true
    · unfold mkE mkK at *
      rw [if_pos hO] at h ⊢
      by_cases c : mkS ds < (rAt ds 4).length
      · rw [if_pos c]; omega
      · rw [if_neg c] at h; exact absurd rfl h
    · unfold mkK; rw [if_neg hO]; omega
theorem mk_yes {ds : List D} (h : mkE ds = 0) : mkO ds = true ∧ ∀ l, l < (rAt ds 4).length → fiE (fq ds l) = 0 := by
  have hO : mkO ds = true := by
    cases q : mkO ds with
    | true => rfl
    | false => rw [(mk_arg q).2.2.1] at h; exact absurd h (by decide)
  refine ⟨hO, ?_⟩
  obtain ⟨a, b, c, d⟩ := mkF_spec (ds := ds) (rAt ds 4).length 0
  intro l hl
  by_cases q : mkS ds < (rAt ds 4).length
  · unfold mkE at h
    rw [hO, if_pos rfl, if_pos q] at h
    exact absurd h (d (by unfold mkS at q; omega))
  · exact c l (Nat.zero_le _) (by unfold mkS at q; omega)
def vA (ds : List D) (ch di : Rows) : List D := [.l (rAt ds 0), .i (iAt ds 1), .i (iAt ds 2), .i (iAt ds 3), .l (rAt ds 4), .i (iAt ds 5), .i (iAt ds 6), .l (rAt ds 7), .i (iAt ds 8), .i (iAt ds 9), .l (rAt ds 10), .l ch, .l di]
theorem verN_of {ds : List D} : ∀ f k, (∀ l, k ≤ l → l < k + f → verK ds l = true) → verN ds f k = true
  | 0, _, _ => rfl
  | f + 1, k, h => by rw [verN, h k (Nat.le_refl _) (by omega), verN_of f (k + 1) (fun l l1 l2 => h l (by omega) (by omega))]; rfl
theorem mk_verified {ds : List D} (h : mkE ds = 0) : verR (vA ds (mkC ds) (mkDi ds)) = true ∧ verE (vA ds (mkC ds) (mkDi ds)) = 0 := by
  obtain ⟨hO, hf⟩ := mk_yes h
  obtain ⟨_, _, _, hC, hD⟩ := mk_all hO hf
  obtain ⟨o1, _⟩ := mkO_parts hO
  obtain ⟨_, s2, s3⟩ := shs_spec o1
  have hO2 : mkO (vA ds (mkC ds) (mkDi ds)) = true := hO
  refine ⟨?_, by unfold verE; rw [hO2]; rfl⟩
  unfold verR
  rw [hO2, hC, hD, decide_eq_true (show (rAt (vA ds (chN ds (rAt ds 4).length) (diN ds (rAt ds 4).length)) 11).length = (rAt (vA ds (chN ds (rAt ds 4).length) (diN ds (rAt ds 4).length)) 4).length ∧ (rAt (vA ds (chN ds (rAt ds 4).length) (diN ds (rAt ds 4).length)) 12).length = (rAt (vA ds (chN ds (rAt ds 4).length) (diN ds (rAt ds 4).length)) 4).length from ⟨chN_len _, diN_len _⟩)]
  refine (Bool.true_and _).trans ((Bool.true_and _).trans (verN_of _ _ (fun k _ hk => ?_)))
  have hk : k < (rAt ds 4).length := by have : k < 0 + (rAt ds 4).length := hk; omega
  obtain ⟨j, j1, j2, j3, j4⟩ := shF_row (hf k hk)
  have eC : lg (chN ds (rAt ds 4).length) k 0 = lg (rAt ds 0) j 0 := by
    rw [chN_at _ _ hk]
    have : shF ds k = rowSh (rAt ds 0) j := j4
    unfold shF rowSh at this
    injection this with this
    injection this
  have eI : verI (vA ds (chN ds (rAt ds 4).length) (diN ds (rAt ds 4).length)) k = j := by
    show idxN (rAt ds 0) (lg (chN ds (rAt ds 4).length) k 0) (rAt ds 0).length 0 = j
    refine idxN_at eC.symm _ _ (Nat.zero_le _) (by omega) (fun l _ hl => ?_)
    rw [eC]
    have := s3 l j hl j1
    omega
  unfold verK
  rw [eI]
  show (decide (j < (rAt ds 0).length) && (decide (digE (rowSh (rAt ds 0) j) = 0) && (decide (digI (rowSh (rAt ds 0) j) = lg (diN ds (rAt ds 4).length) k 0) && decide (legE (rowLeg (mkD ds k) j) = 0)))) = true
  rw [diN_at _ _ hk, j4, decide_eq_true j1, decide_eq_true (p := digE (rowSh (rAt ds 0) j) = 0) (by unfold digE; rw [s2 j j1]; rfl), decide_eq_true rfl, decide_eq_true j3]
  rfl
def aA (ds : List D) (k : Int) : List D := [.l (rAt ds 0), .i (iAt ds 1), .i (iAt ds 2), .i (iAt ds 3), .l (rAt ds 4), .i k, .i (iAt ds 5), .i (iAt ds 6), .l (rAt ds 7), .i (iAt ds 8), .i (iAt ds 9), .l (rAt ds 10), .l []]
theorem mk_again {ds : List D} (h : mkE ds = 0) (k : Int) : (againE (aA ds k) ≠ 0 → k < 0 ∨ (rAt ds 4).length < k) ∧ (againE (aA ds k) = 0 → againI (aA ds k) < 0 ∨ (k ≤ againI (aA ds k) ∧ zoneE [.i (iAt ds 1), .i (iAt ds 2), .i (iAt ds 3), .l (rAt ds 4), .i (againI (aA ds k))] ≠ 0)) := by
  obtain ⟨hO, hf⟩ := mk_yes h
  obtain ⟨o1, o2, o3, o4, o5⟩ := mkO_parts hO
  constructor
  · intro g
    rcases Int.lt_or_le k 0 with q | q
    · exact .inl q
    · rcases Int.lt_or_le ((rAt ds 4).length : Int) k with q2 | q2
      · exact .inr q2
      · exfalso
        apply g
        have : againO (aA ds k) = true := by
          show (shsB (rAt ds 0) && (psgB (iAt ds 1) (iAt ds 2) (iAt ds 3) (rAt ds 4) && (decide (0 < (rAt ds 4).length) && (kevB (iAt ds 5) (iAt ds 6) (rAt ds 7) && (tideB (iAt ds 8) (iAt ds 9) (rAt ds 10) && (decide (0 ≤ k ∧ k ≤ (rAt ds 4).length ∧ ([] : Rows).length ≤ 60) && true)))))) = true
          rw [o1, o2, o4, o5, decide_eq_true o3, decide_eq_true ⟨q, q2, by decide⟩]; rfl
        unfold againE; rw [this]; rfl
  · intro g
    obtain ⟨_, f2, _, f4⟩ := again_facts g
    have f2 : 0 ≤ k ∧ k ≤ (rAt ds 4).length ∧ ([] : Rows).length ≤ 60 := f2
    have f4 : againI (aA ds k) = agN (aA ds k) ((rAt ds 4).length - k.toNat) k.toNat := f4
    rcases agN_spec (ds := aA ds k) ((rAt ds 4).length - k.toNat) k.toNat with ⟨p, _⟩ | ⟨n, p, p1, p2, p3, _⟩
    · rw [f4, p]; exact .inl (by decide)
    · right
      rw [f4, p]
      refine ⟨by omega, ?_⟩
      have hz : badB (aA ds k) n = true := p3
      have hb : finE (agD (aA ds k) n) (rAt ds 0).length = 0 := hf n (by omega)
      unfold badB at hz
      have hb2 : finE (agD (aA ds k) n) (rAt (aA ds k) 0).length = 0 := hb
      have ha : anyN (aA ds k) n (rAt (aA ds k) 12).length 0 = false := rfl
      rw [hb2, ha] at hz
      simp only [decide_true, Bool.not_true, Bool.or_false, Bool.not_eq_true', decide_eq_false_iff_not] at hz
      exact hz
def mA (ds : List D) : List D := [.l (rAt ds 0), .i (iAt ds 1), .i (iAt ds 2), .i (iAt ds 3), .l (rAt ds 4), .i (iAt ds 5), .i (iAt ds 6), .l (rAt ds 7), .i (iAt ds 8), .i (iAt ds 9), .l (rAt ds 10)]
theorem N10i240 (W : World) (ds l : List D) : (envOf N10 W ds).fi 240 l = mkK l := by simp only [envOf, N10, N9c, N9b, N9, N8, N7, N6, N5, N4, N3, N2, N1, KG, KF, KE, KD, KC, KB, KA, K9, K8, K7, K6, K5, K]
theorem N10i241 (W : World) (ds l : List D) : (envOf N10 W ds).fi 241 l = mkI l := by simp only [envOf, N10, N9c, N9b, N9, N8, N7, N6, N5, N4, N3, N2, N1, KG, KF, KE, KD, KC, KB, KA, K9, K8, K7, K6, K5, K]
theorem N10i242 (W : World) (ds l : List D) : (envOf N10 W ds).fi 242 l = mkE l := by simp only [envOf, N10, N9c, N9b, N9, N8, N7, N6, N5, N4, N3, N2, N1, KG, KF, KE, KD, KC, KB, KA, K9, K8, K7, K6, K5, K]
theorem N10b243 (W : World) (ds l : List D) : (envOf N10 W ds).fb 243 l = verR l := by simp only [envOf, N10, N9c, N9b, N9, N8, N7, N6, N5, N4, N3, N2, N1, KG, KF, KE, KD, KC, KB, KA, K9, K8, K7, K6, K5, K]
theorem N10i244 (W : World) (ds l : List D) : (envOf N10 W ds).fi 244 l = verE l := by simp only [envOf, N10, N9c, N9b, N9, N8, N7, N6, N5, N4, N3, N2, N1, KG, KF, KE, KD, KC, KB, KA, K9, K8, K7, K6, K5, K]
theorem N10d4 (W : World) (ds l : List D) : (envOf N10 W ds).fd 4 l = mkC l := by simp only [envOf, N10, N9c, N9b, N9, N8, N7, N6, N5, N4, N3, N2, N1, KG, KF, KE, KD, KC, KB, KA, K9, K8, K7, K6, K5, K]
theorem N10d5 (W : World) (ds l : List D) : (envOf N10 W ds).fd 5 l = mkDi l := by simp only [envOf, N10, N9c, N9b, N9, N8, N7, N6, N5, N4, N3, N2, N1, KG, KF, KE, KD, KC, KB, KA, K9, K8, K7, K6, K5, K]
theorem N10i210 (W : World) (ds l : List D) : (envOf N10 W ds).fi 210 l = againI l := by simp only [envOf, N10, N9c, N9b, N9, N8, N7, N6, N5, N4, N3, N2, N1, KG, KF, KE, KD, KC, KB, KA, K9, K8, K7, K6, K5, K]
theorem N10i211 (W : World) (ds l : List D) : (envOf N10 W ds).fi 211 l = againE l := by simp only [envOf, N10, N9c, N9b, N9, N8, N7, N6, N5, N4, N3, N2, N1, KG, KF, KE, KD, KC, KB, KA, K9, K8, K7, K6, K5, K]
theorem N10i58 (W : World) (ds l : List D) : (envOf N10 W ds).fi 58 l = zoneE l := by simp only [envOf, N10, N9c, N9b, N9, N8, N7, N6, N5, N4, N3, N2, N1, KG, KF, KE, KD, KC, KB, KA, K9, K8, K7, K6, K5, K]
set_option maxHeartbeats 2000000 in
theorem gCertLaw : Gives Tryz.prog 3 [caseS, it] (fun _ => .bool true) := by
  refine GivesIf.all (fn_gives N10 (by kernel_rfl) (fun ρ h => ctO4_ok (Sees.of h 250) (SeesD.of h 6)) (by kernel_rfl) trLawCert_is trLawCert_low (by decide) (fun W vals ds hr _ => ?_))
  have eM : [D.l (rAt ds 0), .i (iAt ds 1), .i (iAt ds 2), .i (iAt ds 3), .l (rAt ds 4), .i (iAt ds 5), .i (iAt ds 6), .l (rAt ds 7), .i (iAt ds 8), .i (iAt ds 9), .l (rAt ds 10)] = mA ds := rfl
  have eV : ∀ ch di, [D.l (rAt ds 0), .i (iAt ds 1), .i (iAt ds 2), .i (iAt ds 3), .l (rAt ds 4), .i (iAt ds 5), .i (iAt ds 6), .l (rAt ds 7), .i (iAt ds 8), .i (iAt ds 9), .l (rAt ds 10), .l ch, .l di] = vA (mA ds) ch di := fun _ _ => rfl
  have eA : [D.l (rAt ds 0), .i (iAt ds 1), .i (iAt ds 2), .i (iAt ds 3), .l (rAt ds 4), .i (iAt ds 11), .i (iAt ds 5), .i (iAt ds 6), .l (rAt ds 7), .i (iAt ds 8), .i (iAt ds 9), .l (rAt ds 10), .l []] = aA (mA ds) (iAt ds 11) := rfl
  have e4 : rAt ds 4 = rAt (mA ds) 4 := rfl
  simp only [trLawCert, TT.sat_ret, TT.sat_ite, B.ev, E.ev, X.ev, cmp_t, cmp_f, V.plain, V2.plain, S.plain, S0.plain, V.val, V2.val, S.val, S0.val, envOf_d, true_and, cmpP]
  clear hr
  refine ⟨fun _ => trivial, fun h4 => ⟨fun _ => trivial, fun h6 => ?_⟩⟩
  refine TT.sat_loop (fun v => ∃ i : Nat, v.i 0 = i ∧ i ≤ (rAt ds 0).length) (fun v => (rAt ds 0).length - (v.i 0).toNat) ⟨0, by simp [val_i, aget, E.ev], by omega⟩ (fun v hv => ?_)
  obtain ⟨i, i0, i1⟩ := hv
  simp only [TT.sat_ret, TT.sat_ite, TT.sat_ob, TT.sat_next, put_i, put_d, put_fi, put_fb, put_fd, Ob.ok, B.ev, E.ev, X.ev, AL.ev, cmp_t, cmp_f, arEv, envOf_i, envOf_d, true_and, cell_lr, cmpP, val_i, aget, beq_self_eq_true, if_true, if_false, Nat.reduceLT, Nat.reduceSub, Nat.sub_self, Nat.lt_irrefl, X.ev, i0, N10i240, N10i241, N10i242, N10b243, N10i244, N10d4, N10d5, N10i210, N10i211, N10i58, eM, eV, eA]
  refine ⟨fun hc => ⟨by omega, hc, fun _ => trivial, fun _ => ?_⟩, fun hc => ⟨fun h => ?_, fun h => ?_⟩⟩
  · rw [wrap_in ((i : Int) + 1) (by omega) (by omega)]
    exact ⟨⟨i + 1, rfl, by omega⟩, by omega⟩
  · obtain ⟨a, b, c, d⟩ := mk_not h
    rw [a, b]
    refine ⟨fun _ => ⟨fun _ => ⟨fun _ => ?_, fun e => ⟨fun _ => ?_, fun f => ?_⟩⟩, fun q => absurd rfl q⟩, fun q => absurd rfl q⟩
    · simp only [cmpEv, ge_iff_le, d, decide_true]
    · simp only [cmpEv, ge_iff_le, d, decide_true]
    · exact (c.elim e f).elim
  · have h : mkE (mA ds) = 0 := Decidable.not_not.mp h
    obtain ⟨hO, hf⟩ := mk_yes h
    obtain ⟨a1, a2, a3, a4, a5⟩ := mk_all hO hf
    obtain ⟨v1, v2⟩ := mk_verified h
    obtain ⟨g1, g2⟩ := mk_again h (iAt ds 11)
    have el : (mkC (mA ds)).length = (rAt ds 4).length := by rw [a4, chN_len]; rfl
    generalize againE (aA (mA ds) (iAt ds 11)) = E at *
    generalize againI (aA (mA ds) (iAt ds 11)) = I at *
    rw [a1, a2, v1, v2, el]
    have g1 : ¬ E = 0 → iAt ds 11 < 0 ∨ (rAt ds 4).length < iAt ds 11 := g1
    have g2 : E = 0 → I < 0 ∨ (iAt ds 11 ≤ I ∧ zoneE [.i (iAt ds 1), .i (iAt ds 2), .i (iAt ds 3), .l (rAt ds 4), .i I] ≠ 0) := g2
    refine ⟨fun _ => ⟨fun _ => ⟨fun _ => ⟨fun _ => ⟨fun e => ⟨fun _ => ⟨fun q => absurd q e, fun _ => ⟨fun _ => trivial, fun q => ?_⟩⟩, fun q => absurd rfl q⟩, fun e => ⟨fun q => ⟨fun _ => ⟨fun _ => trivial, fun q2 => absurd (Decidable.not_not.mp e) q2⟩, fun q2 => absurd rfl q2⟩, fun q => ⟨fun _ => ⟨fun q3 => ?_, fun q3 => ?_⟩, fun q2 => absurd rfl q2⟩⟩⟩, fun q => by cases q⟩, fun q => absurd rfl q⟩, fun q => absurd rfl q⟩, fun q => absurd rfl q⟩
    · have := g1 e
      have : iAt ds 11 > (rAt ds 4).length := by omega
      simp only [cmpEv, this, decide_true]
    · rcases g2 (Decidable.not_not.mp e) with z | ⟨z1, z2⟩
      · exact absurd z q
      · simp only [cmpEv, bne_iff_ne.2 z2]
    · rcases g2 (Decidable.not_not.mp e) with z | ⟨z1, z2⟩
      · exact absurd z q
      · exact absurd z1 (by omega)
end Go.Proofs.YtkjjkckcjgkhmaaGreat
