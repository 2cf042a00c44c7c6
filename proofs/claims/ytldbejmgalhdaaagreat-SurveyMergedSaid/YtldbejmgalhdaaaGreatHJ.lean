/- HJ, merged: Vp, Vq. -/
import Derived.Test.YtldbejmgalhdaaaGreatHI
set_option linter.unusedSimpArgs false
set_option linter.unusedVariables false
/- Chapter 09: survey's Model, Allows, Clashes. -/
namespace Go.Proofs.YtldbejmgalhdaaaGreat
open Go.RowKit
def mdS (s F : Rows) : Rows := insL F ((curR s).map ftr)
def mdR (ds : List D) : Rows := if surL ds = true then mdS (rAt ds 0) (rAt ds 1) else []
def nlMod : NL := { e := 59, ks := featK, s := 2, rows := mdR }
theorem KVcb150 (W : World) (ds l : List D) : (envOf KVc W ds).fb 150 l = surL l := by simp only [envOf, KVc, KVb]
theorem KVcb136 (W : World) (ds l : List D) : (envOf KVc W ds).fb 136 l = risL l := by simp only [envOf, KVc, KVb, KVa]
theorem KVci135 (W : World) (ds l : List D) : (envOf KVc W ds).fi 135 l = lowL l := by simp only [envOf, KVc, KVb, KVa]
theorem low_two (r : Rows) (n : Int) : lowL [.l r, .i n] = (lowR r n : Nat) := rfl
theorem ftr_id (x : List D) : cI (ftr x) 0 = cI x 0 := rfl
theorem cur_map_ris {s : Rows} (h : RisP s) : RisP ((curR s).map ftr) := by
  unfold RisP
  rw [List.pairwise_map]
  exact cur_ris h
theorem insF_sub (r : Rows) (row : List D) : subR r 0 (lowR r (cI row 0) : Nat) ++ ([row] ++ []) ++ subR r (lowR r (cI row 0) : Nat) (r.length : Nat) = insF r row := by
  have := (lowR_spec r (cI row 0)).1
  unfold insF subR
  simp only [Int.toNat_zero, List.drop_zero, Nat.sub_zero, Int.toNat_natCast, List.append_nil, List.append_assoc, List.cons_append, List.nil_append]
  congr 2
  exact List.take_of_length_le (by rw [List.length_drop]; omega)
theorem gSModel : GivesN Tryz.prog 18 [suv] [nlMod] (fun _ => True) (fun _ ds vs u => ∃ v, vs = [v] ∧ u = .tuple #[v, .int .i64 (scE ds)]) := by
  refine fn_givesN1 KVc (by kernel_rfl) (fun ρ h => ctV3_ok (Sees.of h 170) (SeesD.of h 2)) (by kernel_rfl) trSModel_is trSModel_low (by decide) (fun w0 vals ds hr _ => ?_)
  simp only [trSModel, TT.sat_ret, TT.sat_ite, TT.sat_ob, TT.sat_next, TT.sat_stuck, put_i, put_b, put_d, put_fi, put_fb, put_fd, Ob.ok, B.ev, E.ev, X.ev, AL.ev, cmp_t, cmp_f, arEv, V.plain, V2.plain, S.plain, S0.plain, V.val, V2.val, S.val, S0.val, bV, iV, List.all_cons, List.all_nil, Bool.and_true, Bool.and_self, envOf_i, envOf_b, envOf_d, List.map_cons, List.map_nil, true_and, Bool.not_eq_true', Bool.not_eq_false', Bool.not_not, Bool.and_eq_true, and_f, cell_lg, cell_lb, cell_lr, cmpP, val_i, val_b, val_d, aget, Nat.reduceBEq, beq_self_eq_true, Bool.false_eq_true, if_true, if_false, Nat.reduceLT, Nat.reduceSub, Nat.sub_self, Nat.lt_irrefl, KVcb150, KVcd0, sur_two, cur_two]
  have hR : nlMod.rows ds = if surB (rAt ds 0) (rAt ds 1) = true then mdS (rAt ds 0) (rAt ds 1) else [] := rfl
  have hE : scE ds = if surB (rAt ds 0) (rAt ds 1) = true then 0 else 1 := rfl
  clear hr
  generalize e0 : rAt ds 0 = s at *
  generalize e1 : rAt ds 1 = F at *
  refine ⟨fun hv => ?_, fun hv => ?_⟩
  · rw [hv] at hR hE
    exact leaf_two (x := .nil) (by kernel_rfl) (by rw [hR]; simp [X.ev]) (by rw [hE]; simp [E.ev])
  · rw [if_pos hv] at hR hE
    have hl := cur_len s
    obtain ⟨⟨f1, f2⟩, f3, f4, f5⟩ := sur_iff.1 hv
    refine ⟨by omega, by omega, ?_⟩
    refine TT.sat_loop (fun v => ∃ i : Nat, v.i 1 = i ∧ i ≤ (curR s).length ∧ v.d 2 = insL F (((curR s).map ftr).take i)) (fun v => (curR s).length - (v.i 1).toNat)
      ⟨0, by simp [val_i, aget, E.ev], by omega, by simp [val_d, aget, X.ev, envOf_d, e1, insL]⟩ (fun v hv => ?_)
    obtain ⟨i, i0, i1, i2⟩ := hv
    simp only [TT.sat_ret, TT.sat_ite, TT.sat_ob, TT.sat_next, TT.sat_stuck, put_i, put_b, put_d, put_fi, put_fb, put_fd, Ob.ok, B.ev, E.ev, X.ev, AL.ev, cmp_t, cmp_f, arEv, V.plain, V2.plain, S.plain, S0.plain, V.val, V2.val, S.val, S0.val, bV, iV, List.all_cons, List.all_nil, Bool.and_true, Bool.and_self, envOf_i, envOf_b, envOf_d, List.map_cons, List.map_nil, true_and, Bool.not_eq_true', Bool.not_eq_false', Bool.not_not, Bool.and_eq_true, and_f, cell_lg, cell_lb, cell_lr, cmpP, val_i, val_b, val_d, aget, Nat.reduceBEq, beq_self_eq_true, Bool.false_eq_true, if_true, if_false, Nat.reduceLT, Nat.reduceSub, Nat.sub_self, Nat.lt_irrefl, i0, i2, e0, e1, KVcd0, cur_two, KVcb136, KVci135, low_two, ris_one]
    refine ⟨fun hc => ?_, fun hc => ?_⟩
    · have hi : i < (curR s).length := by omega
      have him : i < ((curR s).map ftr).length := by rw [List.length_map]; exact hi
      have hris : RisP (insL F (((curR s).map ftr).take i)) := ris_insL _ F (list_iff.1 f1).2.1 ((cur_map_ris f4).sublist (List.take_sublist _ _)) (fun a ha b hb => by
        obtain ⟨x, hx, rfl⟩ := List.mem_map.1 (List.mem_of_mem_take hb)
        exact f5 x (cur_mem.1 hx).1 a ha)
      have hlen : (insL F (((curR s).map ftr).take i)).length ≤ 300 := by
        rw [len_insL, List.length_take, List.length_map]; omega
      have hnx : insL F (((curR s).map ftr).take (i + 1)) = insF (insL F (((curR s).map ftr).take i)) (ftr (curR s)[i]) := by
        rw [List.take_succ_eq_append_getElem him, insL_snoc, List.getElem_map]
      have hlo := (lowR_spec (insL F (((curR s).map ftr).take i)) (cI (curR s)[i] 0)).1
      have hins := insF_sub (insL F (((curR s).map ftr).take i)) (ftr (curR s)[i])
      rw [ftr_id, ← hnx] at hins
      rw [wrap_in ((i : Int) + 1) (by omega) (by omega)]
      simp only [lg_cI hi]
      refine ⟨by omega, by omega, risP_iff.2 hris, by omega, by omega, by omega, ⟨i + 1, rfl, by omega, ?_⟩, by omega⟩
      exact hins
    · have hi : i = (curR s).length := by omega
      refine leaf_two (x := .var 4002) (by kernel_rfl) ?_ (by rw [hE]; simp [E.ev])
      rw [hR, mdS]
      simp only [X.ev, put_d, Nat.reduceLT, if_false, Nat.reduceSub, i2, hi]
      rw [List.take_of_length_le (by rw [List.length_map]; exact Nat.le_refl _)]
/-! ### Allows -/
def covR9 (row : List D) (px py : Int) : Bool := covR (row ++ [.i px, .i py])
def offB (x : List D) (px py d : Int) : Bool := covR9 (ftr x) px py && (decide (d < cI x 4) || decide (cI x 5 < d))
def offF (f : List D) (px py d : Int) : Bool := covR9 f px py && decide (d < cI f 6)
def alwS (s F : Rows) (px py d : Int) : Bool := (curR s).all (fun x => !offB x px py d) && F.all (fun f => !offF f px py d)
def alwO (ds : List D) : Bool := surL ds && placeB (iAt ds 2) (iAt ds 3)
def alwR (ds : List D) : Bool := alwO ds && (decide (0 ≤ iAt ds 4 ∧ iAt ds 4 ≤ 100000) && alwS (rAt ds 0) (rAt ds 1) (iAt ds 2) (iAt ds 3) (iAt ds 4))
def alwE (ds : List D) : Int := if alwO ds = true then 0 else 1
theorem KVcb3 (W : World) (ds l : List D) : (envOf KVc W ds).fb 3 l = placeL l := by simp only [envOf, KVc, KVb, KVa, K80, K79, K78, K77, K76, K75, K74, K73, K72, K71, KI, KH, KG, KF, KE, KD, KC, KB, KA, K9, K8, K7, K6, K5, K]
theorem KVcb78 (W : World) (ds l : List D) : (envOf KVc W ds).fb 78 l = covR l := by simp only [envOf, KVc, KVb, KVa, K80, K79, K78, K77, K76, K75, K74, K73, K72, K71, KI, KH, KG]
theorem KVcb120 (W : World) (ds l : List D) : (envOf KVc W ds).fb 120 l = feToR l := by simp only [envOf, KVc, KVb, KVa, K80, K79, K78, K77, K76]
theorem place_two9 (x y : Int) : placeL [.i x, .i y] = placeB x y := rfl
def row9 (row : List D) : Prop := row = [.i (cI row 0), .i (cI row 1), .i (cI row 2), .i (cI row 3), .i (cI row 4), .l (cR row 5), .i (cI row 6), .i (cI row 7), .l (cR row 8)]
theorem reps_row9 {w : World} {us : List Value} {row : List D} (h : CK.reps w featK us row) : row9 row := by
  have hl : row.length = 9 := (reps_len h).2
  have hi : ∀ j, j < 9 → j ≠ 5 → j ≠ 8 → row[j]? = some (.i (cI row j)) := fun j hj h5 h8 => by
    obtain ⟨v, d, _, h1, h2⟩ := reps_get (j := j) (k := .int .i64) h (by
      rcases (show j = 0 ∨ j = 1 ∨ j = 2 ∨ j = 3 ∨ j = 4 ∨ j = 6 ∨ j = 7 by omega) with e | e | e | e | e | e | e <;> subst e <;> rfl)
    unfold CK.rep at h2
    obtain ⟨n, _, rfl⟩ := h2
    rw [h1]
    unfold cI
    rw [h1]
    rfl
  have hx : ∀ j, (j = 5 ∨ j = 8) → row[j]? = some (.l (cR row j)) := fun j hj => by
    have key : ∃ d : Rows, row[j]? = some (.l d) := by
      rcases hj with e | e <;> subst e
      · obtain ⟨v, d, _, h1, h2⟩ := reps_get (j := 5) (k := .sl ptK) h rfl
        rw [rep_sl] at h2
        obtain ⟨r, rfl, _⟩ := h2
        exact ⟨r, h1⟩
      · obtain ⟨v, d, _, h1, h2⟩ := reps_get (j := 8) (k := .sl secK) h rfl
        rw [rep_sl] at h2
        obtain ⟨r, rfl, _⟩ := h2
        exact ⟨r, h1⟩
    obtain ⟨d, hd⟩ := key
    rw [hd]
    unfold cR
    rw [hd]
    rfl
  unfold row9
  refine List.ext_getElem? (fun j => ?_)
  rcases Nat.lt_or_ge j 9 with q | q
  · rcases (show j = 0 ∨ j = 1 ∨ j = 2 ∨ j = 3 ∨ j = 4 ∨ j = 5 ∨ j = 6 ∨ j = 7 ∨ j = 8 by omega) with e | e | e | e | e | e | e | e | e <;> subst e
    · exact hi 0 (by omega) (by omega) (by omega)
    · exact hi 1 (by omega) (by omega) (by omega)
    · exact hi 2 (by omega) (by omega) (by omega)
    · exact hi 3 (by omega) (by omega) (by omega)
    · exact hi 4 (by omega) (by omega) (by omega)
    · exact hx 5 (.inl rfl)
    · exact hi 6 (by omega) (by omega) (by omega)
    · exact hi 7 (by omega) (by omega) (by omega)
    · exact hx 8 (.inr rfl)
  · rw [List.getElem?_eq_none (by omega), List.getElem?_eq_none (by simp; omega)]
theorem suv_feats {W : World} {vals : List Value} {ds : List D} {sh : List Sh} (h : repSh W (suv :: sh) vals ds) : ∀ row ∈ rAt ds 1, row9 row := by
  obtain ⟨v, vs', d, ds', rfl, rfl, ⟨us, rfl, h⟩, _⟩ := h
  have e1 : d.length = 2 := (reps_len h).2
  obtain ⟨_, x0, _, p0, q0⟩ := reps_get (j := 1) h rfl
  have a0 : (d ++ ds')[1]? = some x0 := by rw [List.getElem?_append_left (by omega)]; exact p0
  have gd : (d ++ ds').getD 1 (.i 0) = x0 := by rw [List.getD_eq_getElem?_getD, a0]; rfl
  intro row hrow
  unfold rAt at hrow
  rw [gd, rep_sl] at *
  obtain ⟨r, rfl, a, n, c, _, hs, _⟩ := q0
  obtain ⟨i, hi, rfl⟩ := List.getElem_of_mem hrow
  obtain ⟨b, hb⟩ := Option.isSome_iff_exists.1 (hs.there (by have := hs.len; have : i < r.length := hi; omega))
  obtain ⟨vs, g1, _⟩ := hs.cell b hb i r[i] (List.getElem?_eq_getElem hi)
  exact reps_row9 g1
theorem cov_row {row : List D} (h : row9 row) (px py : Int) : covR [.i (cI row 0), .i (cI row 1), .i (cI row 2), .i (cI row 3), .i (cI row 4), .l (cR row 5), .i (cI row 6), .i (cI row 7), .l (cR row 8), .i px, .i py] = covR9 row px py := by
  unfold covR9
  generalize e : covR (row ++ [.i px, .i py]) = b
  rw [h] at e
  exact e
set_option maxHeartbeats 1000000 in
theorem gSAllows : Gives Tryz.prog 23 [suv, pt, it] (fun ds => .tuple #[.bool (alwR ds), .int .i64 (alwE ds)]) := by
  refine GivesIf.all (fn_gives KVc (by kernel_rfl) (fun ρ h => ctV3_ok (Sees.of h 170) (SeesD.of h 2)) (by kernel_rfl) trSAllows_is trSAllows_low (by decide) (fun W vals ds hr _ => ?_))
  have h9 := suv_feats hr
  simp only [trSAllows, TT.sat_ret, TT.sat_ite, TT.sat_ob, TT.sat_next, TT.sat_stuck, put_i, put_b, put_d, put_fi, put_fb, put_fd, Ob.ok, B.ev, E.ev, X.ev, AL.ev, cmp_t, cmp_f, arEv, V.plain, V2.plain, S.plain, S0.plain, V.val, V2.val, S.val, S0.val, bV, iV, List.all_cons, List.all_nil, Bool.and_true, Bool.and_self, envOf_i, envOf_b, envOf_d, List.map_cons, List.map_nil, true_and, Bool.not_eq_true', Bool.not_eq_false', Bool.not_not, Bool.and_eq_true, and_f, cell_lg, cell_lb, cell_lr, cmpP, val_i, val_b, val_d, aget, Nat.reduceBEq, beq_self_eq_true, Bool.false_eq_true, if_true, if_false, Nat.reduceLT, Nat.reduceSub, Nat.sub_self, Nat.lt_irrefl, KVcb150, KVcd0, sur_two, cur_two, KVcb3, place_two9]
  have hR : alwR ds = ((surB (rAt ds 0) (rAt ds 1) && placeB (iAt ds 2) (iAt ds 3)) && (decide (0 ≤ iAt ds 4 ∧ iAt ds 4 ≤ 100000) && alwS (rAt ds 0) (rAt ds 1) (iAt ds 2) (iAt ds 3) (iAt ds 4))) := rfl
  have hE : alwE ds = if (surB (rAt ds 0) (rAt ds 1) && placeB (iAt ds 2) (iAt ds 3)) = true then 0 else 1 := rfl
  rw [hR, hE]
  clear hr hR hE
  generalize e0 : rAt ds 0 = s at *
  generalize e1 : rAt ds 1 = F at *
  generalize e2 : iAt ds 2 = px at *
  generalize e3 : iAt ds 3 = py at *
  generalize e4 : iAt ds 4 = d at *
  refine ⟨fun hv => ?_, fun hv => ⟨fun hp => ?_, fun hp => ⟨fun hd => ?_, fun hd => ⟨fun hd2 => ?_, fun hd2 => ?_⟩⟩⟩⟩
  · rw [hv]; rfl
  · rw [hv, hp]; rfl
  · rw [hv, hp, decide_eq_false (by omega)]; rfl
  · rw [hv, hp, decide_eq_false (by omega)]; rfl
  · rw [hv, hp, decide_eq_true (by omega)]
    have hl := cur_len s
    obtain ⟨⟨f1, f2⟩, f3, f4, f5⟩ := sur_iff.1 hv
    refine ⟨by omega, ?_⟩
    simp only [Bool.and_self, Bool.true_and, if_true]
    have NO : ∀ b, alwS s F px py d = b → Value.tuple #[.bool b, .int .i64 0] = .tuple #[.bool (alwS s F px py d), .int .i64 0] := fun b h => by rw [h]
    refine TT.sat_loop (fun v => ∃ i : Nat, v.i 0 = i ∧ i ≤ (curR s).length ∧ ∀ (k : Nat) (hk : k < (curR s).length), k < i → offB (curR s)[k] px py d = false) (fun v => (curR s).length - (v.i 0).toNat)
      ⟨0, by simp [val_i, aget, E.ev], by omega, fun k hk h => by omega⟩ (fun v hv => ?_)
    obtain ⟨i, i0, i1, i2⟩ := hv
    simp only [TT.sat_ret, TT.sat_ite, TT.sat_ob, TT.sat_next, TT.sat_stuck, put_i, put_b, put_d, put_fi, put_fb, put_fd, Ob.ok, B.ev, E.ev, X.ev, AL.ev, cmp_t, cmp_f, arEv, V.plain, V2.plain, S.plain, S0.plain, V.val, V2.val, S.val, S0.val, bV, iV, List.all_cons, List.all_nil, Bool.and_true, Bool.and_self, envOf_i, envOf_b, envOf_d, List.map_cons, List.map_nil, true_and, Bool.not_eq_true', Bool.not_eq_false', Bool.not_not, Bool.and_eq_true, and_f, cell_lg, cell_lb, cell_lr, cmpP, val_i, val_b, val_d, aget, Nat.reduceBEq, beq_self_eq_true, Bool.false_eq_true, if_true, if_false, Nat.reduceLT, Nat.reduceSub, Nat.sub_self, Nat.lt_irrefl, i0, e0, e1, e2, e3, e4, KVcd0, cur_two, KVcb78]
    refine ⟨fun hc => ?_, fun hc => ?_⟩
    · have hi : i < (curR s).length := by omega
      have hw1 : IntKind.i64.wrap ((i : Int) + 1) = ((i + 1 : Nat) : Int) := by rw [wrap_in _ (by omega) (by omega)]; rfl
      have hm : (curR s).length - (((i + 1 : Nat) : Int)).toNat < (curR s).length - (i : Int).toNat := by omega
      simp only [lg_cI hi, hw1]
      have hoff : offB (curR s)[i] px py d = (covR [.i (cI (curR s)[i] 0), .i 1, .i (cI (curR s)[i] 1), .i (cI (curR s)[i] 2), .i (cI (curR s)[i] 3), .l [], .i (cI (curR s)[i] 4), .i 0, .l [], .i px, .i py] && (decide (d < cI (curR s)[i] 4) || decide (cI (curR s)[i] 5 < d))) := rfl
      generalize covR _ = H at *
      have NX : offB (curR s)[i] px py d = false → ∀ (k : Nat) (hk : k < (curR s).length), k < i + 1 → offB (curR s)[k] px py d = false := fun h k hk hki => by
        by_cases e : k = i
        · subst e; exact h
        · exact i2 k hk (by omega)
      have YES : offB (curR s)[i] px py d = true → alwS s F px py d = false := fun h => by
        unfold alwS
        have : ((curR s).all fun x => !offB x px py d) = false := by
          rw [List.all_eq_false]
          exact ⟨_, List.getElem_mem hi, by rw [h]; decide⟩
        rw [this]; rfl
      refine ⟨by omega, by omega, fun h => ⟨fun g => NO _ (YES ?_), fun g => ⟨fun g2 => NO _ (YES ?_), fun g2 => ⟨⟨i + 1, rfl, by omega, NX ?_⟩, hm⟩⟩⟩, fun h => ⟨⟨i + 1, rfl, by omega, NX ?_⟩, hm⟩⟩
      · rw [hoff, h, decide_eq_true g]; rfl
      · rw [hoff, h, decide_eq_true g2]; simp
      · rw [hoff, h, decide_eq_false g, decide_eq_false g2]; rfl
      · rw [hoff, h]; rfl
    · have hi : i = (curR s).length := by omega
      have hcur : ((curR s).all fun x => !offB x px py d) = true := by
        rw [List.all_eq_true]
        intro x hx
        obtain ⟨k, hk, rfl⟩ := List.getElem_of_mem hx
        rw [i2 k hk (by omega)]; rfl
      have hA : alwS s F px py d = F.all fun f => !offF f px py d := by unfold alwS; rw [hcur]; rfl
      refine TT.sat_loop (fun v => ∃ j : Nat, v.i 0 = j ∧ j ≤ F.length ∧ ∀ (k : Nat) (hk : k < F.length), k < j → offF F[k] px py d = false) (fun v => F.length - (v.i 0).toNat)
        ⟨0, by simp [val_i, aget, E.ev], by omega, fun k hk h => by omega⟩ (fun t ht => ?_)
      obtain ⟨j, j0, j1, j2⟩ := ht
      simp only [TT.sat_ret, TT.sat_ite, TT.sat_ob, TT.sat_next, TT.sat_stuck, put_i, put_b, put_d, put_fi, put_fb, put_fd, Ob.ok, B.ev, E.ev, X.ev, AL.ev, cmp_t, cmp_f, arEv, V.plain, V2.plain, S.plain, S0.plain, V.val, V2.val, S.val, S0.val, bV, iV, List.all_cons, List.all_nil, Bool.and_true, Bool.and_self, envOf_i, envOf_b, envOf_d, List.map_cons, List.map_nil, true_and, Bool.not_eq_true', Bool.not_eq_false', Bool.not_not, Bool.and_eq_true, and_f, cell_lg, cell_lb, cell_lr, cmpP, val_i, val_b, val_d, aget, Nat.reduceBEq, beq_self_eq_true, Bool.false_eq_true, if_true, if_false, Nat.reduceLT, Nat.reduceSub, Nat.sub_self, Nat.lt_irrefl, j0, e0, e1, e2, e3, e4, KVcb78]
      refine ⟨fun hcj => ?_, fun hcj => ?_⟩
      · have hj : j < F.length := by omega
        have hw1 : IntKind.i64.wrap ((j : Int) + 1) = ((j + 1 : Nat) : Int) := by rw [wrap_in _ (by omega) (by omega)]; rfl
        have hm : F.length - (((j + 1 : Nat) : Int)).toNat < F.length - (j : Int).toNat := by omega
        simp only [lg_cI hj, lr_cR hj, hw1, cov_row (h9 _ (List.getElem_mem hj))]
        have hoff : offF F[j] px py d = (covR9 F[j] px py && decide (d < cI F[j] 6)) := rfl
        have NX : offF F[j] px py d = false → ∀ (k : Nat) (hk : k < F.length), k < j + 1 → offF F[k] px py d = false := fun h k hk hki => by
          by_cases e : k = j
          · subst e; exact h
          · exact j2 k hk (by omega)
        refine ⟨by omega, by omega, fun h => ⟨fun g => NO _ ?_, fun g => ⟨⟨j + 1, rfl, by omega, NX ?_⟩, hm⟩⟩, fun h => ⟨⟨j + 1, rfl, by omega, NX ?_⟩, hm⟩⟩
        · rw [hA, List.all_eq_false]
          exact ⟨_, List.getElem_mem hj, by rw [hoff, h, decide_eq_true g]; decide⟩
        · rw [hoff, h, decide_eq_false g]; rfl
        · rw [hoff, h]; rfl
      · refine NO _ ?_
        rw [hA, List.all_eq_true]
        intro f hf
        obtain ⟨k, hk, rfl⟩ := List.getElem_of_mem hf
        rw [j2 k hk (by omega)]; rfl
/-! ### Clashes -/
def clB (x y : List D) : Bool := decide (min (cI x 5) (cI y 5) < max (cI x 4) (cI y 4)) && feToR (ftr x ++ ftr y)
def prR (x y : List D) : List D := [.i (cI x 0), .i (cI y 0)]
def clS : Rows → Rows
  | [] => []
  | x :: r => (r.filter (clB x)).map (prR x) ++ clS r
theorem sub_len9 {r : Rows} {i : Nat} : (subR r (i : Nat) (r.length : Nat)).length = r.length - i := by
  simp only [subR, Int.toNat_natCast, List.length_take, List.length_drop]; omega
def clR (ds : List D) : Rows := if surL ds = true then clS (curR (rAt ds 0)) else []
def nlCl : NL := { e := 67, ks := [.int .i64, .int .i64], s := 3, rows := clR }
theorem clS_len : ∀ r : Rows, (clS r).length ≤ r.length * r.length
  | [] => Nat.le_refl _
  | x :: r => by
    rw [clS, List.length_append, List.length_map, List.length_cons]
    have h1 := clS_len r
    have h2 := List.length_filter_le (clB x) r
    have : (r.length + 1) * (r.length + 1) = r.length * r.length + r.length + r.length + 1 := by rw [Nat.add_mul, Nat.mul_add]; omega
    omega
set_option maxHeartbeats 1000000 in
theorem gSClash : GivesN Tryz.prog 25 [suv] [nlCl] (fun _ => True) (fun _ ds vs u => ∃ v, vs = [v] ∧ u = .tuple #[v, .int .i64 (scE ds)]) := by
  refine fn_givesN1 KVc (by kernel_rfl) (fun ρ h => ctV3_ok (Sees.of h 170) (SeesD.of h 2)) (by kernel_rfl) trSClash_is trSClash_low (by decide) (fun w0 vals ds hr _ => ?_)
  simp only [trSClash, TT.sat_ret, TT.sat_ite, TT.sat_ob, TT.sat_next, TT.sat_stuck, put_i, put_b, put_d, put_fi, put_fb, put_fd, Ob.ok, B.ev, E.ev, X.ev, AL.ev, cmp_t, cmp_f, arEv, V.plain, V2.plain, S.plain, S0.plain, V.val, V2.val, S.val, S0.val, bV, iV, List.all_cons, List.all_nil, Bool.and_true, Bool.and_self, envOf_i, envOf_b, envOf_d, List.map_cons, List.map_nil, true_and, Bool.not_eq_true', Bool.not_eq_false', Bool.not_not, Bool.and_eq_true, and_f, cell_lg, cell_lb, cell_lr, cmpP, val_i, val_b, val_d, aget, Nat.reduceBEq, beq_self_eq_true, Bool.false_eq_true, if_true, if_false, Nat.reduceLT, Nat.reduceSub, Nat.sub_self, Nat.lt_irrefl, KVcb150, KVcd0, sur_two, cur_two]
  have hR : nlCl.rows ds = if surB (rAt ds 0) (rAt ds 1) = true then clS (curR (rAt ds 0)) else [] := rfl
  have hE : scE ds = if surB (rAt ds 0) (rAt ds 1) = true then 0 else 1 := rfl
  clear hr
  generalize e0 : rAt ds 0 = s at *
  generalize e1 : rAt ds 1 = F at *
  refine ⟨fun hv => ?_, fun hv => ?_⟩
  · rw [hv] at hR hE
    exact leaf_two (x := .nil) (by kernel_rfl) (by rw [hR]; simp [X.ev]) (by rw [hE]; simp [E.ev])
  · rw [if_pos hv] at hR hE
    have hl := cur_len s
    obtain ⟨⟨f1, f2⟩, f3, f4, f5⟩ := sur_iff.1 hv
    refine ⟨by omega, ?_⟩
    generalize hC : curR s = C at *
    have hq := clS_len C
    have hq2 : C.length * C.length ≤ 300 * 300 := Nat.mul_le_mul (by omega) (by omega)
    refine TT.sat_loop (fun v => ∃ i : Nat, v.i 2 = i ∧ i ≤ C.length ∧ v.d 1 ++ clS (C.drop i) = clS C) (fun v => C.length - (v.i 2).toNat)
      ⟨0, by simp [val_i, aget, E.ev], by omega, by simp [val_d, aget, X.ev]⟩ (fun v hv => ?_)
    obtain ⟨i, i0, i1, i2⟩ := hv
    simp only [TT.sat_ret, TT.sat_ite, TT.sat_ob, TT.sat_next, TT.sat_stuck, put_i, put_b, put_d, put_fi, put_fb, put_fd, Ob.ok, B.ev, E.ev, X.ev, AL.ev, cmp_t, cmp_f, arEv, V.plain, V2.plain, S.plain, S0.plain, V.val, V2.val, S.val, S0.val, bV, iV, List.all_cons, List.all_nil, Bool.and_true, Bool.and_self, envOf_i, envOf_b, envOf_d, List.map_cons, List.map_nil, true_and, Bool.not_eq_true', Bool.not_eq_false', Bool.not_not, Bool.and_eq_true, and_f, cell_lg, cell_lb, cell_lr, cmpP, val_i, val_b, val_d, aget, Nat.reduceBEq, beq_self_eq_true, Bool.false_eq_true, if_true, if_false, Nat.reduceLT, Nat.reduceSub, Nat.sub_self, Nat.lt_irrefl, i0, e0, e1, KVcd0, cur_two, hC]
    refine ⟨fun hc => ?_, fun hc => ?_⟩
    · have hi : i < C.length := by omega
      have hw1 : IntKind.i64.wrap ((i : Int) + 1) = ((i + 1 : Nat) : Int) := by rw [wrap_in _ (by omega) (by omega)]; rfl
      have hm : C.length - (((i + 1 : Nat) : Int)).toNat < C.length - (i : Int).toNat := by omega
      have hdr : C.drop i = C[i] :: C.drop (i + 1) := List.drop_eq_getElem_cons hi
      rw [hdr, clS] at i2
      simp only [hw1]
      refine ⟨by omega, by omega, by omega, by omega, ?_⟩
      refine TT.sat_loop (fun t => ∃ j : Nat, t.i 0 = j ∧ j ≤ C.length - (i + 1) ∧ t.d 2 ++ (((C.drop (i + 1 + j)).filter (clB C[i])).map (prR C[i]) ++ clS (C.drop (i + 1))) = clS C) (fun t => C.length - (i + 1) - (t.i 0).toNat)
        ⟨0, by simp [val_i, aget, E.ev], by omega, by simpa [val_d, aget, X.ev, put_d] using i2⟩ (fun t ht => ?_)
      obtain ⟨j, j0, j1, j2⟩ := ht
      simp only [TT.sat_ret, TT.sat_ite, TT.sat_ob, TT.sat_next, TT.sat_stuck, put_i, put_b, put_d, put_fi, put_fb, put_fd, Ob.ok, B.ev, E.ev, X.ev, AL.ev, cmp_t, cmp_f, arEv, V.plain, V2.plain, S.plain, S0.plain, V.val, V2.val, S.val, S0.val, bV, iV, List.all_cons, List.all_nil, Bool.and_true, Bool.and_self, envOf_i, envOf_b, envOf_d, List.map_cons, List.map_nil, true_and, Bool.not_eq_true', Bool.not_eq_false', Bool.not_not, Bool.and_eq_true, and_f, cell_lg, cell_lb, cell_lr, cmpP, val_i, val_b, val_d, aget, Nat.reduceBEq, beq_self_eq_true, Bool.false_eq_true, if_true, if_false, Nat.reduceLT, Nat.reduceSub, Nat.sub_self, Nat.lt_irrefl, i0, j0, e0, e1, KVcd0, cur_two, hC, hw1, sub_len9, KVcb120]
      refine ⟨fun hcj => ?_, fun hcj => ?_⟩
      · have hj : i + 1 + j < C.length := by omega
        have hw2 : IntKind.i64.wrap ((j : Int) + 1) = ((j + 1 : Nat) : Int) := by rw [wrap_in _ (by omega) (by omega)]; rfl
        have hm2 : C.length - (i + 1) - (((j + 1 : Nat) : Int)).toNat < C.length - (i + 1) - (j : Int).toNat := by omega
        have hij : ((i + 1 : Nat) : Int) + (j : Int) = ((i + 1 + j : Nat) : Int) := by omega
        have hdj : C.drop (i + 1 + j) = C[i + 1 + j] :: C.drop (i + 1 + (j + 1)) := List.drop_eq_getElem_cons hj
        have htot := congrArg List.length j2
        simp only [List.length_append] at htot
        simp only [hij, hw2, lg_cI hi, lg_cI hj]
        rw [hdj] at j2
        have hcl : clB C[i] C[i + 1 + j] = (decide (min (cI C[i] 5) (cI C[i + 1 + j] 5) < max (cI C[i] 4) (cI C[i + 1 + j] 4)) && feToR [.i (cI C[i] 0), .i 1, .i (cI C[i] 1), .i (cI C[i] 2), .i (cI C[i] 3), .l [], .i (cI C[i] 4), .i 0, .l [], .i (cI C[i + 1 + j] 0), .i 1, .i (cI C[i + 1 + j] 1), .i (cI C[i + 1 + j] 2), .i (cI C[i + 1 + j] 3), .l [], .i (cI C[i + 1 + j] 4), .i 0, .l []]) := rfl
        generalize feToR _ = H at *
        have NO : clB C[i] C[i + 1 + j] = false → t.d 2 ++ (((C.drop (i + 1 + (j + 1))).filter (clB C[i])).map (prR C[i]) ++ clS (C.drop (i + 1))) = clS C := fun h => by
          rw [List.filter_cons_of_neg (by simp [h])] at j2; exact j2
        refine ⟨by omega, by omega, fun g => ⟨⟨j + 1, rfl, by omega, NO ?_⟩, hm2⟩, fun g => ⟨fun h => ⟨?_, ⟨j + 1, rfl, by omega, ?_⟩, hm2⟩, fun h => ⟨⟨j + 1, rfl, by omega, NO ?_⟩, hm2⟩⟩⟩
        · rw [hcl, decide_eq_false (by omega)]; rfl
        · have hc1 : clB C[i] C[i + 1 + j] = true := by rw [hcl, decide_eq_true (by omega), h]; rfl
          rw [List.filter_cons_of_pos hc1] at j2
          have := congrArg List.length j2
          simp only [List.length_append, List.length_map, List.length_cons, List.length_nil] at this ⊢
          omega
        · have hc1 : clB C[i] C[i + 1 + j] = true := by rw [hcl, decide_eq_true (by omega), h]; rfl
          rw [List.filter_cons_of_pos hc1, List.map_cons] at j2
          rw [← j2]
          simp only [List.append_assoc, List.cons_append, List.nil_append, List.append_nil]
          rfl
        · rw [hcl, h]; simp
      · have hj : i + 1 + j = C.length := by omega
        have hnil : C.drop (i + 1 + j) = [] := List.drop_eq_nil_of_le (by omega)
        rw [hnil] at j2
        rw [if_neg (by decide)]
        exact ⟨⟨i + 1, rfl, by omega, by simpa using j2⟩, hm⟩
    · have hi : i = C.length := by omega
      refine leaf_two (x := .var 3001) (by kernel_rfl) ?_ (by rw [hE]; simp [E.ev])
      rw [hR, ← i2, hi, List.drop_length]
      simp only [X.ev, put_d, Nat.reduceLT, if_false, Nat.reduceSub, clS, List.append_nil]
end Go.Proofs.YtldbejmgalhdaaaGreat
/- Chapter 09: contracts of survey's Model, Allows, Clashes. -/
namespace Go.Proofs.YtldbejmgalhdaaaGreat
open Go.RowKit
def KVd : Interp where
  fi n l := match n with | 170 => alwE l | n => KVc.fi n l
  fb n l := match n with | 170 => alwR l | n => KVc.fb n l
  fd n l := match n with | 2 => mdR l | 3 => clR l | n => KVc.fd n l
theorem KVd_KVcd {ρ : Env} (h : SeesD ρ KVd 4) : SeesD ρ KVc 2 := fun n l hn => by
  rw [h n l (by omega)]
  simp only [KVd]
  split <;> first | omega | rfl
theorem KVd_KVc {ρ : Env} (h : Sees ρ KVd 180) : Sees ρ KVc 170 := h.trans (by decide) fun n l hn => by
  refine ⟨?_, ?_⟩
  ·
    simp only [KVd]
    split <;> first | omega | rfl
  ·
    simp only [KVd]
    split <;> first | omega | rfl
def cSAllows := ctD [suv, pt, it] fun al => .ret (.tup [.one (sBF 170 alwR al), .one (sIF 170 alwE al)])
theorem cSAllows_ok {ρ : Env} (h : Sees ρ KVd 180) : CtOne Tryz.prog ρ 23 cSAllows :=
  ctD_ok gSAllows (fun _ => rfl) (fun al => by simp only [V.val, V2.val, S.val, S0.val, sIF, sBF, List.map_cons, List.map_nil, bF_ev (s := 170) (f := alwR) (fun l => by rw [(h 170 l (by decide)).2]; simp only [KVd]), iF_ev (s := 170) (f := alwE) (fun l => by rw [(h 170 l (by decide)).1]; simp only [KVd])]; try rfl)
def cSModel (args : List V) (_mem : Mem) (nx : Nat) : T OpR := match argsE [suv] args with
  | some al => ctN [nlMod] [] (.tup [.one (.z (.own nx (.lit 0))), .one (sIF 160 scE al)]) al nx
  | none => .stuck "Model"
theorem cSModel_ok {ρ : Env} (h : Sees ρ KVd 180) (hd : SeesD ρ KVd 4) : CtOne Tryz.prog ρ 18 cSModel := by
  intro args mem nx q hq hle σ W vals hr hfr hdl
  unfold cSModel at hq
  split at hq
  · rename_i al ha
    refine ctN_ok gSModel ha (fun _ => trivial) (fun l hl a => ?_) hq (fun σ' vs u hv hl hres => ?_) hr hfr hdl
    · obtain rfl := List.mem_singleton.1 hl
      show ρ.fd 2 a = mdR a
      rw [hd 2 _ (by decide)]; simp only [KVd]
    · obtain ⟨v, rfl, rfl⟩ := hres
      obtain ⟨a1, a2, a3, a4, a5⟩ := hv 0 v rfl
      refine ⟨[v, .int .i64 (scE (al.ev ρ))], ⟨⟨⟨a2, a3, a4, a5⟩, a1⟩, ?_, trivial⟩, rfl⟩
      show Value.int .i64 (scE (al.ev ρ)) = .int .i64 ((iF 160 scE al).ev ρ)
      rw [iF_ev (s := 160) (f := scE) (fun l => by rw [(h 160 l (by decide)).1]; simp only [KVd, KVc])]
  · exact hq.elim
def cSClash := cNewT [suv] nlCl (fun _ => []) fun al nx => .tup [.one (.z (.own nx (.lit 0))), .one (sIF 160 scE al)]
theorem cSClash_ok {ρ : Env} (h : Sees ρ KVd 180) (hd : SeesD ρ KVd 4) : CtOne Tryz.prog ρ 25 cSClash := by
  refine cNewT_ok gSClash (by decide) (fun al _ => trivial) (fun a => ?_) (fun al nx σ' v hv => ?_)
  · show ρ.fd 3 a = clR a
    rw [hd 3 _ (by decide)]; simp only [KVd]
  · refine ⟨[v, .int .i64 (scE (al.ev ρ))], ⟨hv, ?_, trivial⟩, rfl⟩
    show Value.int .i64 (scE (al.ev ρ)) = .int .i64 ((iF 160 scE al).ev ρ)
    rw [iF_ev (s := 160) (f := scE) (fun l => by rw [(h 160 l (by decide)).1]; simp only [KVd, KVc])]
def ctV4 : Ct := (18, cSModel) :: (23, cSAllows) :: (25, cSClash) :: ctV3
theorem ctV4_ok {ρ : Env} (h : Sees ρ KVd 180) (hd : SeesD ρ KVd 4) : CtOk Tryz.prog ρ ctV4 := .cons (cSModel_ok h hd) <| .cons (cSAllows_ok h) <| .cons (cSClash_ok h hd) <| ctV3_ok (KVd_KVc h) (KVd_KVcd hd)
end Go.Proofs.YtldbejmgalhdaaaGreat
