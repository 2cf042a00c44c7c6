/- Chapter 11: the row of GridWater. -/
import Derived.Test.YtcjaembdcfppfaaLWater
import Derived.Test.YtcjaembdcfppfaaMK
set_option linter.unusedSimpArgs false
set_option linter.unusedVariables false
namespace Go.Proofs.Ytcjaembdcfppfaa
open Go.ChangeShapes Go.WideShapes Go.ChangeAt Go.RowKit
theorem okWide_u16 {P : Program} {w : World} {r : Reach} {base : Nat} {t : TypeId} {v : Value} (hu : P.underlying t = some (.int .u16)) (h : Value.okWide P w r base t v) : ∃ n : Int, v = .int .u16 n ∧ 0 ≤ n ∧ n ≤ 65535 := by
  unfold Value.okWide at h
  simp only [hu] at h
  unfold Cell.okWide at h
  simp only [hu] at h
  unfold Cell.ok at h
  simp only [hu] at h
  cases v <;> simp only at h <;> try exact h.elim
  rename_i k n
  obtain ⟨rfl, h⟩ := h
  refine ⟨n, rfl, ?_⟩
  have e1 : IntKind.u16.min = 0 := by decide
  have e2 : IntKind.u16.max = 65535 := by decide
  unfold IntKind.has at h
  rw [e1, e2] at h
  exact h
theorem u16_args {W : World} {vals : List Value} {ds : List D} (h : repSh W [gridS, it, u16S, u16S] vals ds) (hr : ∀ v, vals[2]? = some v → ∃ n : Int, v = .int .u16 n ∧ 0 ≤ n ∧ n ≤ 65535) (hs : ∀ v, vals[3]? = some v → ∃ n : Int, v = .int .u16 n ∧ 0 ≤ n ∧ n ≤ 65535) :
    (0 ≤ iAt ds 7 ∧ iAt ds 7 ≤ 65535) ∧ 0 ≤ iAt ds 8 ∧ iAt ds 8 ≤ 65535 := by
  obtain ⟨v0, vs0, d0, ds0, rfl, rfl, ⟨us0, rfl, h0⟩, v1, vs1, d1, ds1, rfl, rfl, ⟨x1, rfl, _⟩, v3, vs3, d3, ds3, rfl, rfl, ⟨x3, rfl, h3⟩, v4, vs4, d4, ds4, rfl, rfl, ⟨x4, rfl, h4⟩, rfl, rfl⟩ := h
  obtain ⟨n, rfl, n1, n2⟩ := hr v3 rfl
  obtain ⟨m, rfl, m1, m2⟩ := hs v4 rfl
  unfold CK.rep at h3 h4
  obtain ⟨n', e1, rfl⟩ := h3
  cases e1
  obtain ⟨m', e2, rfl⟩ := h4
  cases e2
  have l0 : d0.length = 6 := (reps_len h0).2
  have e3 : iAt (d0 ++ ([x1] ++ ([D.i n] ++ ([D.i m] ++ [])))) 7 = n := by
    unfold iAt
    rw [List.getD_eq_getElem?_getD, List.getElem?_append_right (by omega)]
    simp [l0, D.int]
  have e4 : iAt (d0 ++ ([x1] ++ ([D.i n] ++ ([D.i m] ++ [])))) 8 = m := by
    unfold iAt
    rw [List.getD_eq_getElem?_getD, List.getElem?_append_right (by omega)]
    simp [l0, D.int]
  rw [e3, e4]
  exact ⟨⟨n1, n2⟩, m1, m2⟩
set_option maxRecDepth 100000 in
theorem gridWater_lifted (os : Os) (started : os.Started) (H : Type) (enc : TypeId × Value → H) :
    ReturnsInHanded {} Try.checked os 3 .any (Rows.gridWaterSpec.pre6 enc Try.prog Try.f3 Rows.gridWaterRow.domain false) (Rows.gridWaterSpec.post enc Try.prog Try.f3 false true false false) := by
  refine returnsInHanded_of_change_sized (C := Try.checked) Try.own started (by kernel_rfl) Try.func3
    (ChangeSpec.witness6 (enc := enc) (C := Try.checked) false ⟨#[], #[.agg #[.int .i64 0, .int .i64 0, .int .i64 0, .int .i64 0, .int .i64 0, .slice none 0 0], .int .i64 0, .int .u16 0, .int .u16 0], []⟩ 8 (by kernel_rfl) (by kernel_rfl) (by kernel_rfl) (by kernel_rfl)) ?_
  intro W base args ds gs before hval0 hW hcnd hsz _
  have hval : ∀ (j : Nat) t v, Try.f3.params[j]? = some t → args[j]? = some v → Value.okWide Try.prog W .any base t v := hval0
  have hW' := hW
  obtain ⟨p, q, hA0, hV, rfl, hfz, hnd⟩ := hW
  have hA : DataW.TrodAll enc Try.prog W 0 (fun _ => true) true Try.f3.params.toList args.toList ds p := hA0
  obtain ⟨rfl, rfl⟩ := trodVars_none hV
  have hsz : (DataW.weightsEach Try.prog Try.f3.params.toList ds).all (· ≤ reachBytes) = true := by have h0 := hsz; rw [List.append_nil] at h0; exact h0
  rw [Try.params3] at hA hval hsz
  have hAll := hA
  obtain ⟨xs, hxs⟩ := args_rep (base := base) _ _ (by kernel_rfl) args.toList ds p hA (fun j t v h1 h2 => hval j t v (by simpa using h1) (by simpa using h2)) hsz
  obtain ⟨v0, vs0, d0, ds0, p0, q0, hargs0, rfl, rfl, h0, r0⟩ := trodAll_cons hA
  obtain ⟨v1, vs1, d1, ds1, p1, q1, hargs1, rfl, rfl, h1, r1⟩ := trodAll_cons r0
  obtain ⟨v2, vs2, d2, ds2, p2, q2, hargs2, rfl, rfl, h2, r2⟩ := trodAll_cons r1
  obtain ⟨v3, vs3, d3, ds3, p3, q3, hargs3, rfl, rfl, h3, r3⟩ := trodAll_cons r2
  obtain ⟨hargs4, rfl, rfl⟩ := trodAll_nil r3
  have hcall := gWaterLaw W args.toList xs hxs (u16_args hxs (fun v hv => okWide_u16 (by kernel_rfl) (hval 2 _ v rfl (by simpa using hv))) (fun v hv => okWide_u16 (by kernel_rfl) (hval 3 _ v rfl (by simpa using hv))))
  rw [Array.toArray_toList] at hcall
  refine hcall.mono fun e W' ⟨he, hw⟩ => ?_
  subst he
  exact ⟨_, rfl, post_of_below hW' (fun _ _ _ => trodAll_mk1 (shut_bool Try.underlying4 true)) (fun sp hsp => trodAll_later Try.laidOut hw sp _ _ _ _ (by kernel_rfl) hAll (fun x hx => hW'.lt x (by simpa using hx)) (fun x hx => hsp x (by simpa using hx))) (fun _ _ => rfl) rfl hw
    (ok_one (by kernel_rfl) rfl (okWide_bool_mk Try.underlying4 true))⟩

theorem fA {a b : Bool} (h : a = true) (k : b = true) : (a && b) = true := by rw [h, k]; rfl
set_option maxHeartbeats 40000000 in
theorem closedFacts : joinedFacts Try.checked.prog 3 Try.f3 Rows.gridWaterSpec Rows.gridWaterRow = true := by
  unfold joinedFacts
  refine (fA (fA (fA (fA (fA (fA (fA (fA (fA (fA (fA (fA (fA (fA (fA (fA (fA (fA (fA (fA (fA (fA (fA (fA (fA (fA (fA (fA (fA (fA (fA ?_ ?_) ?_) ?_) ?_) ?_) ?_) ?_) ?_) ?_) ?_) ?_) ?_) ?_) ?_) ?_) ?_) ?_) ?_) ?_) ?_) ?_) ?_) ?_) ?_) ?_) ?_) ?_) ?_) ?_) ?_) ?_)
  all_goals as_aux_lemma => kernel_rfl
theorem gridWater_holds : Rows.GridWaterSaid :=
  OpenClaim.holds_of_wide 3 Try.f3 rfl rfl rfl rfl rfl rfl rfl ⟨rfl, rfl, rfl, rfl, rfl⟩ rfl rfl rfl rfl rfl (by kernel_rfl) Try.func3 closedFacts
    (of_decide_eq_true (by kernel_rfl)) (by unfold Func.isWrapper; rw [if_neg (of_decide_eq_false (by kernel_rfl))]; exact ⟨rfl, rfl⟩)
    (fun os started H enc _ => gridWater_lifted os started H enc)
#print axioms gridWater_holds
end Go.Proofs.Ytcjaembdcfppfaa
