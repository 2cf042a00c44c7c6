import Derived.Test.YtkjjkckcjgkhmaaGreatLFirst
import Derived.Test.YtkjjkckcjgkhmaaGreatMK
set_option linter.unusedVariables false
namespace Go.Proofs.YtkjjkckcjgkhmaaGreat
open Go.ChangeShapes Go.WideShapes Go.ChangeAt Go.RowKit
set_option maxRecDepth 100000 in
theorem lf (os : Os) (st : os.Started) (H : Type) (enc : TypeId × Value → H) :
    ReturnsInHanded {} Tryz.checked os 8 .any (Rows.checkFirstSpec.pre6 enc Tryz.prog Tryz.f8 Rows.checkFirstRow.domain false) (Rows.checkFirstSpec.post enc Tryz.prog Tryz.f8 false true false false) := by
  refine returnsInHanded_of_change_sized (C := Tryz.checked) Tryz.own st (by kernel_rfl) Tryz.func8
    (ChangeSpec.witness6 (enc := enc) (C := Tryz.checked) false ⟨#[], #[.agg #[.slice none 0 0, .int .i64 0, .int .i64 0, .int .i64 0, .slice none 0 0, .int .i64 0, .int .i64 0, .slice none 0 0, .int .i64 0, .int .i64 0, .slice none 0 0]], []⟩ 8 (by kernel_rfl) (by kernel_rfl) (by kernel_rfl) (by kernel_rfl)) ?_
  intro W b a ds gs z k hW _ hs _
  have v : ∀ (j : Nat) t u, Tryz.f8.params[j]? = some t → a[j]? = some u → Value.okWide Tryz.prog W .any b t u := k
  have hW' := hW
  obtain ⟨p, q, hA0, hV, rfl, _, hn⟩ := hW
  have hA : DataW.TrodAll enc Tryz.prog W 0 (fun _ => true) true Tryz.f8.params.toList a.toList ds p := hA0
  obtain ⟨rfl, rfl⟩ := trodVars_none hV
  have hs : (DataW.weightsEach Tryz.prog Tryz.f8.params.toList ds).all (· ≤ reachBytes) = true := by have h0 := hs; rw [List.append_nil] at h0; exact h0
  rw [Tryz.params8] at hA v hs
  have hU := hA
  obtain ⟨xs, hx⟩ := args_rep (base := b) _ _ (by kernel_rfl) a.toList ds p hA (fun j t u h i => v j t u (by simpa using h) (by simpa using i)) hs
  obtain ⟨_, _, _, _, _, _, ha0, rfl, rfl, h0, r0⟩ := trodAll_cons hA
  obtain ⟨ha1, rfl, rfl⟩ := trodAll_nil r0
  have hc := gFirstLaw W a.toList xs hx
  rw [Array.toArray_toList] at hc
  refine hc.mono fun e W' ⟨he, hw⟩ => ?_
  subst he
  exact ⟨_, rfl, post_of_below hW' (fun _ _ _ => trodAll_mk1 (shut_bool Tryz.underlying4 true)) (fun sp hsp => trodAll_later Tryz.laidOut hw sp _ _ _ _ (by kernel_rfl) hU (fun x hx => hW'.lt x (by simpa using hx)) (fun x hx => hsp x (by simpa using hx))) (fun _ _ => rfl) rfl hw
    (ok_one (by kernel_rfl) rfl (okWide_bool_mk Tryz.underlying4 true))⟩
theorem checkFirst_holds : Rows.CheckFirstSaid :=
  OpenClaim.holds_of_wide 8 Tryz.f8 rfl rfl rfl rfl rfl rfl rfl ⟨rfl, rfl, rfl, rfl, rfl⟩ rfl rfl rfl rfl rfl (by kernel_rfl) Tryz.func8 (by kernel_rfl)
    (of_decide_eq_true (by kernel_rfl)) (by unfold Func.isWrapper; rw [if_neg (of_decide_eq_false (by kernel_rfl))]; exact ⟨rfl, rfl⟩)
    fun os st H enc _ => lf os st H enc
#print axioms checkFirst_holds
end Go.Proofs.YtkjjkckcjgkhmaaGreat
