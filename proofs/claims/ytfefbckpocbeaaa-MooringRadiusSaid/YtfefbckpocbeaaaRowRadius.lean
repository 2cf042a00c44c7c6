/- MooringRadius: for any mooring and heights the law returns true, and leaves its arguments as they were. No condition. -/
import Derived.Test.YtfefbckpocbeaaaU
import Derived.Test.YtfefbckpocbeaaaL
namespace Go.Proofs.Ytfefbckpocbeaaa
open Go.ChangeShapes Go.WideShapes Go.ChangeAt Go.RowKit

set_option maxRecDepth 100000 in
theorem mooringRadius_lifted (os : Os) (started : os.Started) (H : Type) (enc : TypeId × Value → H) :
    ReturnsInHanded {} Try.checked os 3 .any (Rows.mooringRadiusSpec.pre6 enc Try.prog Try.f3 Rows.mooringRadiusRow.domain false) (Rows.mooringRadiusSpec.post enc Try.prog Try.f3 false true false false) := by
  refine returnsInHanded_of_change (C := Try.checked) Try.own started (by kernel_rfl) Try.func3
    (ChangeSpec.witness6 (enc := enc) (C := Try.checked) false ⟨#[], #[.agg #[.int .i64 0, .int .i64 0, .int .i64 0, .int .i64 0, .int .i64 0], .agg #[.int .i64 0, .int .i64 0]], []⟩ 8 (by kernel_rfl) (by kernel_rfl) (by kernel_rfl) (by kernel_rfl)) ?_
  intro W base args ds gs before hval0 hW hcnd _
  have hval : ∀ (j : Nat) t v, Try.f3.params[j]? = some t → args[j]? = some v → Value.okWide Try.prog W .any base t v := hval0
  have hW' := hW

  obtain ⟨p, q, hA0, hV, rfl, hfz, hnd⟩ := hW
  have hA : DataW.TrodAll enc Try.prog W 0 (fun _ => true) true Try.f3.params.toList args.toList ds p := hA0
  rw [Try.params3] at hA hval
  have hAll := hA
  obtain ⟨v0, v1, d0, d1, p0, p1, rfl, rfl, rfl, h0, h1⟩ := trodAll_two hA
  obtain ⟨rfl, rfl⟩ := trodVars_none hV
  obtain ⟨n0, rfl, hl0, rfl, hb0⟩ := open_allint Try.underlying27 Try.allMooring (hval 0 _ v0 rfl rfl) h0
  obtain ⟨n1, rfl, hl1, rfl, hb1⟩ := open_allint Try.underlying25 Try.allSpan (hval 1 _ v1 rfl rfl) h1
  rw [show Try.prog.cellsOf 27 = 5 from by kernel_rfl] at hl0
  rw [show Try.prog.cellsOf 25 = 2 from by kernel_rfl] at hl1
  obtain ⟨ax, ay, dlo, dhi, ch, rfl⟩ := list5 hl0
  obtain ⟨tlo, thi, rfl⟩ := list2 hl1
  clear hA0 hval0 hval h0 h1 hb0 hb1
  refine (law_radius ax ay dlo dhi ch tlo thi W).mono fun e W' ⟨he, hw⟩ => ?_
  subst he
  exact ⟨_, rfl, post_of_below hW' (fun _ _ _ => trodAll_mk1 (shut_bool Try.underlying4 true)) (fun sp hsp => trodAll_later Try.laidOut hw sp _ _ _ _ (by kernel_rfl) hAll (fun x hx => by simp at hx) (fun x hx => by simp at hx)) (fun _ _ => rfl) rfl hw
    (ok_one (by kernel_rfl) rfl (okWide_bool_mk Try.underlying4 true))⟩

theorem mooringRadius_holds : Rows.MooringRadiusSaid :=
  OpenClaim.holds_of_wide 3 Try.f3 rfl rfl rfl rfl rfl rfl rfl ⟨rfl, rfl, rfl, rfl, rfl⟩ rfl rfl rfl rfl rfl (by kernel_rfl) Try.func3 (by kernel_rfl)
    (of_decide_eq_true (by kernel_rfl)) (by unfold Func.isWrapper; rw [if_neg (of_decide_eq_false (by kernel_rfl))]; exact ⟨rfl, rfl⟩)
    (fun os started H enc _ => mooringRadius_lifted os started H enc)
#print axioms mooringRadius_holds
end Go.Proofs.Ytfefbckpocbeaaa
