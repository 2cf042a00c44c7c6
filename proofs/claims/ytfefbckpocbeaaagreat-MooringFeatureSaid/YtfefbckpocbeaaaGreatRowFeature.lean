/- MooringFeature: for any mooring, heights, and some of them, number and symbol the law returns true, and leaves its arguments as they were. No condition. -/
import Derived.Test.YtfefbckpocbeaaaGreatKe
import Derived.Test.YtfefbckpocbeaaaGreatU
namespace Go.Proofs.YtfefbckpocbeaaaGreat
open Go.ChangeShapes Go.WideShapes Go.ChangeAt Go.RowKit

set_option maxRecDepth 100000 in
theorem mooringFeature_lifted (os : Os) (started : os.Started) (H : Type) (enc : TypeId × Value → H) :
    ReturnsInHanded {} Tryz.checked os 4 .any (Rows.mooringFeatureSpec.pre6 enc Tryz.prog Tryz.f4 Rows.mooringFeatureRow.domain false) (Rows.mooringFeatureSpec.post enc Tryz.prog Tryz.f4 false true false false) := by
  refine returnsInHanded_of_change (C := Tryz.checked) Tryz.own started (by kernel_rfl) Tryz.func4
    (ChangeSpec.witness6 (enc := enc) (C := Tryz.checked) false ⟨#[], #[.agg #[.int .i64 0, .int .i64 0, .int .i64 0, .int .i64 0, .int .i64 0], .agg #[.int .i64 0, .int .i64 0], .agg #[.int .i64 0, .int .i64 0], .int .i64 0, .int .i64 0], []⟩ 8 (by kernel_rfl) (by kernel_rfl) (by kernel_rfl) (by kernel_rfl)) ?_
  intro W base args ds gs before hval0 hW hcnd _
  have hval : ∀ (j : Nat) t v, Tryz.f4.params[j]? = some t → args[j]? = some v → Value.okWide Tryz.prog W .any base t v := hval0
  have hW' := hW
  obtain ⟨p, q, hA0, hV, rfl, hfz, hnd⟩ := hW
  have hA : DataW.TrodAll enc Tryz.prog W 0 (fun _ => true) true Tryz.f4.params.toList args.toList ds p := hA0
  rw [Tryz.params4] at hA hval
  have hAll := hA
  obtain ⟨v0, vs0, d0, ds0, p0, q0, hargs, rfl, rfl, h0, r0⟩ := trodAll_cons hA
  obtain ⟨v1, vs1, d1, ds1, p1, q1, rfl, rfl, rfl, h1, r1⟩ := trodAll_cons r0
  obtain ⟨v2, vs2, d2, ds2, p2, q2, rfl, rfl, rfl, h2, r2⟩ := trodAll_cons r1
  obtain ⟨v3, vs3, d3, ds3, p3, q3, rfl, rfl, rfl, h3, r3⟩ := trodAll_cons r2
  obtain ⟨v4, vs4, d4, ds4, p4, q4, rfl, rfl, rfl, h4, r4⟩ := trodAll_cons r3
  obtain ⟨rfl, rfl, rfl⟩ := trodAll_nil r4
  obtain rfl : args = #[v0, v1, v2, v3, v4] := by cases args; simp_all
  obtain ⟨rfl, rfl⟩ := trodVars_none hV
  obtain ⟨n0, rfl, hl0, rfl, hb0⟩ := open_allint Tryz.underlying27 Tryz.allMooring (hval 0 _ v0 rfl rfl) h0
  rw [show Tryz.prog.cellsOf 27 = 5 from by kernel_rfl] at hl0
  obtain ⟨a0_0, a0_1, a0_2, a0_3, a0_4, rfl⟩ := list5 hl0
  obtain ⟨n1, rfl, hl1, rfl, hb1⟩ := open_allint Tryz.underlying25 Tryz.allSpan (hval 1 _ v1 rfl rfl) h1
  rw [show Tryz.prog.cellsOf 25 = 2 from by kernel_rfl] at hl1
  obtain ⟨a1_0, a1_1, rfl⟩ := list2 hl1
  obtain ⟨n2, rfl, hl2, rfl, hb2⟩ := open_allint Tryz.underlying25 Tryz.allSpan (hval 2 _ v2 rfl rfl) h2
  rw [show Tryz.prog.cellsOf 25 = 2 from by kernel_rfl] at hl2
  obtain ⟨a2_0, a2_1, rfl⟩ := list2 hl2
  obtain ⟨x3, rfl, rfl, rfl, wx3⟩ := open_int Tryz.underlying3 (hval 3 _ v3 rfl rfl) h3
  obtain ⟨x4, rfl, rfl, rfl, wx4⟩ := open_int Tryz.underlying3 (hval 4 _ v4 rfl rfl) h4
  refine (law_feature a0_0 a0_1 a0_2 a0_3 a0_4 a1_0 a1_1 a2_0 a2_1 x3 x4 W).mono fun e W' ⟨he, hw⟩ => ?_
  subst he
  exact ⟨_, rfl, post_of_below hW' (fun _ _ _ => trodAll_mk1 (shut_bool Tryz.underlying4 true)) (fun sp hsp => trodAll_later Tryz.laidOut hw sp _ _ _ _ (by kernel_rfl) hAll (fun x hx => by simp at hx) (fun x hx => by simp at hx)) (fun _ _ => rfl) rfl hw
    (ok_one (by kernel_rfl) rfl (okWide_bool_mk Tryz.underlying4 true))⟩

theorem mooringFeature_holds : Rows.MooringFeatureSaid :=
  OpenClaim.holds_of_wide 4 Tryz.f4 rfl rfl rfl rfl rfl rfl rfl ⟨rfl, rfl, rfl, rfl, rfl⟩ rfl rfl rfl rfl rfl (by kernel_rfl) Tryz.func4 (by kernel_rfl)
    (of_decide_eq_true (by kernel_rfl)) (by unfold Func.isWrapper; rw [if_neg (of_decide_eq_false (by kernel_rfl))]; exact ⟨rfl, rfl⟩)
    (fun os started H enc _ => mooringFeature_lifted os started H enc)
#print axioms mooringFeature_holds
end Go.Proofs.YtfefbckpocbeaaaGreat
