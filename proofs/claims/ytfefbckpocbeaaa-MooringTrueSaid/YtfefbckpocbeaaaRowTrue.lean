/- MooringTrue: for any mooring, heights, height and place the law returns true, and leaves its arguments as they were. No condition. -/
import Derived.Test.YtfefbckpocbeaaaU
import Derived.Test.YtfefbckpocbeaaaT
namespace Go.Proofs.Ytfefbckpocbeaaa
open Go.ChangeShapes Go.WideShapes Go.ChangeAt Go.RowKit

set_option maxRecDepth 100000 in
theorem mooringTrue_lifted (os : Os) (started : os.Started) (H : Type) (enc : TypeId × Value → H) :
    ReturnsInHanded {} Try.checked os 8 .any (Rows.mooringTrueSpec.pre6 enc Try.prog Try.f8 Rows.mooringTrueRow.domain false) (Rows.mooringTrueSpec.post enc Try.prog Try.f8 false true false false) := by
  refine returnsInHanded_of_change (C := Try.checked) Try.own started (by kernel_rfl) Try.func8
    (ChangeSpec.witness6 (enc := enc) (C := Try.checked) false ⟨#[], #[.agg #[.int .i64 0, .int .i64 0, .int .i64 0, .int .i64 0, .int .i64 0], .agg #[.int .i64 0, .int .i64 0], .int .i64 0, .agg #[.int .i64 0, .int .i64 0]], []⟩ 8 (by kernel_rfl) (by kernel_rfl) (by kernel_rfl) (by kernel_rfl)) ?_
  intro W base args ds gs before hval0 hW hcnd _
  have hval : ∀ (j : Nat) t v, Try.f8.params[j]? = some t → args[j]? = some v → Value.okWide Try.prog W .any base t v := hval0
  have hW' := hW
  obtain ⟨p, q, hA0, hV, rfl, hfz, hnd⟩ := hW
  have hA : DataW.TrodAll enc Try.prog W 0 (fun _ => true) true Try.f8.params.toList args.toList ds p := hA0
  rw [Try.params8] at hA hval
  have hAll := hA
  obtain ⟨v0, vs0, d0, ds0, p0, q0, hargs, rfl, rfl, h0, r0⟩ := trodAll_cons hA
  obtain ⟨v1, vs1, d1, ds1, p1, q1, rfl, rfl, rfl, h1, r1⟩ := trodAll_cons r0
  obtain ⟨v2, vs2, d2, ds2, p2, q2, rfl, rfl, rfl, h2, r2⟩ := trodAll_cons r1
  obtain ⟨v3, vs3, d3, ds3, p3, q3, rfl, rfl, rfl, h3, r3⟩ := trodAll_cons r2
  obtain ⟨rfl, rfl, rfl⟩ := trodAll_nil r3
  obtain rfl : args = #[v0, v1, v2, v3] := by cases args; simp_all
  obtain ⟨rfl, rfl⟩ := trodVars_none hV
  obtain ⟨n0, rfl, hl0, rfl, hb0⟩ := open_allint Try.underlying27 Try.allMooring (hval 0 _ v0 rfl rfl) h0
  rw [show Try.prog.cellsOf 27 = 5 from by kernel_rfl] at hl0
  obtain ⟨a0_0, a0_1, a0_2, a0_3, a0_4, rfl⟩ := list5 hl0
  obtain ⟨n1, rfl, hl1, rfl, hb1⟩ := open_allint Try.underlying25 Try.allSpan (hval 1 _ v1 rfl rfl) h1
  rw [show Try.prog.cellsOf 25 = 2 from by kernel_rfl] at hl1
  obtain ⟨a1_0, a1_1, rfl⟩ := list2 hl1
  obtain ⟨x2, rfl, rfl, rfl, wx2⟩ := open_int Try.underlying3 (hval 2 _ v2 rfl rfl) h2
  obtain ⟨n3, rfl, hl3, rfl, hb3⟩ := open_allint Try.underlying23 Try.allPoint (hval 3 _ v3 rfl rfl) h3
  rw [show Try.prog.cellsOf 23 = 2 from by kernel_rfl] at hl3
  obtain ⟨a3_0, a3_1, rfl⟩ := list2 hl3
  refine (law_true a0_0 a0_1 a0_2 a0_3 a0_4 a1_0 a1_1 x2 a3_0 a3_1 W).mono fun e W' ⟨he, hw⟩ => ?_
  subst he
  exact ⟨_, rfl, post_of_below hW' (fun _ _ _ => trodAll_mk1 (shut_bool Try.underlying4 true)) (fun sp hsp => trodAll_later Try.laidOut hw sp _ _ _ _ (by kernel_rfl) hAll (fun x hx => by simp at hx) (fun x hx => by simp at hx)) (fun _ _ => rfl) rfl hw
    (ok_one (by kernel_rfl) rfl (okWide_bool_mk Try.underlying4 true))⟩

theorem mooringTrue_holds : Rows.MooringTrueSaid :=
  OpenClaim.holds_of_wide 8 Try.f8 rfl rfl rfl rfl rfl rfl rfl ⟨rfl, rfl, rfl, rfl, rfl⟩ rfl rfl rfl rfl rfl (by kernel_rfl) Try.func8 (by kernel_rfl)
    (of_decide_eq_true (by kernel_rfl)) (by unfold Func.isWrapper; rw [if_neg (of_decide_eq_false (by kernel_rfl))]; exact ⟨rfl, rfl⟩)
    (fun os started H enc _ => mooringTrue_lifted os started H enc)
#print axioms mooringTrue_holds
end Go.Proofs.Ytfefbckpocbeaaa
