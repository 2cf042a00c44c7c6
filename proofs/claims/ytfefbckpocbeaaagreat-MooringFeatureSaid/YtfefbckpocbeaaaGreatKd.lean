/- The law MooringFeature, by the symbolic executor. -/
import Derived.Test.YtfefbckpocbeaaaGreatKc
import Derived.Test.YtfefbckpocbeaaaGreatV
namespace Go.Proofs.YtfefbckpocbeaaaGreat
open Go.RowKit

theorem rootUp_mono {a b : Int} (hb : b ≤ 1000000000000) (h : a ≤ b) : rootUp a ≤ rootUp b := by
  rcases Nat.lt_or_ge (rootUp b) (rootUp a) with h1 | h1
  · have h2 := (rootUp_spec a).2.1 _ h1
    have h3 := (rootUp_facts b hb).1
    omega
  · exact h1

/-- The premises of the law: both moorings and both spans of heights are valid, and the second ones are wider. -/
def widerOk (dlo dhi ch tlo thi dlo' dhi' ch' tlo' thi' : Int) : Prop := dlo' ≤ dlo ∧ dhi ≤ dhi' ∧ tlo' ≤ tlo ∧ thi ≤ thi' ∧ ch ≤ ch'

theorem wider_radius {ax ay dlo dhi ch tlo thi dlo' dhi' ch' tlo' thi' : Int} (h1 : moorOk ax ay dlo dhi ch = true) (h2 : moorOk ax ay dlo' dhi' ch' = true) (h3 : heightsOk tlo thi = true) (h4 : heightsOk tlo' thi' = true)
    (h : widerOk dlo dhi ch tlo thi dlo' dhi' ch' tlo' thi') :
    ((radiusF ax ay dlo dhi ch tlo thi).2 = 0 → (radiusF ax ay dlo' dhi' ch' tlo' thi').2 = 0 → (radiusF ax ay dlo dhi ch tlo thi).1 ≤ (radiusF ax ay dlo' dhi' ch' tlo' thi').1) ∧
    ((radiusF ax ay dlo' dhi' ch' tlo' thi').2 = 0 → ch' ≤ ch → (radiusF ax ay dlo dhi ch tlo thi).2 = 0) := by
  obtain ⟨g1, g2, g3, g4, g5⟩ := h
  have c1 := moorOk_bounds h1
  have c2 := moorOk_bounds h2
  have c3 := heightsOk_bounds h3
  have c4 := heightsOk_bounds h4
  rw [radiusF, radiusF, h1, h2, h3, h4]
  simp only [Bool.and_self, if_true]
  constructor
  · split
    · intro h; simp at h
    · split
      · intro _ h; simp at h
      · intro _ _
        have b1 := sq_bound ch' 1000000 (by omega) (by omega)
        have b2 := sq_le (a := ch) (b := ch') (by omega) (by omega)
        have b3 := sq_le (a := max 0 (dlo' + tlo')) (b := max 0 (dlo + tlo)) (by omega) (by omega)
        have b4 := sq_bound (max 0 (dlo' + tlo')) 200000 (by omega) (by omega)
        have := rootUp_mono (a := ch * ch - max 0 (dlo + tlo) * max 0 (dlo + tlo)) (b := ch' * ch' - max 0 (dlo' + tlo') * max 0 (dlo' + tlo')) (by omega) (by omega)
        show ((rootUp _ : Nat) : Int) ≤ ((rootUp _ : Nat) : Int)
        omega
  · split
    · intro h; simp at h
    · intro _ hc
      rw [if_neg (by omega)]

theorem T.sat_true {α : Type} {ρ : Env} {K : α → Prop} {b : B} {t e : T α} (hb : b.ev ρ = true) (h : t.sat ρ K) : (T.ite b t e).sat ρ K := ⟨fun _ => h, fun h' => (Bool.noConfusion (hb.symm.trans h') : e.sat ρ K)⟩
theorem T.sat_false {α : Type} {ρ : Env} {K : α → Prop} {b : B} {t e : T α} (hb : b.ev ρ = false) (h : e.sat ρ K) : (T.ite b t e).sat ρ K := ⟨fun h' => (Bool.noConfusion (hb.symm.trans h') : t.sat ρ K), fun _ => h⟩

theorem kfi_0 (a b c d e f g : Int) : kfi 0 [.i a, .i b, .i c, .i d, .i e, .i f, .i g] = (radiusF a b c d e f g).1 := rfl
theorem kfi_1 (a b c d e f g : Int) : kfi 1 [.i a, .i b, .i c, .i d, .i e, .i f, .i g] = (radiusF a b c d e f g).2 := rfl
theorem kfb_22 (a b c d e : Int) : kfb 22 [.i a, .i b, .i c, .i d, .i e] = buoyOk a b c d e := rfl
section
variable {ρ : Env} (hi : ρ.fi = kfi) (hb : ρ.fb = kfb)
include hi hb in
theorem oFeat2_res {ax ay dlo dhi ch tlo thi id sym : E} {v : V} (hv : (oFeat2 [ax, ay, dlo, dhi, ch, tlo, thi, id, sym]).res ρ v) :
    v.plain = true ∧ v.val ρ = .tuple #[(mfeatF (ax.ev ρ) (ay.ev ρ) (dlo.ev ρ) (dhi.ev ρ) (ch.ev ρ) (tlo.ev ρ) (thi.ev ρ) (id.ev ρ) (sym.ev ρ)).1, .int .i64 (mfeatF (ax.ev ρ) (ay.ev ρ) (dlo.ev ρ) (dhi.ev ρ) (ch.ev ρ) (tlo.ev ρ) (thi.ev ρ) (id.ev ρ) (sym.ev ρ)).2] := by
  simp only [oFeat2, T.res, B.ev, E.ev, alE, List.foldr, AL.ev, hi, hb, kfi_0, kfi_1, kfb_22, cmpEv, beq_iff_eq] at hv
  simp only [mfeatF]
  split at hv
  · rename_i h1
    rw [if_pos h1]
    split at hv
    · rename_i h2
      rw [if_pos h2]
      subst hv
      refine ⟨rfl, ?_⟩
      simp only [V.val, V2.val, S.val, S0.val, List.map, eI, lI, sN, E.ev, AL.ev, hi, kfi_0, kfi_1]
    · rename_i h2
      rw [if_neg h2]
      subst hv
      exact ⟨rfl, rfl⟩
  · rename_i h1
    rw [if_neg h1]
    subst hv
    refine ⟨rfl, ?_⟩
    simp only [V.val, V2.val, S.val, S0.val, List.map, eI, lI, sN, E.ev, AL.ev, hi, kfi_0, kfi_1]
include hi hb in
theorem feat2_ct : CtOne Tryz.prog ρ 12 cFeat2 :=
  ctI_ok fun es hl v hv => match es, hl, hv with
    | [ax, ay, dlo, dhi, ch, tlo, thi, id, sym], _, hv => by
      obtain ⟨h1, h2⟩ := oFeat2_res hi hb hv
      rw [h2]
      exact ⟨h1, fun W => mfeat_any _ _ _ _ _ _ _ _ _ W⟩
include hi hb in
theorem ctF_ok : CtOk Tryz.prog ctF ρ := .cons (head_ct head_true) <| .cons (feat2_ct hi hb) .nil
end
end Go.Proofs.YtfefbckpocbeaaaGreat
