/- A law's row out of what the law answers: any arguments of integers, truth values, slices, structs, arrays. -/
import Derived.Test.YtinfmmofcadjgaaRows
import Derived.Test.YtinfmmofcadjgaaZu
import Derived.ProofKit
set_option linter.unusedSimpArgs false
set_option linter.unusedVariables false
namespace Go.Proofs.Ytinfmmofcadjgaa
open Go.ChangeShapes Go.WideShapes Go.ChangeAt Go.RowKit

theorem Try.own : ownKnob Try.prog.godebug = none := by kernel_rfl
theorem Try.laidOut : laidOutB Try.prog = true := by kernel_rfl

section
variable {H : Type} {enc : TypeId × Value → H} {P : Program}
theorem post_of_below {f : Func} {s : ChangeSpec} {apart fresh handsOn again : Bool} {W W' : World} {args : Array Value} {v : Value} {ds gs : List (DataW H)} {before pa pv : List MemPlace}
    (hW : DataW.Whole enc P f.params.toList s.vars apart W args.toList ds gs before)
    (hres : ∀ (b : Nat) (sp : Nat → Bool) (hd : Bool), DataW.TrodAll enc P W' b sp hd f.resultTypes.toList (v.resultList f.resultTypes.size) (s.fn H (ds ++ gs)).results [])
    (hargs : ∀ sp : Nat → Bool, (∀ p ∈ before, sp p.block = true) → DataW.TrodAll enc P W' 0 sp true f.params.toList args.toList (s.fn H (ds ++ gs)).args pa)
    (hvars : ∀ sp : Nat → Bool, (∀ p ∈ before, sp p.block = true) → DataW.TrodVars enc P W' sp s.vars (s.fn H (ds ++ gs)).vars pv)
    (hps : before = pa ++ pv) (hb : Below W.heap.size W W')
    (hok : ∀ (j : Nat) (t : TypeId) (r : Value), f.resultTypes[j]? = some t → (v.resultList f.resultTypes.size)[j]? = some r → Value.okWide P W' .any 0 t r) :
    s.post enc P f apart fresh handsOn again W args v W' := by
  have hlt : ∀ p ∈ before, p.block < W.heap.size := fun p hp => hW.lt p hp
  have hold : ∀ p ∈ before, (fun b => decide (b < W.heap.size)) p.block = true := fun p hp => by simpa using hlt p hp
  refine ⟨ds, gs, before, [], pa, pv, hW, hres _ _ _, hargs _ hold, hvars _ hold, World.keptBut_mono (fun p hp => ⟨hp, ?_⟩) (hb.frame (· ∈ before)), fun _ => ?_⟩
  · rw [hps, List.mem_append] at hp
    exact Or.inr hp
  · obtain ⟨_, _, _, _, _, hz, hn⟩ := hW
    refine ⟨hok, _, _, ([] ++ pa) ++ pv, ⟨[] ++ pa, pv, trodAll_append (hargs _ (fun _ _ => rfl)) (hres _ _ _), hvars _ (fun _ _ => rfl), rfl, ?_, ?_⟩, ?_⟩
    · intro b off hp
      have hin : MemPlace.cell b off ∈ before := by rw [hps]; simpa using hp
      rw [hb.frozen (hlt _ hin)]
      exact hz b off hin
    · intro ha
      have := hn ha
      rw [hps] at this
      simpa using this
    · intro p hp _
      rw [hps]
      simpa using hp

/-- An argument that lies in no memory reads in every later world as it did. -/
theorem trod_later {t : TypeId} (hl : laidOutB P = true) (hr : P.readableRec t = true) (hrow : t < P.types.size) {W W' : World} {v : Value} {d : DataW H} {ps : List MemPlace}
    (h : DataW.Trod enc P W 0 (fun _ => true) true t v d ps) (hb : Below W.heap.size W W') (hlt : ∀ x ∈ ps, x.block < W.heap.size) (sp : Nat → Bool) (hsp : ∀ p ∈ ps, sp p.block = true) :
    DataW.Trod enc P W' 0 sp true t v d ps :=
  WideElems.Trod_stays hl hr hrow h (fun x hx => hb.same (hlt x hx)) (fun x hx => hsp x hx)

theorem trodAll_later (hl : laidOutB P = true) {W W' : World} (hb : Below W.heap.size W W') (sp : Nat → Bool) : ∀ (ts : List TypeId) (vs : List Value) (ds : List (DataW H)) (ps : List MemPlace),
    (ts.all fun t => P.readableRec t && decide (t < P.types.size)) = true → DataW.TrodAll enc P W 0 (fun _ => true) true ts vs ds ps → (∀ x ∈ ps, x.block < W.heap.size) → (∀ p ∈ ps, sp p.block = true) →
    DataW.TrodAll enc P W' 0 sp true ts vs ds ps
  | [], vs, ds, ps, _, h, _, _ => by obtain ⟨rfl, rfl, rfl⟩ := trodAll_nil h; rfl
  | t :: ts, vs, ds, ps, hr, h, hlt, hsp => by
    obtain ⟨v, vs', d, ds', p, q, rfl, rfl, rfl, h0, hs⟩ := trodAll_cons h
    simp only [List.all_cons, Bool.and_eq_true, decide_eq_true_eq] at hr
    exact ⟨p, q, trod_later hl hr.1.1 hr.1.2 h0 hb (fun x hx => hlt x (by simp [hx])) sp (fun x hx => hsp x (by simp [hx])),
      trodAll_later hl hb sp ts vs' ds' q hr.2 hs (fun x hx => hlt x (by simp [hx])) (fun x hx => hsp x (by simp [hx])), rfl⟩


/-- The shapes of arguments. -/
def shT (P : Program) (t : TypeId) : Option Sh := match kinds P 20 t with
  | some ks => if flatB P 20 t then (if isAggT P t then some (.agg ks) else match ks with | [k] => some (.one k) | _ => none) else none
  | none => none
def shTs (P : Program) : List TypeId → Option (List Sh)
  | [] => some []
  | t :: ts => match shT P t, shTs P ts with | some s, some l => some (s :: l) | _, _ => none
theorem okWide_one {w : World} {r : Reach} {base : Nat} {t : TypeId} {v : Value} {ks : List CK} (hk : kinds P 20 t = some ks) (ha : isAggT P t = false) (h : Value.okWide P w r base t v) : v.cells = #[v] := by
  unfold kinds at hk
  unfold isAggT at ha
  unfold Value.okWide at h
  cases hu : P.underlying t with
  | none => rw [hu] at hk; cases hk
  | some d =>
    rw [hu] at hk ha h
    cases d <;> simp at hk ha <;> simp [Cell.okWide, Cell.ok, hu] at h <;> (cases v <;> first | rfl | (simp at h))
theorem args_rep {W : World} {base : Nat} {sp : Nat → Bool} {held : Bool} : ∀ (ts : List TypeId) (sh : List Sh), shTs P ts = some sh → ∀ (vs : List Value) (ds : List (DataW H)) (ps : List MemPlace), DataW.TrodAll enc P W 0 sp held ts vs ds ps →
    (∀ (j : Nat) t v, ts[j]? = some t → vs[j]? = some v → Value.okWide P W .any base t v) → (DataW.weightsEach P ts ds).all (· ≤ reachBytes) = true → ∃ xs, repSh W sh vs xs
  | [], sh, hsh, vs, ds, ps, h, _, _ => by
    simp only [shTs, Option.some.injEq] at hsh
    subst hsh
    obtain ⟨rfl, rfl, rfl⟩ := trodAll_nil h
    exact ⟨[], rfl, rfl⟩
  | t :: ts, sh, hsh, vs, ds, ps, h, hval, hw => by
    simp only [shTs] at hsh
    split at hsh
    · rename_i s l hs hl
      simp only [Option.some.injEq] at hsh
      subst hsh
      obtain ⟨v, vs', d, ds', p, q, rfl, rfl, rfl, h0, hr⟩ := trodAll_cons h
      simp only [DataW.weightsEach, List.all_append, Bool.and_eq_true] at hw
      obtain ⟨xs, hxs⟩ := args_rep ts l hl vs' ds' q hr (fun j t v h1 h2 => hval (j + 1) t v (by simpa using h1) (by simpa using h2)) hw.2
      obtain ⟨fuel, hf⟩ := h0
      have hv := hval 0 t v rfl rfl
      unfold shT at hs
      split at hs
      · rename_i ks hk
        split at hs
        · rename_i hfl
          obtain ⟨x, hx⟩ := trod_rep 20 t ks hk hfl fuel _ d p hf hw.1
          refine ⟨x ++ xs, v, vs', x, xs, rfl, rfl, ?_, hxs⟩
          split at hs
          · rename_i ha
            simp only [Option.some.injEq] at hs
            subst hs
            have : ∃ cs, v = .agg cs := by
              unfold isAggT at ha
              unfold Value.okWide at hv
              split at ha
              · rename_i fs hu; rw [hu] at hv; obtain ⟨cs, e, _⟩ := hv; exact ⟨cs, e⟩
              · rename_i m e hu; rw [hu] at hv; obtain ⟨cs, e, _⟩ := hv; exact ⟨cs, e⟩
              · cases ha
            obtain ⟨cs, rfl⟩ := this
            exact ⟨cs.toList, by simp, hx⟩
          · rename_i ha
            split at hs
            · rename_i k
              simp only [Option.some.injEq] at hs
              subst hs
              have e := okWide_one hk (by simpa using ha) hv
              rw [e] at hx
              unfold CK.reps at hx
              obtain ⟨v', vs2, d', ds2, e1, rfl, h1, h2⟩ := hx
              have e1 : [v] = v' :: vs2 := e1
              simp only [List.cons.injEq] at e1
              obtain ⟨rfl, rfl⟩ := e1
              unfold CK.reps at h2
              obtain ⟨_, rfl⟩ := h2
              exact ⟨d', rfl, h1⟩
            · cases hs
        · cases hs
      · cases hs
    · cases hsh
end
end Go.Proofs.Ytinfmmofcadjgaa
