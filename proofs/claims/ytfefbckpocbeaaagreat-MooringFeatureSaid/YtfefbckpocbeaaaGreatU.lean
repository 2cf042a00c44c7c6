/- Opening arguments: structs of integers, whatever their nesting; the row's last step. -/
import Derived.Test.YtfefbckpocbeaaaGreatRows
import Derived.Test.YtfefbckpocbeaaaGreatA
import Derived.ProofKit
namespace Go.Proofs.YtfefbckpocbeaaaGreat
open Go.ChangeShapes Go.WideShapes Go.ChangeAt Go.RowKit

theorem Tryz.own : ownKnob Tryz.prog.godebug = none := by kernel_rfl
theorem Tryz.laidOut : laidOutB Tryz.prog = true := by kernel_rfl

section
variable {H : Type} {enc : TypeId × Value → H} {P : Program}

/-- Every cell of a value of type t is an int. -/
def AllInt (P : Program) (t : TypeId) : Prop :=
  ∀ {H : Type} (enc : TypeId × Value → H) (w : World) (base : Nat) (spare : Nat → Bool) (held : Bool) (fuel : Nat) (cs : List Value) (x : DataW H × List MemPlace),
    DataW.trod enc P w base spare held fuel t cs = some x → (∀ v ∈ cs, ∃ n, v = .int .i64 n ∧ -9223372036854775808 ≤ n ∧ n ≤ 9223372036854775807) ∧ x.2 = []

theorem wf_bounds {n : Int} (h : (Lit.int .i64 n).wf = true) : -9223372036854775808 ≤ n ∧ n ≤ 9223372036854775807 := by
  have e1 : IntKind.i64.min = -9223372036854775808 := by decide
  simp [Lit.wf, e1] at h
  omega

theorem wf_u16 {n : Int} (h : (Lit.int .u16 n).wf = true) : 0 ≤ n ∧ n ≤ 65535 := by
  have e1 : IntKind.u16.min = 0 := by decide
  have e2 : IntKind.u16.max = 65535 := by decide
  simp [Lit.wf, e1, e2] at h
  omega

theorem AllInt.int {t : TypeId} (ht : P.underlying t = some (.int .i64)) : AllInt P t := by
  intro H enc w base spare held fuel cs x h
  obtain ⟨n, rfl, rfl, hw⟩ := DataW.trod_int ht h
  refine ⟨fun v hv => ?_, rfl⟩
  simp only [List.mem_singleton] at hv
  exact ⟨n, hv, wf_bounds hw⟩

theorem AllInt.struct {t : TypeId} {fs : Array Field} (ht : P.underlying t = some (.struct fs)) (hall : ∀ f ∈ fs, AllInt P f.type)
    (hcov0 : ((List.range (P.cellsOf t)).all fun p => fs.toList.any fun f => decide (f.offset ≤ p) && decide (p < f.offset + P.cellsOf f.type)) = true) : AllInt P t := by
  have hcov : ∀ p, p < P.cellsOf t → ∃ (i : Nat) (f : Field), fs[i]? = some f ∧ f.offset ≤ p ∧ p < f.offset + P.cellsOf f.type := by
    intro p hp
    have h1 := List.all_eq_true.1 hcov0 p (List.mem_range.2 hp)
    obtain ⟨f, hf, h2⟩ := List.any_eq_true.1 h1
    simp only [Bool.and_eq_true, decide_eq_true_eq] at h2
    obtain ⟨i, hi, rfl⟩ := List.getElem_of_mem hf
    exact ⟨i, _, by rw [← Array.getElem?_toList, List.getElem?_eq_getElem hi], h2.1, h2.2⟩
  intro H enc w base spare held fuel cs x h
  obtain ⟨xs, n, rfl, rfl, hlen, hxl, hf⟩ := DataW.trod_struct ht h
  constructor
  · intro v hv
    obtain ⟨p, hp, rfl⟩ := List.getElem_of_mem hv
    obtain ⟨i, f, hfi, h1, h2⟩ := hcov p (by omega)
    have hi : i < fs.size := (Array.getElem?_eq_some_iff.1 hfi).1
    have ht' := hf i f hfi
    rw [List.getElem?_eq_getElem (by omega)] at ht'
    have ha := hall f (Array.mem_of_getElem? hfi) enc w base spare held n _ _ ht'
    refine ha.1 _ ?_
    rw [List.mem_iff_getElem]
    refine ⟨p - f.offset, by simp; omega, ?_⟩
    simp only [List.getElem_take, List.getElem_drop]
    congr 1
    omega
  · show xs.flatMap (·.2) = []
    rw [List.flatMap_eq_nil_iff]
    intro y hy
    obtain ⟨i, hi, rfl⟩ := List.getElem_of_mem hy
    have hi' : i < fs.size := by omega
    have ht' := hf i fs[i] (Array.getElem?_eq_getElem hi')
    rw [List.getElem?_eq_getElem hi] at ht'
    exact (hall fs[i] (Array.getElem_mem hi') enc w base spare held n _ _ ht').2

/-- A struct of integers as an argument: its cells. -/
theorem open_allint {w : World} {r : Reach} {b0 base : Nat} {spare : Nat → Bool} {held : Bool} {t : TypeId} {fs : Array Field} {v : Value} {d : DataW H} {ps : List MemPlace} (ht : P.underlying t = some (.struct fs)) (ha : AllInt P t)
    (hval : Value.okWide P w r b0 t v) (hd : DataW.Trod enc P w base spare held t v d ps) :
    ∃ ns : List Int, v = .agg (ns.map (Value.int .i64)).toArray ∧ ns.length = P.cellsOf t ∧ ps = [] ∧ ∀ n ∈ ns, -9223372036854775808 ≤ n ∧ n ≤ 9223372036854775807 := by
  obtain ⟨cs, rfl, hsz⟩ := okWide_struct ht hval
  obtain ⟨fuel, hf⟩ := hd
  obtain ⟨h1, h2⟩ := ha enc w base spare held fuel _ _ hf
  have h1' : ∀ v ∈ cs.toList, ∃ n, v = .int .i64 n ∧ -9223372036854775808 ≤ n ∧ n ≤ 9223372036854775807 := h1
  have key : ∀ l : List Value, (∀ v ∈ l, ∃ n, v = Value.int .i64 n ∧ -9223372036854775808 ≤ n ∧ n ≤ 9223372036854775807) → ∃ ns : List Int, l = ns.map (Value.int .i64) ∧ ∀ n ∈ ns, -9223372036854775808 ≤ n ∧ n ≤ 9223372036854775807 := by
    intro l
    induction l with
    | nil => exact fun _ => ⟨[], rfl, by simp⟩
    | cons a l ih =>
      intro h
      obtain ⟨n, rfl, hn⟩ := h a (by simp)
      obtain ⟨ns, rfl, hns⟩ := ih (fun v hv => h v (by simp [hv]))
      refine ⟨n :: ns, rfl, ?_⟩
      intro m hm
      rcases List.mem_cons.1 hm with rfl | hm
      · exact hn
      · exact hns m hm
  obtain ⟨ns, h3, h4⟩ := key _ h1'
  refine ⟨ns, ?_, ?_, h2, h4⟩
  · rw [← h3]
  · have := congrArg List.length h3
    simp at this
    omega

theorem list2 {l : List Int} (h : l.length = 2) : ∃ a b, l = [a, b] := by
  match l, h with
  | [a, b], _ => exact ⟨a, b, rfl⟩
theorem list4 {l : List Int} (h : l.length = 4) : ∃ a b c d, l = [a, b, c, d] := by
  match l, h with
  | [a, b, c, d], _ => exact ⟨a, b, c, d, rfl⟩
theorem list5 {l : List Int} (h : l.length = 5) : ∃ a b c d e, l = [a, b, c, d, e] := by
  match l, h with
  | [a, b, c, d, e], _ => exact ⟨a, b, c, d, e, rfl⟩

theorem post_of_below {f : Func} {s : ChangeSpec} {apart fresh handsOn again : Bool} {W W' : World} {args : Array Value} {v : Value} {ds gs : List (DataW H)} {before pa pv : List MemPlace}
    (hW : DataW.Whole enc P f.params.toList s.vars apart W args.toList ds gs before)
    (hres : ∀ (b : Nat) (sp : Nat → Bool) (hd : Bool), DataW.TrodAll enc P W' b sp hd f.resultTypes.toList (v.resultList f.resultTypes.size) (s.fn H (ds ++ gs)).results [])
    (hargs : ∀ sp : Nat → Bool, (∀ p ∈ before, sp p.block = true) → DataW.TrodAll enc P W' 0 sp true f.params.toList args.toList (s.fn H (ds ++ gs)).args pa)
    (hvars : ∀ sp : Nat → Bool, (∀ p ∈ before, sp p.block = true) → DataW.TrodVars enc P W' sp s.vars (s.fn H (ds ++ gs)).vars pv)
    (hps : before = pa ++ pv) (hb : Below W.heap.size W W')
    (hok : ∀ (j : Nat) (t : TypeId) (r : Value), f.resultTypes[j]? = some t → (v.resultList f.resultTypes.size)[j]? = some r → Value.okWide P W' .any 0 t r) :
    s.post enc P f apart fresh handsOn again W args v W' := by
  have hlt : ∀ p ∈ before, p.block < W.heap.size := fun p hp => hW.lt p hp
  have hold : ∀ p ∈ before, (fun b => decide (b < W.heap.size)) p.block = true := fun p hp => by simpa using hlt p hp
  refine ⟨ds, gs, before, [], pa, pv, hW, hres _ _ _, hargs _ hold, hvars _ hold, World.keptBut_mono (fun p hp => ⟨hp, ?_⟩) (hb.frame (· ∈ before)), fun _ => ?_⟩
  · rw [hps, List.mem_append] at hp
    exact Or.inr hp
  · obtain ⟨_, _, _, _, _, hz, hn⟩ := hW
    refine ⟨hok, _, _, ([] ++ pa) ++ pv, ⟨[] ++ pa, pv, trodAll_append (hargs _ (fun _ _ => rfl)) (hres _ _ _), hvars _ (fun _ _ => rfl), rfl, ?_, ?_⟩, ?_⟩
    · intro b off hp
      have hin : MemPlace.cell b off ∈ before := by rw [hps]; simpa using hp
      rw [hb.frozen (hlt _ hin)]
      exact hz b off hin
    · intro ha
      have := hn ha
      rw [hps] at this
      simpa using this
    · intro p hp _
      rw [hps]
      simpa using hp

/-- An argument that lies in no memory reads in every later world as it did. -/
theorem trod_later {t : TypeId} (hl : laidOutB P = true) (hr : P.readableRec t = true) (hrow : t < P.types.size) {W W' : World} {v : Value} {d : DataW H} {ps : List MemPlace}
    (h : DataW.Trod enc P W 0 (fun _ => true) true t v d ps) (hb : Below W.heap.size W W') (hlt : ∀ x ∈ ps, x.block < W.heap.size) (sp : Nat → Bool) (hsp : ∀ p ∈ ps, sp p.block = true) :
    DataW.Trod enc P W' 0 sp true t v d ps :=
  WideElems.Trod_stays hl hr hrow h (fun x hx => hb.same (hlt x hx)) (fun x hx => hsp x hx)

theorem trodAll_later (hl : laidOutB P = true) {W W' : World} (hb : Below W.heap.size W W') (sp : Nat → Bool) : ∀ (ts : List TypeId) (vs : List Value) (ds : List (DataW H)) (ps : List MemPlace),
    (ts.all fun t => P.readableRec t && decide (t < P.types.size)) = true → DataW.TrodAll enc P W 0 (fun _ => true) true ts vs ds ps → (∀ x ∈ ps, x.block < W.heap.size) → (∀ p ∈ ps, sp p.block = true) →
    DataW.TrodAll enc P W' 0 sp true ts vs ds ps
  | [], vs, ds, ps, _, h, _, _ => by obtain ⟨rfl, rfl, rfl⟩ := trodAll_nil h; rfl
  | t :: ts, vs, ds, ps, hr, h, hlt, hsp => by
    obtain ⟨v, vs', d, ds', p, q, rfl, rfl, rfl, h0, hs⟩ := trodAll_cons h
    simp only [List.all_cons, Bool.and_eq_true, decide_eq_true_eq] at hr
    exact ⟨p, q, trod_later hl hr.1.1 hr.1.2 h0 hb (fun x hx => hlt x (by simp [hx])) sp (fun x hx => hsp x (by simp [hx])),
      trodAll_later hl hb sp ts vs' ds' q hr.2 hs (fun x hx => hlt x (by simp [hx])) (fun x hx => hsp x (by simp [hx])), rfl⟩

theorem Tryz.allPoint : AllInt Tryz.prog 23 := AllInt.struct Tryz.underlying23 (by
    intro f hf; simp only [List.mem_toArray, List.mem_cons, List.not_mem_nil, or_false] at hf; rcases hf with rfl | rfl <;> exact AllInt.int Tryz.underlying3) (by kernel_rfl)
theorem Tryz.allSpan : AllInt Tryz.prog 25 := AllInt.struct Tryz.underlying25 (by
    intro f hf; simp only [List.mem_toArray, List.mem_cons, List.not_mem_nil, or_false] at hf; rcases hf with rfl | rfl <;> exact AllInt.int Tryz.underlying3) (by kernel_rfl)
theorem Tryz.allBox : AllInt Tryz.prog 29 := AllInt.struct Tryz.underlying29 (by
    intro f hf; simp only [List.mem_toArray, List.mem_cons, List.not_mem_nil, or_false] at hf; rcases hf with rfl | rfl <;> exact Tryz.allSpan) (by kernel_rfl)
theorem Tryz.allMooring : AllInt Tryz.prog 27 := AllInt.struct Tryz.underlying27 (by
    intro f hf; simp only [List.mem_toArray, List.mem_cons, List.not_mem_nil, or_false] at hf; rcases hf with rfl | rfl | rfl <;> first | exact Tryz.allPoint | exact Tryz.allSpan | exact AllInt.int Tryz.underlying3) (by kernel_rfl)
end
end Go.Proofs.YtfefbckpocbeaaaGreat
