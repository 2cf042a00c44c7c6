/- The symbolic executor is right: regions that draw their order (the invariant); everything together. -/
import Derived.Test.YtinfmmofcadjgaaZm
import Derived.Test.YtinfmmofcadjgaaZr
namespace Go.Proofs.Ytinfmmofcadjgaa
open Go.RowKit

section
variable {P : Program} {ct : Ct} {lt : Lt} {ρ : Env} {σ : As}

theorem Step.congr {W W' : World} {ws ws' : Mem} {σ' : As} (h : Step ρ σ W ws σ' W') (e : ∀ i, ws'.get i = ws.get i) : Step ρ σ W ws' σ' W' :=
  ⟨h.ext, h.os, h.tape, h.output, h.size, fun k hk hn => h.frame k hk (fun i b hi => hn i b (by rw [e]; exact hi)), h.new, h.inj, fun i b hi => h.blk i b (by rw [← e]; exact hi), h.keep⟩
theorem RelM.sub {m m' : Mem} {W : World} (h : RelM ρ σ m W) (e : ∀ i b, m'.get i = some b → m.get i = some b) : RelM ρ σ m' W :=
  ⟨fun id b hb => h.blk id b (e _ _ hb), h.inj, h.lt, h.above, h.base⟩

theorem DL.len_get {α : Type} {R : α → Value → Prop} {l l' : List α} {vs : List Value} (h : DL R l vs) (e : l' = l) : DL R l' vs := by rw [e]; exact h
theorem looks_operand {ops : Array Oper} {o : Oper} {t : Tmp} (h : Operand.tmp t ∈ o.op.operands) : t ∈ o.looksAt ops := by
  unfold Oper.looksAt
  rw [List.mem_append, List.mem_filterMap]
  exact .inl ⟨.tmp t, by simpa using h, rfl⟩
theorem looks_guard {ops : Array Oper} {o : Oper} {g : Nat} {w : Bool} {t : Tmp} (h : o.guard = some (g, w)) (hd : (ops[g]?).bind (·.dst) = some t) : t ∈ o.looksAt ops := by
  unfold Oper.looksAt
  rw [h, List.mem_append]
  refine .inr ?_
  show t ∈ ((ops[g]?).bind (·.dst)).toList
  rw [hd]
  simp

structure DInv (P : Program) (ρ : Env) (ops : Array Oper) (st0 : St) (ev : Nat → E1) (σ0 : As) (W0 : World) (L : Nat → Bool) (σ : As) (a : Act) (W : World) : Prop where
  tm : DL (V.den ρ σ) (tmP ops st0.tm ev L ops.size) a.tmps.toList
  step : Step ρ σ0 W0 (wsP ev L ops.size) σ W
  new : ∀ i x, σ i = some x → σ0 i = some x ∨ ∃ k, k < ops.size ∧ L k = true ∧ nxP st0.nx ev k ≤ i ∧ i < nxP st0.nx ev (k + 1)
  df : Dfr σ st0.df a.defers

theorem nxP_mono {nx : Nat} {ev : Nat → E1} {n : Nat} (h : ∀ k, k < n → nxP nx ev k ≤ nxP nx ev (k + 1)) : ∀ (j i : Nat), i ≤ j → j ≤ n → nxP nx ev i ≤ nxP nx ev j
  | 0, i, h1, _ => by obtain rfl : i = 0 := by omega
                      exact Nat.le_refl _
  | j + 1, i, h1, h2 => by
    rcases Nat.lt_or_ge j i with q | q
    · obtain rfl : i = j + 1 := by omega
      exact Nat.le_refl _
    · exact Nat.le_trans (nxP_mono h j i q (by omega)) (h j (by omega))
theorem good_nx {M : Nat} {ops : Array Oper} {st0 : St} {ev : Nat → E1} {k : Nat} (h : GoodE P ct lt ρ M ops (stP ops st0 ev k) k (ev k)) : nxP st0.nx ev k ≤ nxP st0.nx ev (k + 1) := by
  obtain ⟨_, o, _, h | ⟨_, _, n, _, q0, h1, _, h3, _⟩⟩ := h
  · simp only [nxP]
    rw [h.2.2.2]
    exact Nat.le_refl _
  · have := (mono (P := P) (ct := ct) (lt := lt) (ρ := ρ) n).oper _ _ _ _ _ h1
    simp only [nxP]
    rw [h3]
    exact this

theorem draw_step {M : Nat} {ops : Array Oper} {st0 : St} {ev : Nat → E1} {σ0 : As} {a : Act} {W0 W : World} (hoper : ∀ n, n < M → OperOk P ρ ct lt n) (hg : ∀ k, k < ops.size → GoodE P ct lt ρ M ops (stP ops st0 ev k) k (ev k))
    (hd : DrawSpec ops (fun k => (ev k).inf)) (hr0 : RelM ρ σ0 st0.mem W0) (hfr : Fr st0.nx (nxP st0.nx ev ops.size) σ0) {L : Nat → Bool} (hinv : DInv P ρ ops st0 ev σ0 W0 L σ a W)
    (hcl : ∀ i, L i = true → ∀ x ∈ (ancs ops).getD i [], L x = true) {j : Nat} (hj : j < ops.size) (hlj : L j = false) (hanc : ∀ x ∈ (ancs ops).getD j [], L x = true) {ro : Option Nat} {K : Act → World → Prop} {Q : Exit → Act → World → Prop}
    (hK : ∀ σ' a' W', DInv P ρ ops st0 ev σ0 W0 (fun k => if k = j then true else L k) σ' a' W' → K a' W') : wpOpIn (FR ro) 0 P ops Q j K a W := by
  obtain ⟨hwr, o, ho, hcase⟩ := hg j hj
  have hmono := nxP_mono (fun k hk => good_nx (hg k hk))
  -- who is not apart from j has come before it just when its number is lower
  have hind : ∀ k, k < ops.size → k ≠ j → L k = decide (k < j) ∨ ∃ x, ops[k]? = some x ∧ (∀ d, x.dst = some d → d ∉ o.looksAt ops) ∧ (∀ d, x.dst = some d → o.dst ≠ some d) ∧ (∀ b ∈ (ev k).inf.wr, b ∉ (ev j).inf.rd) ∧ (∀ b ∈ (ev k).inf.wr, b ∉ (ev j).inf.wr) := by
    intro k hk hne
    rcases Nat.lt_or_ge k j with q | q
    · by_cases hin : k ∈ (ancs ops).getD j []
      · left
        rw [hanc k hin]
        simp [q]
      · right
        obtain ⟨x, y, e1, e2, e3, e4, e5, e6⟩ := hd.apart k j q hj hin
        rw [ho] at e2
        simp only [Option.some.injEq] at e2
        subst e2
        obtain ⟨a1, a2, a3⟩ := Oper.apart_spec e3
        exact ⟨x, e1, a1, a2, e4, e5⟩
    · have q : j < k := by omega
      by_cases hin : j ∈ (ancs ops).getD k []
      · left
        have : ¬ k < j := by omega
        simp only [this, decide_false]
        cases hlk : L k with
        | false => rfl
        | true => rw [hcl k hlk j hin] at hlj; cases hlj
      · right
        obtain ⟨x, y, e1, e2, e3, e4, e5, e6⟩ := hd.apart j k q hk hin
        rw [ho] at e1
        simp only [Option.some.injEq] at e1
        subst e1
        obtain ⟨a1, a2, a3⟩ := Oper.apart_spec e3
        exact ⟨y, e2, a3, fun d hd e => a2 d e hd, e6, fun b hb hb' => e5 b hb' hb⟩
  have hslot : ∀ t, t ∈ o.looksAt ops → (tmP ops st0.tm ev L ops.size)[t]? = (stP ops st0 ev j).tm[t]? := by
    intro t ht
    show _ = (tmP ops st0.tm ev (fun _ => true) j)[t]?
    rw [tmP_get, tmP_get, ← FA_below ops.size (Nat.le_of_lt hj)]
    refine FA_congr _ (fun k hk hu => ?_)
    by_cases e : k = j
    · subst e; simp [hlj]
    · rcases hind k hk e with h1 | ⟨x, h1, h2, _⟩
      · exact h1
      · exfalso
        refine h2 t ?_ ht
        have := uT_ne hu
        simpa [dstOf, h1] using this
  have hmem : ∀ id, id ∈ (ev j).inf.rd → (wsP ev L ops.size ++ st0.mem).get id = (stP ops st0 ev j).mem.get id := by
    intro id hid
    show _ = (wsP ev (fun _ => true) j ++ st0.mem).get id
    rw [Mem.get_append, Mem.get_append, wsP_get, wsP_get, ← FA_below ops.size (Nat.le_of_lt hj)]
    congr 1
    refine FA_congr _ (fun k hk hu => ?_)
    by_cases e : k = j
    · subst e; simp [hlj]
    · rcases hind k hk e with h1 | ⟨x, h1, _, _, h2, _⟩
      · exact h1
      · exfalso
        refine h2 id ?_ hid
        rw [(hg k hk).1]
        exact get_keys hu
  have hopv : ∀ x ∈ o.op.operands, opV (tmP ops st0.tm ev L ops.size) x = opV (stP ops st0 ev j).tm x := by
    intro x hx
    cases x with
    | tmp t =>
      simp only [opV, List.getD_eq_getElem?_getD]
      rw [hslot t (looks_operand hx)]
    | _ => rfl
  have hrel := hr0.step hinv.step
  -- what comes out fits the set with j in it
  have htm : ∀ v : V, v = (ev j).v → setTm (tmP ops st0.tm ev L ops.size) o.dst v = tmP ops st0.tm ev (fun k => if k = j then true else L k) ops.size := by
    intro v hv
    refine List.ext_getElem? (fun t => ?_)
    rw [setTm_get, tmP_len, tmP_get, tmP_get, FA_insert ops.size hj hlj]
    · congr 1
      simp [uT, dstOf, ho, hv]
    · intro k h1 h2 h3 h4
      rcases hind k h2 (by omega) with h5 | ⟨x, h5, _, h6, _⟩
      · rw [h5]; simp; omega
      · exfalso
        have e1 := uT_ne h3
        have e2 := uT_ne h4
        refine h6 t (by simpa [dstOf, h5] using e2) (by simpa [dstOf, ho] using e1)
  have hws : ∀ i, (wsP ev (fun k => if k = j then true else L k) ops.size).get i = ((ev j).ws ++ wsP ev L ops.size).get i := by
    intro i
    rw [Mem.get_append, wsP_get, wsP_get, FA_insert ops.size hj hlj]
    intro k h1 h2 h3 h4
    rcases hind k h2 (by omega) with h5 | ⟨x, h5, _, _, _, h6⟩
    · rw [h5]; simp; omega
    · exfalso
      refine h6 i ?_ ?_
      · rw [(hg k h2).1]; exact get_keys h4
      · rw [hwr]; exact get_keys h3
  unfold wpOpIn
  rw [ho]
  simp only
  have hwants : ∀ c, wants ops (stP ops st0 ev j).tm o = some c → Region.wanted o (yielded ops a.tmps) = c := by
    intro c hc
    refine wants_spec ?_ hinv.tm
    rw [← hc]
    unfold wants
    cases hgd : o.guard with
    | none => rfl
    | some p =>
      obtain ⟨g, w⟩ := p
      simp only
      cases hdst : (ops[g]?).bind (·.dst) with
      | none => rfl
      | some d => simp only; rw [hslot d (looks_guard hgd hdst)]
  rcases hcase with ⟨hw, hv, hws0, hnx⟩ | ⟨hw, hrd, n, hn, q0, h1, h2, h3, h4⟩
  · rw [hwants _ hw]
    simp only [Bool.false_eq_true, if_false]
    refine ⟨fun _ _ => trivial, hK σ _ W ⟨?_, ?_, ?_, by rw [put_defers]; exact hinv.df⟩⟩
    · rw [← htm V.any hv.symm]
      exact setTm_den hinv.tm (show V.any.den ρ σ undef from trivial) _
    · exact hinv.step.congr (fun i => by rw [hws i, hws0]; rfl)
    · intro i x hi
      rcases hinv.new i x hi with h | ⟨k, k1, k2, k3⟩
      · exact .inl h
      · exact .inr ⟨k, k1, by show (if k = j then true else L k) = true; split <;> simp [k2], k3⟩
  · rw [hwants _ hw]
    simp only [if_true]
    have hfr' : Fr (nxP st0.nx ev j) q0.2.2 σ := by
      intro i i1 i2
      have i2 : i < nxP st0.nx ev (j + 1) := by show i < (ev j).nx; rw [h3]; exact i2
      cases hi : σ i with
      | none => rfl
      | some x =>
        rcases hinv.new i x hi with h | ⟨k, k1, k2, k3, k4⟩
        · have e1 := hmono j 0 (Nat.zero_le _) (Nat.le_of_lt hj)
          have e2 := hmono ops.size (j + 1) hj (Nat.le_refl _)
          rw [hfr i (Nat.le_trans e1 i1) (Nat.lt_of_lt_of_le i2 e2)] at h
          cases h
        · have hne : k ≠ j := fun e => by subst e; rw [hlj] at k2; cases k2
          rcases Nat.lt_or_ge k j with q | q
          · have := hmono j (k + 1) q (Nat.le_of_lt hj)
            omega
          · have := hmono k (j + 1) (by omega) (Nat.le_of_lt k1)
            omega
    have hrel2 : RelM ρ σ ((stP ops st0 ev j).mem.sub (sees (stP ops st0 ev j).mem (opV (stP ops st0 ev j).tm) o)) W := hrel.sub (fun i b hb => by
      obtain ⟨e1, e2⟩ := sub_get _ _ _ _ hb
      rw [hmem i (by rw [hrd]; exact e1)]
      exact e2)
    refine hoper n hn o _ _ _ q0 h1 σ a W hrel2 hfr' (fun x hx => by rw [← hopv x hx]; exact eval_den hinv.tm x) ro K Q (fun u W' σ' k1 k2 k3 => hK σ' _ W' ⟨?_, ?_, ?_, by rw [put_defers]; exact hinv.df.ext k2.ext⟩)
    · rw [← htm _ rfl]
      exact setTm_den (hinv.tm.mono (V.den_ext k2.ext)) (h4 _ _ k1) _
    · refine Step.congr ?_ hws
      rw [h2]
      exact Step.trans (fun i k hi => hr0.lt i k hi) hr0.inj hinv.step k2
    · intro i x hi
      rcases k3 i x hi with h | ⟨h5, h6⟩
      · rcases hinv.new i x h with h | ⟨k, k1, k2, k3⟩
        · exact .inl h
        · exact .inr ⟨k, k1, by show (if k = j then true else L k) = true; split <;> simp [k2], k3⟩
      · exact .inr ⟨j, hj, by simp, h5, by show i < (ev j).nx; rw [h3]; exact h6⟩

theorem countP_less {p q : Nat → Bool} : ∀ (l : List Nat), (∀ x ∈ l, q x = true → p x = true) → ∀ y ∈ l, p y = true → q y = false → l.countP q < l.countP p
  | [], _, y, hy, _, _ => by simp at hy
  | x :: l, h, y, hy, h1, h2 => by
    have le : ∀ l' : List Nat, (∀ x ∈ l', q x = true → p x = true) → l'.countP q ≤ l'.countP p := fun l' hl => List.countP_mono_left hl
    have le' := le l (fun x hx => h x (List.mem_cons_of_mem _ hx))
    simp only [List.countP_cons]
    rcases List.mem_cons.1 hy with e | e
    · subst e
      simp [h1, h2]
      omega
    · have ih := countP_less l (fun x hx => h x (List.mem_cons_of_mem _ hx)) y e h1 h2
      have := h x (List.mem_cons_self ..)
      cases hq : q x with
      | false => simp; omega
      | true => simp [this hq]; exact ih

theorem draw_any {M : Nat} {ops : Array Oper} {st0 : St} {ev : Nat → E1} {σ0 : As} {W0 : World} (hoper : ∀ n, n < M → OperOk P ρ ct lt n) (hg : ∀ k, k < ops.size → GoodE P ct lt ρ M ops (stP ops st0 ev k) k (ev k))
    (hd : DrawSpec ops (fun k => (ev k).inf)) (hr0 : RelM ρ σ0 st0.mem W0) (hfr : Fr st0.nx (nxP st0.nx ev ops.size) σ0) {ro : Option Nat} {Q : Exit → Act → World → Prop}
    (hQ : ∀ σ a W, DInv P ρ ops st0 ev σ0 W0 (fun _ => true) σ a W → Q .normal a W) : ∀ (fuel : Nat) (listed : Array Bool) (σ : As) (a : Act) (W : World), listed.size = ops.size →
    (List.range ops.size).countP (fun i => !listed.getD i false) ≤ fuel → DInv P ρ ops st0 ev σ0 W0 (fun k => listed.getD k false) σ a W → (∀ i, listed.getD i false = true → ∀ x ∈ (ancs ops).getD i [], listed.getD x false = true) →
    wpAnyIn (FR ro) 0 P .any ops Q fuel listed a W := by
  intro fuel
  have hready : ∀ (listed : Array Bool), listed.size = ops.size → Region.ready .any ops listed = [] → ∀ k, k < ops.size → listed.getD k false = true := by
    intro listed hl hr k
    induction k using Nat.strongRecOn with
    | _ k ih =>
      intro hk
      have ho : ops[k]? = some ops[k] := Array.getElem?_eq_getElem hk
      cases hb : listed.getD k false with
      | true => rfl
      | false =>
        exfalso
        have : k ∈ Region.ready .any ops listed := by
          unfold Region.ready
          rw [List.mem_filter, List.mem_range]
          refine ⟨hk, ?_⟩
          have hlk : listed.getD k true = false := by
            have hb' := hb
            simp only [Array.getD_eq_getD_getElem?, Array.getElem?_eq_getElem (show k < listed.size by omega), Option.getD_some] at hb' ⊢
            exact hb'
          rw [hlk, ho]
          simp only [Bool.not_false, Bool.true_and, Option.map_some, Option.getD_some, Array.all_eq_true_iff_forall_mem, Bool.or_eq_true, Bool.not_eq_true']
          intro e he
          cases hbi : Region.binds .any e with
          | false => exact .inl rfl
          | true =>
            have := hd.on k _ ho e he hbi
            exact .inr (ih e.on this (by omega))
        rw [hr] at this
        simp at this
  have hdone : ∀ (listed : Array Bool) (σ : As) (a : Act) (W : World), listed.size = ops.size → (∀ k, k < ops.size → listed.getD k false = true) → DInv P ρ ops st0 ev σ0 W0 (fun k => listed.getD k false) σ a W → Q .normal a W := by
    intro listed σ a W hl hall hinv
    refine hQ σ a W ⟨?_, ?_, ?_, hinv.df⟩
    · refine DL.len_get hinv.tm (List.ext_getElem? (fun t => ?_))
      rw [tmP_get, tmP_get]
      exact FA_congr _ (fun k hk _ => (hall k hk).symm)
    · refine hinv.step.congr (fun i => ?_)
      rw [wsP_get, wsP_get]
      exact FA_congr _ (fun k hk _ => (hall k hk).symm)
    · intro i x hi
      rcases hinv.new i x hi with h | ⟨k, k1, k2, k3⟩
      · exact .inl h
      · exact .inr ⟨k, k1, rfl, k3⟩
  induction fuel with
  | zero =>
    intro listed σ a W hl hc hinv hcl
    have hall : ∀ k, k < ops.size → listed.getD k false = true := by
      intro k hk
      have hz : (List.range ops.size).countP (fun i => !listed.getD i false) = 0 := by omega
      have := List.countP_eq_zero.1 hz k (List.mem_range.2 hk)
      simpa using this
    refine ⟨?_, hdone listed σ a W hl hall hinv⟩
    unfold Region.ready
    rw [List.filter_eq_nil_iff]
    intro k hk
    have h1 := hall k (List.mem_range.1 hk)
    have : listed.getD k true = true := by
      simp only [Array.getD_eq_getD_getElem?, Array.getElem?_eq_getElem (show k < listed.size by have := List.mem_range.1 hk; omega), Option.getD_some] at h1 ⊢
      exact h1
    rw [this]
    simp
  | succ fuel ih =>
    intro listed σ a W hl hc hinv hcl
    refine ⟨fun hr => hdone listed σ a W hl (hready listed hl hr) hinv, fun j hj => ?_⟩
    unfold Region.ready at hj
    rw [List.mem_filter, List.mem_range] at hj
    obtain ⟨hjs, hj2⟩ := hj
    have ho : ops[j]? = some ops[j] := Array.getElem?_eq_getElem hjs
    rw [ho] at hj2
    simp only [Option.map_some, Option.getD_some, Bool.and_eq_true, Bool.not_eq_true', Array.all_eq_true_iff_forall_mem, Bool.or_eq_true] at hj2
    obtain ⟨h1, h2⟩ := hj2
    have hlj : listed.getD j false = false := by
      simp only [Array.getD_eq_getD_getElem?, Array.getElem?_eq_getElem (show j < listed.size by omega), Option.getD_some] at h1 ⊢
      exact h1
    have hanc : ∀ x ∈ (ancs ops).getD j [], listed.getD x false = true := by
      intro x hx
      obtain ⟨e, he, hb, hx⟩ := hd.inv j _ ho x hx
      have hon : listed.getD e.on false = true := by
        rcases h2 e he with h | h
        · rw [hb] at h; cases h
        · exact h
      rcases hx with hx | hx
      · subst hx; exact hon
      · exact hcl _ hon x hx
    have hset : (fun k => (listed.setIfInBounds j true).getD k false) = fun k => if k = j then true else listed.getD k false := by
      funext k
      simp only [Array.getD_eq_getD_getElem?, Array.getElem?_setIfInBounds]
      by_cases e : k = j
      · subst e
        simp [show k < listed.size by omega]
      · simp [e, Ne.symm e]
    refine draw_step hoper hg hd hr0 hfr hinv hcl hjs hlj hanc (fun σ' a' W' hinv' => ih _ σ' a' W' (by simp [hl]) ?_ (by rw [hset]; exact hinv') ?_)
    · have := countP_less (p := fun i => !listed.getD i false) (q := fun i => !(listed.setIfInBounds j true).getD i false) (List.range ops.size) (fun x _ => by
        have := congrFun hset x
        rw [this]
        split <;> simp) j (List.mem_range.2 hjs) (by simp [hlj]) (by have := congrFun hset j; rw [this]; simp)
      omega
    · intro i hi x hx
      have e1 := congrFun hset i
      have e2 := congrFun hset x
      rw [e1] at hi
      rw [e2]
      split
      · rfl
      · split at hi
        · rename_i e; subst e; exact hanc x hx
        · exact hcl i hi x hx

theorem draw_ok (n : Nat) (hoper : ∀ m, m < n → OperOk P ρ ct lt m) : DrawOk P ρ ct lt n := by
  intro r ops st s' h σ a W hbeg hfr ro Q hQ
  obtain ⟨ev, hg, rfl, hd⟩ := draw_run (M := n) (st0 := st) n 0 st [] (fun _ => ⟨V.any, [], 0, ⟨[], []⟩⟩) h (Nat.zero_le _) (by simp [stP, tmP, wsP, nxP]) rfl (fun k hk => by omega) (Nat.le_refl _)
  have hds := drawOk_spec hd
  have hfr : Fr st.nx (nxP st.nx ev ops.size) σ := hfr
  have hmono := nxP_mono (fun k hk => good_nx (hg k hk))
  have hnone : ∀ k, (Array.replicate ops.size false).getD k false = false := by
    intro k
    rw [Array.getD_eq_getD_getElem?, Array.getElem?_replicate]
    split <;> rfl
  refine draw_any hoper hg hds hbeg.rel hfr (fun σ' a' W' hi => hQ a' W' σ' ⟨⟨_, rfl, hi.step⟩, ?_, hmono ops.size 0 (Nat.zero_le _) (Nat.le_refl _), hi.tm, hi.df⟩) ops.size _ σ a W (by simp) ?_ ?_ ?_
  · intro i x hx
    rcases hi.new i x hx with h | ⟨k, k1, _, k2, k3⟩
    · exact .inl h
    · have e1 := hmono k 0 (Nat.zero_le _) (Nat.le_of_lt k1)
      have e2 := hmono ops.size (k + 1) k1 (Nat.le_refl _)
      exact .inr ⟨Nat.le_trans e1 k2, Nat.lt_of_lt_of_le k3 e2⟩
  · exact Nat.le_trans List.countP_le_length (by simp)
  · have hL : (fun k => (Array.replicate ops.size false).getD k false) = fun _ => false := funext hnone
    rw [hL]
    refine ⟨?_, ?_, fun i x hx => .inl hx, hbeg.df⟩
    · have : ∀ n, tmP ops st.tm ev (fun _ => false) n = st.tm := by
        intro n
        induction n with
        | zero => rfl
        | succ n ih => simp [tmP, ih]
      rw [this]
      exact hbeg.tm
    · have : ∀ n, wsP ev (fun _ => false) n = [] := by
        intro n
        induction n with
        | zero => rfl
        | succ n ih => simp [wsP, ih]
      rw [this]
      exact Step.refl _ _ _
  · intro i hi
    rw [hnone] at hi
    cases hi

/-! ### Everything together -/
structure AllOk (P : Program) (ρ : Env) (ct : Ct) (lt : Lt) (n : Nat) : Prop where
  code : CodeOk P ρ ct lt n
  loop : LoopOk P ρ ct lt n
  rend : RangeEndOk P ρ ct lt n
  ops : OpsOk P ρ ct lt n
  oper : OperOk P ρ ct lt n
  round : RoundOk P ρ ct lt n
  call : CallOk P ρ ct lt n

theorem all_ok (hmix : P.follows .mixedOrders = true) (hce : CtEnter P ct) : ∀ n, ∀ m, m ≤ n → ∀ ρ : Env, (∀ ρ', Agree 0 ρ ρ' → CtOk P ρ' ct) → AllOk P ρ ct lt m
  | 0, m, hm, ρ, _ => by
    obtain rfl : m = 0 := by omega
    exact ⟨by intro w r c st p h; simp [code, T.res] at h, by intro w r c st p h; simp [code, T.res] at h, by intro r c st p h; simp [rangeEnd, T.res] at h, ops_zero, by intro o g m n q h; simp [oper, T.res] at h, by intro o g m n q h; simp [round, T.res] at h, by intro o g m n q h; simp [call, T.res] at h⟩
  | n + 1, m, hm, ρ, hct => by
    have ih := all_ok hmix hce n
    rcases Nat.lt_or_ge n m with q | q
    · obtain rfl : m = n + 1 := by omega
      have h := ih n (Nat.le_refl _) ρ hct
      have hput : ∀ N v, CodeOk P (ρ.put N v) ct lt n := fun N v => (ih n (Nat.le_refl _) (ρ.put N v) (fun ρ' ha => hct ρ' ((((Env.put_agree ρ N v).less (Nat.zero_le _)).symm).trans ha))).code
      have hloop := loop_ok n h.code hput h.loop
      exact ⟨code_ok hmix hce n h.code hloop h.ops (draw_ok n (fun k hk => (ih k (by omega) ρ hct).oper)) h.call h.rend, hloop, rangeEnd_ok n h.code, ops_ok n h.oper h.ops, oper_ok hce n h.call h.round, round_ok n h.code, call_ok (hct ρ (Agree.refl _ _)) n h.code⟩
    · exact ih m q ρ hct
end

/-- What a call of the program does: of the flat tree that the executor has made, each way out answers as is wished. -/
theorem exec_flat {P : Program} {ρ : Env} {ct : Ct} {lt : Lt} (hmix : P.follows .mixedOrders = true) (hct : ∀ ρ', Agree 0 ρ ρ' → CtOk P ρ' ct) (hce : CtEnter P ct) {n : Nat} {f : FuncId} {args : List V} {mem : Mem} {nx c : Nat} {tr : TT OpR} (he : T.norm 0 (call P ct lt n f args mem nx) TT.ret = tr)
    (hlow : tr.low c = true) {K : Env → OpR → Prop} (hs : tr.sat ρ K (fun _ _ => False)) {σ : As} {vals : List Value} {W : World} (hr : ∀ ρ', Agree c ρ ρ' → RelM ρ' σ mem W) (hfr : ∀ k, nx ≤ k → σ k = none) (ha : ∀ ρ', Agree c ρ ρ' → DL (V.den ρ' σ) args vals) :
    ∃ ρ' q, Agree c ρ ρ' ∧ K ρ' q ∧ nx ≤ q.2.2 ∧ CallsIn (FR none) 0 P f vals.toArray W (RetTo ρ' σ W nx q) := by
  obtain ⟨ρ', q, h1, h2, h3⟩ := T.res_of_flat he hlow hs
  refine ⟨ρ', q, h1, h3, (mono n).call _ _ _ _ _ h2, ?_⟩
  exact (all_ok hmix hce n n (Nat.le_refl _) ρ' (fun ρ2 h => hct ρ2 ((h1.less (Nat.zero_le _)).trans h))).call f args mem nx q h2 σ W vals (hr ρ' h1) (fun i h _ => hfr i h) (ha ρ' h1)
end Go.Proofs.Ytinfmmofcadjgaa
