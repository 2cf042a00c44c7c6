/- The symbolic executor is right: operations on memory. -/
import Derived.Test.YtinfmmofcadjgaaZg
namespace Go.Proofs.Ytinfmmofcadjgaa
open Go.RowKit

section
variable {P : Program} {ρ : Env} {σ : As}

theorem cell_at {W : World} {x : Nat} {c : Array Value} {t : TypeId} {z : Nat × Nat} (h : W.heap[x]? = some (.cells c t z)) (o : Nat) : W.cell? ⟨x, o, none⟩ = c[o]? := by
  simp [World.cell?, h]
theorem run_load_cell {W : World} {a : Addr} {v : Value} (h : W.cell? a = some v) : (load a).run P W = .ok v W := by
  simp [load, Sem.run, h]
theorem run_loadCellsFrom (W : World) (a : Addr) : ∀ (l : List Value) (i : Nat) (acc : Array Value), (∀ j v, l[j]? = some v → W.cell? (a.add (i + j)) = some v) →
    (loadCellsFrom a i l.length acc).run P W = .ok (acc ++ l.toArray) W
  | [], i, acc, _ => by simp [loadCellsFrom]
  | v :: l, i, acc, h => by
    have h0 := h 0 v rfl
    simp only [Nat.add_zero] at h0
    have ih := run_loadCellsFrom W a l (i + 1) (acc.push v) (fun j u hj => by rw [show i + 1 + j = i + (j + 1) by omega]; exact h (j + 1) u (by simpa using hj))
    simp only [List.length_cons, loadCellsFrom, Sem.run_bind, run_load_cell h0, Result.andThen_ok, ih]
    simp
theorem run_loadVar_agg {t : TypeId} {d : TypeDesc} {i : TypeInfo} (hu : P.underlying t = some d) (hi : P.info? t = some i) (ha : isAggT P t = true) {W : World} {a : Addr} {l : List Value} (hl : l.length = P.cellsOf t)
    (h : ∀ j v, l[j]? = some v → W.cell? (a.add j) = some v) : (loadVar t a).run P W = .ok (.agg l.toArray) W := by
  have e := run_loadCellsFrom (P := P) W a l 0 #[] (fun j v hj => by rw [Nat.zero_add]; exact h j v hj)
  rw [hl] at e
  simp [loadVar, run_isAgg hu, ha, run_sizeOf hi, loadCells, e]
theorem run_loadVar_one {t : TypeId} {d : TypeDesc} (hu : P.underlying t = some d) (ha : isAggT P t = false) {W : World} {a : Addr} {v : Value} (h : W.cell? a = some v) : (loadVar t a).run P W = .ok v W := by
  simp only [loadVar, Sem.run_bind, run_isAgg hu, ha, Result.andThen_ok, Bool.false_eq_true, if_false]
  exact run_load_cell h

theorem load_local {t : TypeId} {cs : List S} {off : Nat} {x : V2} (h : partS P t cs off = some x) {W : World} {b : Nat} {vs ex : List Value} {bt : TypeId} {z : Nat × Nat} (hd : DL (S.den ρ σ) cs vs)
    (hb : W.heap[b]? = some (.cells (vs ++ ex).toArray bt z)) : ∃ u, (loadVar t ⟨b, off, none⟩).run P W = .ok u W ∧ x.den ρ σ u := by
  unfold partS at h
  split at h
  · simp at h
  · rename_i d hu
    obtain ⟨i, hi⟩ := info_of_underlying hu
    have hlen := hd.length
    by_cases ha : isAggT P t = true
    · rw [if_pos ha] at h
      split at h
      · rename_i hle
        simp only [Option.some.injEq] at h
        subst h
        have hd' := (hd.drop off).take (P.cellsOf t)
        refine ⟨_, run_loadVar_agg (l := (vs.drop off).take (P.cellsOf t)) hu hi ha (by simp; omega) (fun j v hj => ?_), _, hd', rfl⟩
        rw [add_none, cell_at hb]
        have hj' : j < P.cellsOf t := by
          rcases Nat.lt_or_ge j (P.cellsOf t) with q | q
          · exact q
          · rw [List.getElem?_eq_none (by simp; omega)] at hj; simp at hj
        rw [List.getElem?_take_of_lt hj', List.getElem?_drop] at hj
        simp only [List.getElem?_toArray]
        rw [List.getElem?_append_left (by omega)]
        exact hj
      · simp at h
    · rw [if_neg ha] at h
      simp only [Option.map_eq_some_iff] at h
      obtain ⟨a, h1, rfl⟩ := h
      obtain ⟨v, h2, h3⟩ := hd.get h1
      refine ⟨v, run_loadVar_one hu (by simpa using ha) ?_, h3⟩
      rw [cell_at hb]
      simp only [List.getElem?_toArray]
      have : off < vs.length := (List.getElem?_eq_some_iff.1 h2).1
      rw [List.getElem?_append_left this]
      exact h2

theorem rdS_den {k : CK} {x : X} {i : E} {off : Nat} {v : Value} {d : D} (h : CK.rep ρ.w k v d) (hd : cellAt (x.ev ρ) (i.ev ρ) off = d) : (rdS x i off k).den ρ σ v := by
  cases k with
  | int k =>
    unfold CK.rep at h
    obtain ⟨n, rfl, rfl⟩ := h
    show Value.int k n = .int k _
    simp only [E.ev, hd, D.int]
  | bool =>
    unfold CK.rep at h
    obtain ⟨b, rfl, rfl⟩ := h
    show Value.bool b = .bool _
    simp only [B.ev, hd, D.bool]
  | sl ks =>
    rw [rep_sl] at h
    obtain ⟨r, rfl, h⟩ := h
    show Sl ρ.w ks v _ false
    simp only [X.ev, hd, D.rows]
    exact h
theorem rdL_den {x : X} {i : E} {row : List D} (hrow : (x.ev ρ)[(i.ev ρ).toNat]? = some row) : ∀ (ks : List CK) (vs : List Value) (off : Nat), (∀ (j : Nat) (k : CK), ks[j]? = some k → ∃ v d, vs[j]? = some v ∧ row[off + j]? = some d ∧ CK.rep ρ.w k v d) → vs.length = ks.length →
    DL (S.den ρ σ) (rdL x i off ks) vs
  | [], vs, off, _, hl => by
    have : vs = [] := List.eq_nil_of_length_eq_zero hl
    subst this
    trivial
  | k :: ks, vs, off, h, hl => by
    obtain ⟨v, d, h1, h2, h3⟩ := h 0 k rfl
    cases vs with
    | nil => simp at h1
    | cons u us =>
      simp only [List.getElem?_cons_zero, Option.some.injEq] at h1
      subst h1
      refine ⟨rdS_den h3 ?_, rdL_den hrow ks us (off + 1) (fun j k' hj => ?_) (by simpa using hl)⟩
      · simp only [Nat.add_zero] at h2
        simp [cellAt, hrow, h2]
      · obtain ⟨v, d, q1, q2, q3⟩ := h (j + 1) k' (by simpa using hj)
        exact ⟨v, d, by simpa using q1, by rw [show off + 1 + j = off + (j + 1) by omega]; exact q2, q3⟩

theorem loadS_sound {mem : Mem} {t : TypeId} {p : V} {obs : List Ob} {v : V} (h : loadS P mem t p = some (obs, v)) {a : Value} (ha : p.den ρ σ a) {W : World} (hr : RelM ρ σ mem W) :
    ∃ u, (Instr.loadAt t a).run P W = .ok u W ∧ v.den ρ σ u := by
  unfold loadS at h
  split at h
  · rename_i id off
    obtain ⟨b, h1, rfl⟩ := ha
    have key : ∀ (cs : List S) (bt : TypeId) (vs ex : List Value) (z : Nat × Nat), DL (S.den ρ σ) cs vs → W.heap[b]? = some (.cells (vs ++ ex).toArray bt z) →
        (match P.info? t with | some _ => (partS P t cs off).map fun x => (([] : List Ob), V.v x) | none => none) = some (obs, v) → ∃ u, (Instr.loadAt t (.pointer (some ⟨b, off, none⟩))).run P W = .ok u W ∧ v.den ρ σ u := by
      intro cs bt vs ex z hd hb h
      split at h
      · simp only [Option.map_eq_some_iff, Prod.mk.injEq] at h
        obtain ⟨x, hx, rfl, rfl⟩ := h
        obtain ⟨u, h2, h3⟩ := load_local hx hd hb
        exact ⟨u, by simp [Instr.loadAt, Instr.sureAddr, h2], h3⟩
      · simp at h
    split at h
    · rename_i t' cs hm
      obtain ⟨b', h2, vs, h3, h4⟩ := hr.blk _ _ hm
      rw [h1] at h2
      simp only [Option.some.injEq] at h2
      subst h2
      exact key cs _ vs [] _ h3 (by simpa using h4) h
    · rename_i t' cs hm
      obtain ⟨b', h2, vs, ex, h3, h4⟩ := hr.blk _ _ hm
      rw [h1] at h2
      simp only [Option.some.injEq] at h2
      subst h2
      exact key cs _ vs ex _ h3 h4 h
    · simp at h
  · rename_i K x i off
    obtain ⟨q, n, c, hs, h1, h2, rfl⟩ := ha
    split at h
    · rename_i ks inf hk hi
      split at h
      · rename_i hc
        simp only [Bool.and_eq_true, Bool.or_eq_true] at hc
        obtain ⟨hc1, hc2⟩ := hc
        have hc1 := CK.sameL_eq _ _ hc1
        simp only [okV, Option.some.injEq, Prod.mk.injEq] at h
        obtain ⟨rfl, rfl⟩ := h
        have hks : ∃ ks', kinds P 20 t = some ks' ∧ ks = ks' ∧ ks.length = P.cellsOf t := by
          unfold kindsOf at hk
          split at hk
          · rename_i ks' hk'
            split at hk
            · rename_i hl
              simp only [Option.some.injEq] at hk
              subst hk
              exact ⟨_, hk', rfl, natb hl⟩
            · simp at hk
          · simp at hk
        obtain ⟨_, hkk, rfl, hkl⟩ := hks
        have hu : ∃ d, P.underlying t = some d := by
          cases hu : P.underlying t with
          | some d => exact ⟨d, rfl⟩
          | none => simp [kinds, hu] at hkk
        obtain ⟨d, hu⟩ := hu
        have hlt : (i.ev ρ).toNat < (x.ev ρ).length := by have := hs.len; omega
        obtain ⟨row, hrow⟩ : ∃ row, (x.ev ρ)[(i.ev ρ).toNat]? = some row := ⟨_, List.getElem?_eq_getElem hlt⟩
        obtain ⟨us, e1, e2⟩ := hs.cell q rfl _ _ hrow
        have elen := reps_len e1
        have hkget : ∀ (j : Nat) (k : CK), ks[j]? = some k → K[off + j]? = some k := by
          intro j k hj
          have hj' : j < ks.length := (List.getElem?_eq_some_iff.1 hj).1
          rw [← hc1, List.getElem?_take_of_lt hj', List.getElem?_drop] at hj
          exact hj
        have hcells : ∀ (j : Nat) (k : CK), ks[j]? = some k → ∃ v d, ((us.drop off).take ks.length)[j]? = some v ∧ row[off + j]? = some d ∧ CK.rep ρ.w k v d := by
          intro j k hj
          have hj' : j < ks.length := (List.getElem?_eq_some_iff.1 hj).1
          obtain ⟨v, d, g1, g2, g3⟩ := reps_get e1 (hkget j k hj)
          exact ⟨v, d, by rw [List.getElem?_take_of_lt hj', List.getElem?_drop]; exact g1, g2, g3⟩
        have hul : ((us.drop off).take ks.length).length = ks.length := by
          simp only [List.length_take, List.length_drop, elen.1]
          have : ks.length ≤ K.length - off := by
            have h3 : ((K.drop off).take ks.length).length = ks.length := by rw [hc1]
            simp only [List.length_take, List.length_drop] at h3
            omega
          omega
        have hd := rdL_den (σ := σ) hrow ks _ off hcells hul
        have hcell : ∀ j u, ((us.drop off).take ks.length)[j]? = some u → W.cell? ((q.add ((i.ev ρ).toNat * K.length + off)).add j) = some u := by
          intro j u hj
          have hj' : j < ks.length := by
            have := (List.getElem?_eq_some_iff.1 hj).1
            rw [hul] at this
            exact this
          rw [List.getElem?_take_of_lt hj', List.getElem?_drop] at hj
          have := e2 _ _ hj
          rw [add_add, Nat.add_assoc, hr.base.cell (World.block_lt_of_cell? _ _ this)]
          exact this
        have hsz : P.cellsOf t = inf.size := by simp [Program.cellsOf, hi]
        by_cases ha : isAggT P t = true
        · rw [if_pos ha]
          exact ⟨.agg ((us.drop off).take ks.length).toArray, by simp [Instr.loadAt, Instr.sureAddr, run_loadVar_agg hu hi ha (by omega) hcell], _, hd, rfl⟩
        · have hone : inf.size = 1 := by
            rcases hc2 with hc2 | hc2
            · exact absurd hc2 ha
            · exact natb hc2
          rw [if_neg ha]
          generalize hw : (us.drop off).take ks.length = ws at hd hcell hul
          match ws, ks, hul, hd, hcell with
          | [u], k :: ks', _, hd, hcell =>
            have h0 := hcell 0 u rfl
            rw [show ∀ a : Addr, a.add 0 = a from fun _ => rfl] at h0
            exact ⟨u, by simp [Instr.loadAt, Instr.sureAddr, run_loadVar_one hu (by simpa using ha) h0], hd.1⟩
          | [], [], _, _, _ => simp at hkl; omega
          | u :: w :: r, ks, e1, _, _ => simp at e1; omega
      · simp at h
    · simp at h
  · simp at h

/-! ### Stores -/
theorem run_storeCells {b : Nat} {bt : TypeId} : ∀ (l : List Value) (i : Nat) (W : World) (vs : List Value) (off : Nat), (∀ v ∈ l, scalar v = true) → W.heap[b]? = some (.cells vs.toArray bt (0, 0)) → off + i + l.length ≤ vs.length →
    ∃ W', (storeCells ⟨b, off, none⟩ l i).run P W = .ok () W' ∧ W'.heap[b]? = some (.cells (vs.take (off + i) ++ l ++ vs.drop (off + i + l.length)).toArray bt (0, 0)) ∧
      W'.os = W.os ∧ W'.tape = W.tape ∧ W'.output = W.output ∧ W'.heap.size = W.heap.size ∧ ∀ k, k ≠ b → W'.heap[k]? = W.heap[k]?
  | [], i, W, vs, off, _, hb, _ => ⟨W, by simp [storeCells], by simpa using hb, rfl, rfl, rfl, rfl, fun _ _ => rfl⟩
  | v :: l, i, W, vs, off, hs, hb, hle => by
    simp only [List.length_cons] at hle
    have hlt : off + i < vs.length := by omega
    have hc : W.cell? ⟨b, off + i, none⟩ = some vs[off + i] := by rw [cell_at hb]; simp [hlt]
    have hf : W.frozen? ⟨b, off + i, none⟩ = false := by simp [World.frozen?, hb]
    have hv := hs v (List.mem_cons_self ..)
    have hst : (store ⟨b, off + i, none⟩ v).run P W = .ok () (W.setCell ⟨b, off + i, none⟩ v) := by
      cases v <;> simp [scalar] at hv <;> simp [store, Sem.run, hc, hf]
    have hb1 : (W.setCell ⟨b, off + i, none⟩ v).heap[b]? = some (.cells (vs.set (off + i) v).toArray bt (0, 0)) := by
      simp [World.setCell, Array.getElem?_modify, hb]
    obtain ⟨W', h1, h2, h3, h4, h5, h6, h7⟩ := run_storeCells l (i + 1) (W.setCell ⟨b, off + i, none⟩ v) (vs.set (off + i) v) off (fun u hu => hs u (List.mem_cons_of_mem _ hu)) hb1 (by simp; omega)
    refine ⟨W', by simp [storeCells, add_none, hst, h1], ?_, h3, h4, h5, by rw [h6]; simp [World.setCell], fun k hk => by rw [h7 k hk]; exact Below.heap_setCell _ _ _ _ hk⟩
    rw [h2]
    have e1 : (vs.set (off + i) v).take (off + (i + 1)) = vs.take (off + i) ++ [v] := by
      rw [show off + (i + 1) = (off + i) + 1 by omega, List.take_succ_eq_append_getElem (by simp; omega), List.take_set_of_le (Nat.le_refl _)]
      simp
    have e2 : (vs.set (off + i) v).drop (off + (i + 1) + l.length) = vs.drop (off + i + (l.length + 1)) := by
      rw [List.drop_set_of_lt (by omega)]
      congr 1; omega
    rw [e1, e2]
    simp

theorem cells_all {x : V2} {v : Value} (h : x.solid = true) (hd : x.den ρ σ v) : ∀ u ∈ v.cells.toList, scalar u = true := by
  cases x with
  | one s =>
    have hs := solid_S h hd
    rw [cells_scalar hs]
    intro u hu
    rw [List.mem_singleton.1 (show u ∈ [v] from hu)]
    exact hs
  | agg cs =>
    obtain ⟨vs, h1, rfl⟩ := hd
    intro u hu
    simp only [Value.cells] at hu
    obtain ⟨i, hi, rfl⟩ := List.getElem_of_mem hu
    have hlen := h1.length
    have hi' : i < cs.length := by have hi2 : i < vs.length := hi; omega
    obtain ⟨w, q1, q2⟩ := h1.get (List.getElem?_eq_getElem hi')
    have hi2 : i < vs.length := hi
    rw [List.getElem?_eq_getElem hi2] at q1
    simp only [Option.some.injEq] at q1
    show scalar (vs[i]'hi2) = true
    rw [q1]
    exact solid_S (List.all_eq_true.1 h _ (List.getElem_mem hi')) q2

/-- The ids from nx to below n are not yet used. -/
def Fr (nx n : Nat) (σ : As) : Prop := ∀ i, nx ≤ i → i < n → σ i = none
/-- The new ids are from nx to below n. -/
def New (nx n : Nat) (σ σ' : As) : Prop := ∀ i a, σ' i = some a → σ i = some a ∨ (nx ≤ i ∧ i < n)

theorem storeS_sound {mem : Mem} {nx : Nat} {t : TypeId} {p q : V} {r : OpR} (h : (storeS P mem nx t p q).res ρ r) {a b : Value} (ha : p.den ρ σ a) (hb : q.den ρ σ b) {W : World} (hr : RelM ρ σ mem W) :
    ∃ W', (Instr.storeAt t a b).run P W = .ok () W' ∧ r.1 = V.any ∧ Step ρ σ W r.2.1 σ W' ∧ r.2.2 = nx := by
  unfold storeS at h
  split at h
  · rename_i id off x
    split at h
    · rename_i t' cs hm
      split at h
      · rename_i hc
        simp only [Bool.and_eq_true, beq_iff_eq, decide_eq_true_eq] at hc
        obtain ⟨⟨⟨c1, c2⟩, c3⟩, c4⟩ := hc
        obtain ⟨i, hi⟩ := Option.isSome_iff_exists.1 c4
        simp only [T.res] at h
        subst h
        obtain ⟨y, h1, rfl⟩ := ha
        obtain ⟨y', h2, vs, h3, h4⟩ := hr.blk _ _ hm
        rw [h1] at h2
        simp only [Option.some.injEq] at h2
        subst h2
        have hv := cells_den c1 hb
        have hlen := hv.length
        have hlen2 := h3.length
        have hsz : b.cells.size = b.cells.toList.length := by simp
        obtain ⟨W', e1, e2, e3, e4, e5, e6, e7⟩ := run_storeCells (P := P) b.cells.toList 0 W vs off (cells_all c1 hb) h4 (by omega)
        refine ⟨W', ?_, rfl, ?_, rfl⟩
        · have hne : ¬ (b.cells.size ≠ P.cellsOf t) := by omega
          simp [Instr.storeAt, Instr.sureAddr, storeVar, run_sizeOf hi, hne, e1]
        · refine ⟨Ext.refl _, e3, e4, e5, by omega, fun k hk hne => e7 k (fun e => ?_), fun i a hi => .inl hi, fun e => e, fun i b' hi => ?_, fun k L hk => ?_⟩
          · subst e
            exact hne id (.cells t' (setRange cs off x.cells)) (by simp [Mem.get]) h1
          · simp only [Mem.get] at hi
            split at hi
            · rename_i hii
              simp only [beq_iff_eq] at hii
              subst hii
              simp only [Option.some.injEq] at hi
              subst hi
              refine ⟨y, h1, _, setRange_den (off := off) h3 hv, ?_⟩
              simpa using e2
            · simp at hi
          · have hky : k ≠ y := fun e => by subst e; rw [h4] at hk; cases hk
            exact ⟨L, by rw [e7 k hky]; exact hk, rfl, rfl, rfl, rfl⟩
      · exact h.elim
    · exact h.elim
  · exact h.elim

/-! ### New blocks -/
theorem step_new {nx : Nat} (hn : σ nx = none) {W : World} (hlt : ∀ i a, σ i = some a → a < W.heap.size) {b : Blk} {o : Obj} (hb : BDen ρ (fun i => if i = nx then some W.heap.size else σ i) b (some o)) :
    Step ρ σ W [(nx, b)] (fun i => if i = nx then some W.heap.size else σ i) (W.alloc o) ∧ New nx (nx + 1) σ (fun i => if i = nx then some W.heap.size else σ i) := by
  have hno : ∀ a, σ nx ≠ some a := fun a h => by rw [hn] at h; cases h
  refine ⟨⟨?_, rfl, rfl, rfl, by simp, ?_, ?_, ?_, ?_, Keep.of_eq (fun k hk => Below.heap_alloc _ _ _ hk)⟩, ?_⟩
  · intro i a hi
    have hne : i ≠ nx := fun e => by subst e; exact hno _ hi
    simp [hne, hi]
  · intro k hk _
    exact Below.heap_alloc _ _ _ hk
  · intro i a hi
    by_cases e : i = nx
    · simp only [e, if_true, Option.some.injEq] at hi
      subst hi
      exact .inr ⟨Nat.le_refl _, by simp⟩
    · rw [if_neg e] at hi
      exact .inl hi
  · intro hinj i j a hi hj
    by_cases e1 : i = nx <;> by_cases e2 : j = nx
    · rw [e1, e2]
    · rw [if_pos e1] at hi; rw [if_neg e2] at hj
      simp only [Option.some.injEq] at hi
      have := hlt _ _ hj
      omega
    · rw [if_neg e1] at hi; rw [if_pos e2] at hj
      simp only [Option.some.injEq] at hj
      have := hlt _ _ hi
      omega
    · rw [if_neg e1] at hi; rw [if_neg e2] at hj
      exact hinj i j a hi hj
  · intro i b' hi
    simp only [Mem.get] at hi
    split at hi
    · rename_i hii
      simp only [beq_iff_eq] at hii
      subst hii
      simp only [Option.some.injEq] at hi
      subst hi
      refine ⟨W.heap.size, by simp, ?_⟩
      rw [show (W.alloc o).heap[W.heap.size]? = some o from by show (W.heap.push o)[W.heap.size]? = some o; simp]
      exact hb
    · simp at hi
  · intro i a hi
    by_cases e : i = nx
    · exact .inr (by omega)
    · replace hi : σ i = some a := by have h := hi; simp only [e, if_false] at h; exact h
      exact .inl hi
end
end Go.Proofs.Ytinfmmofcadjgaa
