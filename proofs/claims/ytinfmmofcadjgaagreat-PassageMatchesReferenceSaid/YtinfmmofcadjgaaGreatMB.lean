/- MB, merged: Zh, Zi, Zj, Zy, Zk, Zs, Zl, Zm, Zr, Zn, Zo, Zu, Ro. -/
import Derived.Test.YtinfmmofcadjgaaGreatMA
import Derived.LoopNIn
import Derived.RangeFuncRecord
import Derived.ChangeArms
import Derived.OpenShut
import Derived.SizedLaws
import Derived.DataReads
import Derived.Test.YtinfmmofcadjgaaGreatRows
import Derived.ProofKit
set_option linter.unusedSimpArgs false
set_option linter.unusedVariables false
/- The symbolic executor is right: operations on memory. -/
namespace Go.Proofs.YtinfmmofcadjgaaGreat
open Go.RowKit

section
variable {P : Program} {ρ : Env} {σ : As}

theorem cell_at {W : World} {x : Nat} {c : Array Value} {t : TypeId} {z : Nat × Nat} (h : W.heap[x]? = some (.cells c t z)) (o : Nat) : W.cell? ⟨x, o, none⟩ = c[o]? := by
  simp [World.cell?, h]
theorem run_load_cell {W : World} {a : Addr} {v : Value} (h : W.cell? a = some v) : (load a).run P W = .ok v W := by
  simp [load, Sem.run, h]
theorem run_loadCellsFrom (W : World) (a : Addr) : ∀ (l : List Value) (i : Nat) (acc : Array Value), (∀ j v, l[j]? = some v → W.cell? (a.add (i + j)) = some v) →
    (loadCellsFrom a i l.length acc).run P W = .ok (acc ++ l.toArray) W
  | [], i, acc, _ => by simp [loadCellsFrom]
  | v :: l, i, acc, h => by
    have h0 := h 0 v rfl
    simp only [Nat.add_zero] at h0
    have ih := run_loadCellsFrom W a l (i + 1) (acc.push v) (fun j u hj => by rw [show i + 1 + j = i + (j + 1) by omega]; exact h (j + 1) u (by simpa using hj))
    simp only [List.length_cons, loadCellsFrom, Sem.run_bind, run_load_cell h0, Result.andThen_ok, ih]
    simp
theorem run_loadVar_agg {t : TypeId} {d : TypeDesc} {i : TypeInfo} (hu : P.underlying t = some d) (hi : P.info? t = some i) (ha : isAggT P t = true) {W : World} {a : Addr} {l : List Value} (hl : l.length = P.cellsOf t)
    (h : ∀ j v, l[j]? = some v → W.cell? (a.add j) = some v) : (loadVar t a).run P W = .ok (.agg l.toArray) W := by
  have e := run_loadCellsFrom (P := P) W a l 0 #[] (fun j v hj => by rw [Nat.zero_add]; exact h j v hj)
  rw [hl] at e
  simp [loadVar, run_isAgg hu, ha, run_sizeOf hi, loadCells, e]
theorem run_loadVar_one {t : TypeId} {d : TypeDesc} (hu : P.underlying t = some d) (ha : isAggT P t = false) {W : World} {a : Addr} {v : Value} (h : W.cell? a = some v) : (loadVar t a).run P W = .ok v W := by
  simp only [loadVar, Sem.run_bind, run_isAgg hu, ha, Result.andThen_ok, Bool.false_eq_true, if_false]
  exact run_load_cell h

theorem load_local {t : TypeId} {cs : List S} {off : Nat} {x : V2} (h : partS P t cs off = some x) {W : World} {b : Nat} {vs ex : List Value} {bt : TypeId} {z : Nat × Nat} (hd : DL (S.den ρ σ) cs vs)
    (hb : W.heap[b]? = some (.cells (vs ++ ex).toArray bt z)) : ∃ u, (loadVar t ⟨b, off, none⟩).run P W = .ok u W ∧ x.den ρ σ u := by
  unfold partS at h
  split at h
  · simp at h
  · rename_i d hu
    obtain ⟨i, hi⟩ := info_of_underlying hu
    have hlen := hd.length
    by_cases ha : isAggT P t = true
    · rw [if_pos ha] at h
      split at h
      · rename_i hle
        simp only [Option.some.injEq] at h
        subst h
        have hd' := (hd.drop off).take (P.cellsOf t)
        refine ⟨_, run_loadVar_agg (l := (vs.drop off).take (P.cellsOf t)) hu hi ha (by simp; omega) (fun j v hj => ?_), _, hd', rfl⟩
        rw [add_none, cell_at hb]
        have hj' : j < P.cellsOf t := by
          rcases Nat.lt_or_ge j (P.cellsOf t) with q | q
          · exact q
          · rw [List.getElem?_eq_none (by simp; omega)] at hj; simp at hj
        rw [List.getElem?_take_of_lt hj', List.getElem?_drop] at hj
        simp only [List.getElem?_toArray]
        rw [List.getElem?_append_left (by omega)]
        exact hj
      · simp at h
    · rw [if_neg ha] at h
      simp only [Option.map_eq_some_iff] at h
      obtain ⟨a, h1, rfl⟩ := h
      obtain ⟨v, h2, h3⟩ := hd.get h1
      refine ⟨v, run_loadVar_one hu (by simpa using ha) ?_, h3⟩
      rw [cell_at hb]
      simp only [List.getElem?_toArray]
      have : off < vs.length := (List.getElem?_eq_some_iff.1 h2).1
      rw [List.getElem?_append_left this]
      exact h2

theorem rdS_den {k : CK} {x : X} {i : E} {off : Nat} {v : Value} {d : D} (h : CK.rep ρ.w k v d) (hd : cellAt (x.ev ρ) (i.ev ρ) off = d) : (rdS x i off k).den ρ σ v := by
  cases k with
  | int k =>
    unfold CK.rep at h
    obtain ⟨n, rfl, rfl⟩ := h
    show Value.int k n = .int k _
    simp only [E.ev, hd, D.int]
  | bool =>
    unfold CK.rep at h
    obtain ⟨b, rfl, rfl⟩ := h
    show Value.bool b = .bool _
    simp only [B.ev, hd, D.bool]
  | sl ks =>
    rw [rep_sl] at h
    obtain ⟨r, rfl, h⟩ := h
    show Sl ρ.w ks v _ false
    simp only [X.ev, hd, D.rows]
    exact h
theorem rdL_den {x : X} {i : E} {row : List D} (hrow : (x.ev ρ)[(i.ev ρ).toNat]? = some row) : ∀ (ks : List CK) (vs : List Value) (off : Nat), (∀ (j : Nat) (k : CK), ks[j]? = some k → ∃ v d, vs[j]? = some v ∧ row[off + j]? = some d ∧ CK.rep ρ.w k v d) → vs.length = ks.length →
    DL (S.den ρ σ) (rdL x i off ks) vs
  | [], vs, off, _, hl => by
    have : vs = [] := List.eq_nil_of_length_eq_zero hl
    subst this
    trivial
  | k :: ks, vs, off, h, hl => by
    obtain ⟨v, d, h1, h2, h3⟩ := h 0 k rfl
    cases vs with
    | nil => simp at h1
    | cons u us =>
      simp only [List.getElem?_cons_zero, Option.some.injEq] at h1
      subst h1
      refine ⟨rdS_den h3 ?_, rdL_den hrow ks us (off + 1) (fun j k' hj => ?_) (by simpa using hl)⟩
      · simp only [Nat.add_zero] at h2
        simp [cellAt, hrow, h2]
      · obtain ⟨v, d, q1, q2, q3⟩ := h (j + 1) k' (by simpa using hj)
        exact ⟨v, d, by simpa using q1, by rw [show off + 1 + j = off + (j + 1) by omega]; exact q2, q3⟩

theorem loadS_sound {mem : Mem} {t : TypeId} {p : V} {obs : List Ob} {v : V} (h : loadS P mem t p = some (obs, v)) {a : Value} (ha : p.den ρ σ a) {W : World} (hr : RelM ρ σ mem W) :
    ∃ u, (Instr.loadAt t a).run P W = .ok u W ∧ v.den ρ σ u := by
  unfold loadS at h
  split at h
  · rename_i id off
    obtain ⟨b, h1, rfl⟩ := ha
    have key : ∀ (cs : List S) (bt : TypeId) (vs ex : List Value) (z : Nat × Nat), DL (S.den ρ σ) cs vs → W.heap[b]? = some (.cells (vs ++ ex).toArray bt z) →
        (match P.info? t with | some _ => (partS P t cs off).map fun x => (([] : List Ob), V.v x) | none => none) = some (obs, v) → ∃ u, (Instr.loadAt t (.pointer (some ⟨b, off, none⟩))).run P W = .ok u W ∧ v.den ρ σ u := by
      intro cs bt vs ex z hd hb h
      split at h
      · simp only [Option.map_eq_some_iff, Prod.mk.injEq] at h
        obtain ⟨x, hx, rfl, rfl⟩ := h
        obtain ⟨u, h2, h3⟩ := load_local hx hd hb
        exact ⟨u, by simp [Instr.loadAt, Instr.sureAddr, h2], h3⟩
      · simp at h
    split at h
    · rename_i t' cs hm
      obtain ⟨b', h2, vs, h3, h4⟩ := hr.blk _ _ hm
      rw [h1] at h2
      simp only [Option.some.injEq] at h2
      subst h2
      exact key cs _ vs [] _ h3 (by simpa using h4) h
    · rename_i t' cs hm
      obtain ⟨b', h2, vs, ex, h3, h4⟩ := hr.blk _ _ hm
      rw [h1] at h2
      simp only [Option.some.injEq] at h2
      subst h2
      exact key cs _ vs ex _ h3 h4 h
    · simp at h
  · rename_i K x i off
    obtain ⟨q, n, c, hs, h1, h2, rfl⟩ := ha
    split at h
    · rename_i ks inf hk hi
      split at h
      · rename_i hc
        simp only [Bool.and_eq_true, Bool.or_eq_true] at hc
        obtain ⟨hc1, hc2⟩ := hc
        have hc1 := CK.sameL_eq _ _ hc1
        simp only [okV, Option.some.injEq, Prod.mk.injEq] at h
        obtain ⟨rfl, rfl⟩ := h
        have hks : ∃ ks', kinds P 20 t = some ks' ∧ ks = ks' ∧ ks.length = P.cellsOf t := by
          unfold kindsOf at hk
          split at hk
          · rename_i ks' hk'
            split at hk
            · rename_i hl
              simp only [Option.some.injEq] at hk
              subst hk
              exact ⟨_, hk', rfl, natb hl⟩
            · simp at hk
          · simp at hk
        obtain ⟨_, hkk, rfl, hkl⟩ := hks
        have hu : ∃ d, P.underlying t = some d := by
          cases hu : P.underlying t with
          | some d => exact ⟨d, rfl⟩
          | none => simp [kinds, hu] at hkk
        obtain ⟨d, hu⟩ := hu
        have hlt : (i.ev ρ).toNat < (x.ev ρ).length := by have := hs.len; omega
        obtain ⟨row, hrow⟩ : ∃ row, (x.ev ρ)[(i.ev ρ).toNat]? = some row := ⟨_, List.getElem?_eq_getElem hlt⟩
        obtain ⟨us, e1, e2⟩ := hs.cell q rfl _ _ hrow
        have elen := reps_len e1
        have hkget : ∀ (j : Nat) (k : CK), ks[j]? = some k → K[off + j]? = some k := by
          intro j k hj
          have hj' : j < ks.length := (List.getElem?_eq_some_iff.1 hj).1
          rw [← hc1, List.getElem?_take_of_lt hj', List.getElem?_drop] at hj
          exact hj
        have hcells : ∀ (j : Nat) (k : CK), ks[j]? = some k → ∃ v d, ((us.drop off).take ks.length)[j]? = some v ∧ row[off + j]? = some d ∧ CK.rep ρ.w k v d := by
          intro j k hj
          have hj' : j < ks.length := (List.getElem?_eq_some_iff.1 hj).1
          obtain ⟨v, d, g1, g2, g3⟩ := reps_get e1 (hkget j k hj)
          exact ⟨v, d, by rw [List.getElem?_take_of_lt hj', List.getElem?_drop]; exact g1, g2, g3⟩
        have hul : ((us.drop off).take ks.length).length = ks.length := by
          simp only [List.length_take, List.length_drop, elen.1]
          have : ks.length ≤ K.length - off := by
            have h3 : ((K.drop off).take ks.length).length = ks.length := by rw [hc1]
            simp only [List.length_take, List.length_drop] at h3
            omega
          omega
        have hd := rdL_den (σ := σ) hrow ks _ off hcells hul
        have hcell : ∀ j u, ((us.drop off).take ks.length)[j]? = some u → W.cell? ((q.add ((i.ev ρ).toNat * K.length + off)).add j) = some u := by
          intro j u hj
          have hj' : j < ks.length := by
            have := (List.getElem?_eq_some_iff.1 hj).1
            rw [hul] at this
            exact this
          rw [List.getElem?_take_of_lt hj', List.getElem?_drop] at hj
          have := e2 _ _ hj
          rw [add_add, Nat.add_assoc, hr.base.cell (World.block_lt_of_cell? _ _ this)]
          exact this
        have hsz : P.cellsOf t = inf.size := by simp [Program.cellsOf, hi]
        by_cases ha : isAggT P t = true
        · rw [if_pos ha]
          exact ⟨.agg ((us.drop off).take ks.length).toArray, by simp [Instr.loadAt, Instr.sureAddr, run_loadVar_agg hu hi ha (by omega) hcell], _, hd, rfl⟩
        · have hone : inf.size = 1 := by
            rcases hc2 with hc2 | hc2
            · exact absurd hc2 ha
            · exact natb hc2
          rw [if_neg ha]
          generalize hw : (us.drop off).take ks.length = ws at hd hcell hul
          match ws, ks, hul, hd, hcell with
          | [u], k :: ks', _, hd, hcell =>
            have h0 := hcell 0 u rfl
            rw [show ∀ a : Addr, a.add 0 = a from fun _ => rfl] at h0
            exact ⟨u, by simp [Instr.loadAt, Instr.sureAddr, run_loadVar_one hu (by simpa using ha) h0], hd.1⟩
          | [], [], _, _, _ => simp at hkl; omega
          | u :: w :: r, ks, e1, _, _ => simp at e1; omega
      · simp at h
    · simp at h
  · simp at h

/-! ### Stores -/
theorem run_storeCells {b : Nat} {bt : TypeId} : ∀ (l : List Value) (i : Nat) (W : World) (vs : List Value) (off : Nat), (∀ v ∈ l, scalar v = true) → W.heap[b]? = some (.cells vs.toArray bt (0, 0)) → off + i + l.length ≤ vs.length →
    ∃ W', (storeCells ⟨b, off, none⟩ l i).run P W = .ok () W' ∧ W'.heap[b]? = some (.cells (vs.take (off + i) ++ l ++ vs.drop (off + i + l.length)).toArray bt (0, 0)) ∧
      W'.os = W.os ∧ W'.tape = W.tape ∧ W'.output = W.output ∧ W'.heap.size = W.heap.size ∧ ∀ k, k ≠ b → W'.heap[k]? = W.heap[k]?
  | [], i, W, vs, off, _, hb, _ => ⟨W, by simp [storeCells], by simpa using hb, rfl, rfl, rfl, rfl, fun _ _ => rfl⟩
  | v :: l, i, W, vs, off, hs, hb, hle => by
    simp only [List.length_cons] at hle
    have hlt : off + i < vs.length := by omega
    have hc : W.cell? ⟨b, off + i, none⟩ = some vs[off + i] := by rw [cell_at hb]; simp [hlt]
    have hf : W.frozen? ⟨b, off + i, none⟩ = false := by simp [World.frozen?, hb]
    have hv := hs v (List.mem_cons_self ..)
    have hst : (store ⟨b, off + i, none⟩ v).run P W = .ok () (W.setCell ⟨b, off + i, none⟩ v) := by
      cases v <;> simp [scalar] at hv <;> simp [store, Sem.run, hc, hf]
    have hb1 : (W.setCell ⟨b, off + i, none⟩ v).heap[b]? = some (.cells (vs.set (off + i) v).toArray bt (0, 0)) := by
      simp [World.setCell, Array.getElem?_modify, hb]
    obtain ⟨W', h1, h2, h3, h4, h5, h6, h7⟩ := run_storeCells l (i + 1) (W.setCell ⟨b, off + i, none⟩ v) (vs.set (off + i) v) off (fun u hu => hs u (List.mem_cons_of_mem _ hu)) hb1 (by simp; omega)
    refine ⟨W', by simp [storeCells, add_none, hst, h1], ?_, h3, h4, h5, by rw [h6]; simp [World.setCell], fun k hk => by rw [h7 k hk]; exact Below.heap_setCell _ _ _ _ hk⟩
    rw [h2]
    have e1 : (vs.set (off + i) v).take (off + (i + 1)) = vs.take (off + i) ++ [v] := by
      rw [show off + (i + 1) = (off + i) + 1 by omega, List.take_succ_eq_append_getElem (by simp; omega), List.take_set_of_le (Nat.le_refl _)]
      simp
    have e2 : (vs.set (off + i) v).drop (off + (i + 1) + l.length) = vs.drop (off + i + (l.length + 1)) := by
      rw [List.drop_set_of_lt (by omega)]
      congr 1; omega
    rw [e1, e2]
    simp

theorem cells_all {x : V2} {v : Value} (h : x.solid = true) (hd : x.den ρ σ v) : ∀ u ∈ v.cells.toList, scalar u = true := by
  cases x with
  | one s =>
    have hs := solid_S h hd
    rw [cells_scalar hs]
    intro u hu
    rw [List.mem_singleton.1 (show u ∈ [v] from hu)]
    exact hs
  | agg cs =>
    obtain ⟨vs, h1, rfl⟩ := hd
    intro u hu
    simp only [Value.cells] at hu
    obtain ⟨i, hi, rfl⟩ := List.getElem_of_mem hu
    have hlen := h1.length
    have hi' : i < cs.length := by have hi2 : i < vs.length := hi; omega
    obtain ⟨w, q1, q2⟩ := h1.get (List.getElem?_eq_getElem hi')
    have hi2 : i < vs.length := hi
    rw [List.getElem?_eq_getElem hi2] at q1
    simp only [Option.some.injEq] at q1
    show scalar (vs[i]'hi2) = true
    rw [q1]
    exact solid_S (List.all_eq_true.1 h _ (List.getElem_mem hi')) q2

/-- The ids from nx to below n are not yet used. -/
def Fr (nx n : Nat) (σ : As) : Prop := ∀ i, nx ≤ i → i < n → σ i = none
/-- The new ids are from nx to below n. -/
def New (nx n : Nat) (σ σ' : As) : Prop := ∀ i a, σ' i = some a → σ i = some a ∨ (nx ≤ i ∧ i < n)

theorem storeS_sound {mem : Mem} {nx : Nat} {t : TypeId} {p q : V} {r : OpR} (h : (storeS P mem nx t p q).res ρ r) {a b : Value} (ha : p.den ρ σ a) (hb : q.den ρ σ b) {W : World} (hr : RelM ρ σ mem W) :
    ∃ W', (Instr.storeAt t a b).run P W = .ok () W' ∧ r.1 = V.any ∧ Step ρ σ W r.2.1 σ W' ∧ r.2.2 = nx := by
  unfold storeS at h
  split at h
  · rename_i id off x
    split at h
    · rename_i t' cs hm
      split at h
      · rename_i hc
        simp only [Bool.and_eq_true, beq_iff_eq, decide_eq_true_eq] at hc
        obtain ⟨⟨⟨c1, c2⟩, c3⟩, c4⟩ := hc
        obtain ⟨i, hi⟩ := Option.isSome_iff_exists.1 c4
        simp only [T.res] at h
        subst h
        obtain ⟨y, h1, rfl⟩ := ha
        obtain ⟨y', h2, vs, h3, h4⟩ := hr.blk _ _ hm
        rw [h1] at h2
        simp only [Option.some.injEq] at h2
        subst h2
        have hv := cells_den c1 hb
        have hlen := hv.length
        have hlen2 := h3.length
        have hsz : b.cells.size = b.cells.toList.length := by simp
        obtain ⟨W', e1, e2, e3, e4, e5, e6, e7⟩ := run_storeCells (P := P) b.cells.toList 0 W vs off (cells_all c1 hb) h4 (by omega)
        refine ⟨W', ?_, rfl, ?_, rfl⟩
        · have hne : ¬ (b.cells.size ≠ P.cellsOf t) := by omega
          simp [Instr.storeAt, Instr.sureAddr, storeVar, run_sizeOf hi, hne, e1]
        · refine ⟨Ext.refl _, e3, e4, e5, by omega, fun k hk hne => e7 k (fun e => ?_), fun i a hi => .inl hi, fun e => e, fun i b' hi => ?_, fun k L hk => ?_⟩
          · subst e
            exact hne id (.cells t' (setRange cs off x.cells)) (by simp [Mem.get]) h1
          · simp only [Mem.get] at hi
            split at hi
            · rename_i hii
              simp only [beq_iff_eq] at hii
              subst hii
              simp only [Option.some.injEq] at hi
              subst hi
              refine ⟨y, h1, _, setRange_den (off := off) h3 hv, ?_⟩
              simpa using e2
            · simp at hi
          · have hky : k ≠ y := fun e => by subst e; rw [h4] at hk; cases hk
            exact ⟨L, by rw [e7 k hky]; exact hk, rfl, rfl, rfl, rfl⟩
      · exact h.elim
    · exact h.elim
  · exact h.elim

/-! ### New blocks -/
theorem step_new {nx : Nat} (hn : σ nx = none) {W : World} (hlt : ∀ i a, σ i = some a → a < W.heap.size) {b : Blk} {o : Obj} (hb : BDen ρ (fun i => if i = nx then some W.heap.size else σ i) b (some o)) :
    Step ρ σ W [(nx, b)] (fun i => if i = nx then some W.heap.size else σ i) (W.alloc o) ∧ New nx (nx + 1) σ (fun i => if i = nx then some W.heap.size else σ i) := by
  have hno : ∀ a, σ nx ≠ some a := fun a h => by rw [hn] at h; cases h
  refine ⟨⟨?_, rfl, rfl, rfl, by simp, ?_, ?_, ?_, ?_, Keep.of_eq (fun k hk => Below.heap_alloc _ _ _ hk)⟩, ?_⟩
  · intro i a hi
    have hne : i ≠ nx := fun e => by subst e; exact hno _ hi
    simp [hne, hi]
  · intro k hk _
    exact Below.heap_alloc _ _ _ hk
  · intro i a hi
    by_cases e : i = nx
    · simp only [e, if_true, Option.some.injEq] at hi
      subst hi
      exact .inr ⟨Nat.le_refl _, by simp⟩
    · rw [if_neg e] at hi
      exact .inl hi
  · intro hinj i j a hi hj
    by_cases e1 : i = nx <;> by_cases e2 : j = nx
    · rw [e1, e2]
    · rw [if_pos e1] at hi; rw [if_neg e2] at hj
      simp only [Option.some.injEq] at hi
      have := hlt _ _ hj
      omega
    · rw [if_neg e1] at hi; rw [if_pos e2] at hj
      simp only [Option.some.injEq] at hj
      have := hlt _ _ hi
      omega
    · rw [if_neg e1] at hi; rw [if_neg e2] at hj
      exact hinj i j a hi hj
  · intro i b' hi
    simp only [Mem.get] at hi
    split at hi
    · rename_i hii
      simp only [beq_iff_eq] at hii
      subst hii
      simp only [Option.some.injEq] at hi
      subst hi
      refine ⟨W.heap.size, by simp, ?_⟩
      rw [show (W.alloc o).heap[W.heap.size]? = some o from by show (W.heap.push o)[W.heap.size]? = some o; simp]
      exact hb
    · simp at hi
  · intro i a hi
    by_cases e : i = nx
    · exact .inr (by omega)
    · replace hi : σ i = some a := by have h := hi; simp only [e, if_false] at h; exact h
      exact .inl hi
end
end Go.Proofs.YtinfmmofcadjgaaGreat
/- The symbolic executor is right: what is to be shown of each of its functions; single operations. -/
namespace Go.Proofs.YtinfmmofcadjgaaGreat
open Go.RowKit

def FR (r : Option Nat) : Fence := { fn := fun _ => True, depth := none, alive := false, round := r }

/-- The marks of ranges over functions among the deferred calls. -/
def Dfr (σ : As) : List Nat → List Deferred → Prop
  | [], ds => ds = []
  | d :: l, ds => ∃ r ds', σ d = some r ∧ ds = { target := .collected r, args := #[] } :: ds' ∧ Dfr σ l ds'
theorem Dfr.ext {σ σ' : As} (h : Ext σ σ') : ∀ {l : List Nat} {ds : List Deferred}, Dfr σ l ds → Dfr σ' l ds
  | [], _, e => e
  | _ :: _, _, ⟨r, ds', h1, h2, h3⟩ => ⟨r, ds', h _ _ h1, h2, Dfr.ext h h3⟩

structure Beg (ρ : Env) (st : St) (σ : As) (a : Act) (W : World) : Prop where
  rel : RelM ρ σ st.mem W
  tm : DL (V.den ρ σ) st.tm a.tmps.toList
  df : Dfr σ st.df a.defers
structure Fin (ρ : Env) (σ : As) (W : World) (mem : Mem) (nx : Nat) (st' : St) (σ' : As) (a' : Act) (W' : World) : Prop where
  step : ∃ ws, st'.mem = ws ++ mem ∧ Step ρ σ W ws σ' W'
  new : New nx st'.nx σ σ'
  le : nx ≤ st'.nx
  tm : DL (V.den ρ σ') st'.tm a'.tmps.toList
  df : Dfr σ' st'.df a'.defers

section
variable {P : Program} {ρ : Env} {σ σ' σ'' : As}
theorem New.refl (nx n : Nat) (σ : As) : New nx n σ σ := fun _ _ h => .inl h
theorem New.trans {a b c : Nat} (h : New a b σ σ') (hab : a ≤ b) (hbc : b ≤ c) (k : New b c σ' σ'') : New a c σ σ'' := by
  intro i x hi
  rcases k i x hi with h1 | ⟨h1, h2⟩
  · rcases h i x h1 with h3 | ⟨h3, h4⟩
    · exact .inl h3
    · exact .inr ⟨h3, by omega⟩
  · exact .inr ⟨by omega, h2⟩
theorem Fr.after {a b c : Nat} (h : Fr a c σ) (hab : a ≤ b) (k : New a b σ σ') : Fr b c σ' := by
  intro i h1 h2
  cases hi : σ' i with
  | none => rfl
  | some x =>
    rcases k i x hi with h3 | ⟨_, h4⟩
    · rw [h i (by omega) h2] at h3; cases h3
    · omega
theorem Fr.less {a b c : Nat} (h : Fr a c σ) (hbc : b ≤ c) : Fr a b σ := fun i h1 h2 => h i h1 (by omega)
theorem Fin.beg {W W' : World} {mem : Mem} {nx : Nat} {st' : St} {a' : Act} (hr : RelM ρ σ mem W) (h : Fin ρ σ W mem nx st' σ' a' W') : Beg ρ st' σ' a' W' := by
  obtain ⟨ws, e, s⟩ := h.step
  exact ⟨by rw [e]; exact hr.step s, h.tm, h.df⟩
theorem Fin.trans {W W1 W2 : World} {mem : Mem} {nx : Nat} {s1 s2 : St} {a1 a2 : Act} (hr : RelM ρ σ mem W) (h : Fin ρ σ W mem nx s1 σ' a1 W1) (k : Fin ρ σ' W1 s1.mem s1.nx s2 σ'' a2 W2) : Fin ρ σ W mem nx s2 σ'' a2 W2 := by
  obtain ⟨ws, e, s⟩ := h.step
  obtain ⟨ws', e', s'⟩ := k.step
  exact ⟨⟨ws' ++ ws, by rw [e', e, List.append_assoc], Step.trans (fun i k hi => hr.lt i k hi) hr.inj s s'⟩, h.new.trans h.le k.le k.new, Nat.le_trans h.le k.le, k.tm, k.df⟩
theorem Fin.refl {W : World} {st : St} {a : Act} (h : Beg ρ st σ a W) : Fin ρ σ W st.mem st.nx st σ a W :=
  ⟨⟨[], rfl, Step.refl _ _ _⟩, New.refl _ _ _, Nat.le_refl _, h.tm, h.df⟩
theorem Fin.ext {W W' : World} {mem : Mem} {nx : Nat} {st' : St} {a' : Act} (h : Fin ρ σ W mem nx st' σ' a' W') : Ext σ σ' := by
  obtain ⟨ws, _, s⟩ := h.step
  exact s.ext
theorem FR_ext {r : Option Nat} (hr : ∀ id, r = some id → ∃ l, σ id = some l) (h : Ext σ σ') : FR (r.bind σ') = FR (r.bind σ) := by
  cases r with
  | none => rfl
  | some id =>
    obtain ⟨l, hl⟩ := hr id rfl
    simp only [Option.bind_some, hl, h _ _ hl]
theorem hr_ext {r : Option Nat} (hr : ∀ id, r = some id → ∃ l, σ id = some l) (h : Ext σ σ') : ∀ id, r = some id → ∃ l, σ' id = some l :=
  fun id e => let ⟨l, hl⟩ := hr id e; ⟨l, h _ _ hl⟩

theorem eval_den {tm : List V} {a : Act} (h : DL (V.den ρ σ) tm a.tmps.toList) (x : Operand) : (opV tm x).den ρ σ (a.eval x) := by
  cases x with
  | tmp t =>
    simp only [opV, Act.eval]
    rcases Nat.lt_or_ge t tm.length with q | q
    · obtain ⟨v, h1, h2⟩ := h.get (List.getElem?_eq_getElem q)
      rw [List.getD_eq_getElem?_getD, List.getElem?_eq_getElem q]
      have : a.tmps.getD t undef = v := by
        rw [Array.getD_eq_getD_getElem?, ← Array.getElem?_toList, h1]; rfl
      rw [this]
      exact h2
    · rw [List.getD_eq_getElem?_getD, List.getElem?_eq_none q]
      trivial
  | const v => exact cV2_den v
  | global g => trivial
  | func f => exact ⟨[], trivial, rfl⟩
theorem setTm_den {tm : List V} {a : Act} {v : V} {u : Value} (h : DL (V.den ρ σ) tm a.tmps.toList) (hv : v.den ρ σ u) (d : Option Tmp) : DL (V.den ρ σ) (setTm tm d v) (a.put d u).tmps.toList := by
  cases d with
  | none => exact h
  | some d =>
    simp only [setTm, Act.put, Array.toList_setIfInBounds]
    exact h.set d hv
theorem put_defers (a : Act) (d : Option Tmp) (u : Value) : (a.put d u).defers = a.defers := by cases d <;> rfl

theorem undef_den : (V.tup []).den ρ σ undef := ⟨[], trivial, rfl⟩
theorem wants_spec {ops : Array Oper} {tm : List V} {o : Oper} {c : Bool} {a : Act} (h : wants ops tm o = some c) (ht : DL (V.den ρ σ) tm a.tmps.toList) : Region.wanted o (yielded ops a.tmps) = c := by
  unfold wants at h
  unfold Region.wanted
  split at h
  · rename_i hg
    simp only [Option.some.injEq] at h
    rw [hg, ← h]
  · rename_i j want hg
    rw [hg]
    split at h
    · rename_i d hd
      split at h
      · rename_i b hb
        simp only [Option.some.injEq] at h
        obtain ⟨v, h1, h2⟩ := ht.get hb
        obtain rfl : v = .bool b := h2
        have : yielded ops a.tmps j = some b := by
          unfold yielded
          rw [hd]
          simp only [Option.bind_some]
          rw [← Array.getElem?_toList, h1]
        show (yielded ops a.tmps j == some want) = c
        rw [this, ← h]
        cases b <;> cases want <;> rfl
      · rename_i hb
        simp only [Option.some.injEq] at h
        obtain ⟨v, h1, vs, h2, rfl⟩ := ht.get hb
        have : yielded ops a.tmps j = none := by
          unfold yielded
          rw [hd]
          simp only [Option.bind_some]
          rw [← Array.getElem?_toList, h1]
        show (yielded ops a.tmps j == some want) = c
        rw [this, ← h]
        rfl
      · simp at h
    · simp at h

theorem parted_spec {g : Bool} {t : T OpR} {q : OpR} (h : (t.bind (parted g)).res ρ q) : ∃ q0, t.res ρ q0 ∧ q.2 = q0.2 ∧ ∀ (σ : As) (u : Value), q0.1.den ρ σ u → q.1.den ρ σ u := by
  obtain ⟨q0, h1, h2⟩ := T.res_bind h
  refine ⟨q0, h1, ?_⟩
  unfold parted at h2
  split at h2
  · rename_i b ws nx
    rcases T.res_iteS h2 with ⟨hb, e⟩ | ⟨hb, e⟩
    · simp only [T.res] at e
      subst e
      refine ⟨rfl, fun σ u hu => ?_⟩
      obtain rfl : u = .bool (b.ev ρ) := hu
      exact bV_den hb.symm
    · simp only [T.res] at e
      subst e
      refine ⟨rfl, fun σ u hu => ?_⟩
      obtain rfl : u = .bool (b.ev ρ) := hu
      exact bV_den hb.symm
  · simp only [T.res] at h2
    subst h2
    exact ⟨rfl, fun _ _ h => h⟩

theorem mkPR_spec {nx : Nat} {r : PR} {q : OpR} (h : (mkPR nx r).res ρ q) : ∃ obs v, r = some (obs, v) ∧ (∀ o ∈ obs, o.ok ρ) ∧ q = (v, [], nx) := by
  cases r with
  | none => exact h.elim
  | some p =>
    obtain ⟨obs, v⟩ := p
    obtain ⟨h1, h2⟩ := T.res_obs h
    exact ⟨obs, v, rfl, h1, h2⟩

section
variable (P : Program) (ρ : Env) (ct : Ct) (lt : Lt)
def CodeOk (n : Nat) : Prop := ∀ h r c st p, (code P ct lt n h r c st).res ρ p → ∀ σ a W, Beg ρ st σ a W → Fr st.nx p.2.nx σ → (∀ id, r = some id → ∃ l, σ id = some l) →
  ∀ Q : Exit → Act → World → Prop, (∀ a' W' σ', Fin ρ σ W st.mem st.nx p.2 σ' a' W' → Q p.1.toExit a' W') → c.wpIn (FR (r.bind σ)) 0 P Q a W
def LoopOk (n : Nat) : Prop := ∀ h r b st p, (code P ct lt n h r (.loop b) st).res ρ p → ∃ k, ∀ σ a W, Beg ρ st σ a W → Fr st.nx p.2.nx σ → (∀ id, r = some id → ∃ l, σ id = some l) →
  ∀ Q : Exit → Act → World → Prop, (∀ a' W' σ', Fin ρ σ W st.mem st.nx p.2 σ' a' W' → Q p.1.toExit a' W') → Code.roundsIn (FR (r.bind σ)) 0 P b Q k a W
def RangeEndOk (n : Nat) : Prop := ∀ r lid st p, (rangeEnd P ct lt n r lid st).res ρ p → ∀ σ a W l, Beg ρ st σ a W → Fr st.nx p.2.nx σ → (∀ id, r = some id → ∃ l, σ id = some l) → σ lid = some l →
  ∀ Q : Exit → Act → World → Prop, (∀ a' W' σ', Fin ρ σ W st.mem st.nx p.2 σ' a' W' → Q p.1.toExit a' W') →
  ∃ jump W4, (Instr.endLoop l).run P W = .ok jump W4 ∧ (match jump with | none => Q .normal a W4 | some c => c.wpIn (FR (r.bind σ)) 0 P Q a W4)
def OpsOk (n : Nat) : Prop := ∀ r ops i st s', (opsRun P ct lt n r ops i st).res ρ s' → ∀ σ a W, Beg ρ st σ a W → Fr st.nx s'.nx σ →
  ∀ (ro : Option Nat) (Q : Exit → Act → World → Prop), (∀ a' W' σ', Fin ρ σ W st.mem st.nx s' σ' a' W' → Q .normal a' W') → wpOpsIn (FR ro) 0 P ops Q (List.range' i (ops.size - i)) a W
def DrawOk (n : Nat) : Prop := ∀ r ops st s', (opsDraw P ct lt n r ops 0 st []).res ρ s' → ∀ σ a W, Beg ρ st σ a W → Fr st.nx s'.nx σ →
  ∀ (ro : Option Nat) (Q : Exit → Act → World → Prop), (∀ a' W' σ', Fin ρ σ W st.mem st.nx s' σ' a' W' → Q .normal a' W') → wpAnyIn (FR ro) 0 P .any ops Q ops.size (Array.replicate ops.size false) a W
def OperOk (n : Nat) : Prop := ∀ o g mem nx q, (oper P ct lt n o g mem nx).res ρ q → ∀ σ a W, RelM ρ σ mem W → Fr nx q.2.2 σ → (∀ x ∈ o.op.operands, (g x).den ρ σ (a.eval x)) →
  ∀ (ro : Option Nat) (K : Act → World → Prop) (Q : Exit → Act → World → Prop), (∀ u W' σ', q.1.den ρ σ' u → Step ρ σ W q.2.1 σ' W' → New nx q.2.2 σ σ' → K (a.put o.dst u) W') → o.wpIn (FR ro) 0 P a W K Q
def RetTo (σ : As) (W : World) (nx : Nat) (q : OpR) (e : Ending) (W' : World) : Prop := ∃ u σ', e = .returned u ∧ q.1.den ρ σ' u ∧ Step ρ σ W q.2.1 σ' W' ∧ New nx q.2.2 σ σ'
def RoundOk (n : Nat) : Prop := ∀ lid args mem nx q, (round P ct lt n lid args mem nx).res ρ q → ∀ σ W vals l, RelM ρ σ mem W → Fr nx q.2.2 σ → DL (V.den ρ σ) args vals → σ lid = some l → ∀ ro : Option Nat,
  ∃ rec : Loop, W.heap[l]? = some (.loop rec) ∧ vals.length = rec.params.size ∧
    RoundIn (FR ro) 0 P l rec.fn ((rec.params.zip vals.toArray).foldl (fun tmps (p : Tmp × Value) => tmps.setIfInBounds p.1 p.2) rec.tmps) rec.assign rec.body W (RetTo ρ σ W nx q)
/-- A contract holds. -/
def CtOne (f : FuncId) (c : List V → Mem → Nat → T OpR) : Prop := ∀ args mem nx q, (c args mem nx).res ρ q → nx ≤ q.2.2 → ∀ σ W vals, RelM ρ σ mem W → Fr nx q.2.2 σ → DL (V.den ρ σ) args vals →
  CallsIn (FR none) 0 P f vals.toArray W (RetTo ρ σ W nx q)
/-- The contracts hold. -/
def CtOk : Prop := ∀ f c, ct.find f = some c → CtOne P ρ f c
def CallOk (n : Nat) : Prop := ∀ f args mem nx q, (call P ct lt n f args mem nx).res ρ q → ∀ σ W vals, RelM ρ σ mem W → Fr nx q.2.2 σ → DL (V.den ρ σ) args vals →
  CallsIn (FR none) 0 P f vals.toArray W (RetTo ρ σ W nx q)
end

/-! ### Single operations -/
theorem uponIn_put {o : Oper} {a : Act} {W W' : World} {K : Act → World → Prop} {Q : Exit → Act → World → Prop} {ro : Option Nat} {u : Value} (hd : ∀ c, o.op ≠ .defer c) (h : (execOp a.eval o).run P W = .ok (.value u) W') (hk : K (a.put o.dst u) W') :
    o.wpIn (FR ro) 0 P a W K Q := by
  refine ⟨fun _ _ => trivial, ?_⟩
  rw [Oper.semAt_eq _ _ _ hd]
  show o.uponIn _ _ _ _ _ _ ((execOp a.eval o).run P W)
  rw [h]
  exact hk
theorem uponIn_skip' {o : Oper} {a : Act} {W W' : World} {K : Act → World → Prop} {Q : Exit → Act → World → Prop} {ro : Option Nat} (hd : ∀ c, o.op ≠ .defer c) (h : (execOp a.eval o).run P W = .ok .skip W') (hk : K (a.put o.dst undef) W') :
    o.wpIn (FR ro) 0 P a W K Q := by
  refine ⟨fun _ _ => trivial, ?_⟩
  rw [Oper.semAt_eq _ _ _ hd]
  show o.uponIn _ _ _ _ _ _ ((execOp a.eval o).run P W)
  rw [h]
  exact hk
theorem uponIn_call {o : Oper} {a : Act} {W W' : World} {K : Act → World → Prop} {Q : Exit → Act → World → Prop} {ro : Option Nat} {f : FuncId} {args : Array Value} (hd : ∀ c, o.op ≠ .defer c) (h : (execOp a.eval o).run P W = .ok (.enter f args) W') {nx : Nat} {q : OpR}
    (hc : CallsIn (FR none) 0 P f args W' (RetTo ρ σ W nx q)) (hk : ∀ u W' σ', q.1.den ρ σ' u → Step ρ σ W q.2.1 σ' W' → New nx q.2.2 σ σ' → K (a.put o.dst u) W') :
    o.wpIn (FR ro) 0 P a W K Q := by
  refine ⟨fun _ _ => trivial, ?_⟩
  rw [Oper.semAt_eq _ _ _ hd]
  show o.uponIn _ _ _ _ _ _ ((execOp a.eval o).run P W)
  rw [h]
  refine ⟨fun h => by simp [FR] at h, ?_⟩
  have hc' : CallsIn (FR ro) (0 - 1) P f args W' (RetTo ρ σ W nx q) := hc
  refine hc'.mono ?_
  rintro e w ⟨u, σ', rfl, h1, h2, h3⟩
  exact hk u w σ' h1 h2 h3
theorem uponIn_round {o : Oper} {a : Act} {W W' : World} {K : Act → World → Prop} {Q : Exit → Act → World → Prop} {ro : Option Nat} {l : Nat} {f : FuncId} {tmps : Array Value} {asg body : Code} (hd : ∀ c, o.op ≠ .defer c)
    (h : (execOp a.eval o).run P W = .ok (.round l f tmps asg body) W') {nx : Nat} {q : OpR}
    (hc : RoundIn (FR ro) 0 P l f tmps asg body W' (RetTo ρ σ W nx q)) (hk : ∀ u W' σ', q.1.den ρ σ' u → Step ρ σ W q.2.1 σ' W' → New nx q.2.2 σ σ' → K (a.put o.dst u) W') :
    o.wpIn (FR ro) 0 P a W K Q := by
  refine ⟨fun _ _ => trivial, ?_⟩
  rw [Oper.semAt_eq _ _ _ hd]
  show o.uponIn _ _ _ _ _ _ ((execOp a.eval o).run P W)
  rw [h]
  refine ⟨fun h => by simp [FR] at h, ?_⟩
  refine RoundIn.mono (n := 0 - 1) hc ?_
  rintro e w ⟨u, σ', rfl, h1, h2, h3⟩
  exact hk u w σ' h1 h2 h3
end
end Go.Proofs.YtinfmmofcadjgaaGreat
/- The symbolic executor is right: operations, given calls and rounds. -/
namespace Go.Proofs.YtinfmmofcadjgaaGreat
open Go.RowKit

section
variable {P : Program} {ct : Ct} {lt : Lt} {ρ : Env} {σ : As}

theorem run_callFunc {f : FuncId} {fn : Func} (hf : P.funcs[f]? = some fn) (hn : (fn.name == "runtime.NumGoroutine") = false) {c : Code} (hb : fn.body = some c) (args : Array Value) (W : World) :
    (callFunc f args).run P W = .ok (.enter f args) W := by
  have hn' : ¬ fn.name = "runtime.NumGoroutine" := by simpa using hn
  simp [callFunc, hf, hn', hb]

/-- A function that the executor enters, or knows by a contract, is one that can be entered. -/
def Enterable (P : Program) (f : FuncId) : Prop := ∀ args W, (callFunc f args).run P W = .ok (.enter f args) W
def CtEnter (P : Program) (ct : Ct) : Prop := ∀ f c, ct.find f = some c → Enterable P f
theorem call_enter (hce : CtEnter P ct) : ∀ {n : Nat} {f : FuncId} {args : List V} {mem : Mem} {nx : Nat} {q : OpR}, (call P ct lt n f args mem nx).res ρ q → Enterable P f
  | 0, _, _, _, _, _, h => by simp [call, T.res] at h
  | n + 1, f, args, mem, nx, q, h => by
    simp only [call] at h
    split at h
    · rename_i c hc
      exact hce f c hc
    · split at h
      · exact h.elim
      · rename_i fn hf
        split at h
        · exact h.elim
        · rename_i hn
          split at h
          · exact h.elim
          · rename_i c hb
            intro args W
            exact run_callFunc hf (by simpa using hn) hb args W

theorem clo_den {f : FuncId} {cap : List (Nat × Nat)} {u : Value} (h : (V.s0 (.clo f cap)).den ρ σ u) : ∃ vs, DL (capDen σ) cap vs ∧ u = .func (.func f) #[] vs.toArray := h
theorem cap_den {cap : List (Nat × Nat)} : ∀ {vs : List Value}, DL (capDen σ) cap vs → DL (V.den ρ σ) (cap.map fun p => .s0 (.ptr p.1 p.2)) vs := by
  induction cap with
  | nil => intro vs h; rw [DL.nil_inv h]; trivial
  | cons p cap ih =>
    intro vs h
    obtain ⟨v, vs', rfl, h1, h2⟩ := DL.cons_inv h
    exact ⟨h1, ih h2⟩

theorem methodS_sound {t : TypeId} {name : String} {f : FuncId} (h : methodS P t name = some f) (n : Nat) (v : Value) (W : World) : (method (n + 1) t v name).run P W = .ok (f, v) W := by
  unfold methodS at h
  split at h
  · rename_i i d hi hu
    split at h
    · rename_i m hm
      split at h
      · rename_i hp
        simp only [Array.isEmpty_iff] at hp
        have hti : (typeInfo t).run P W = .ok i W := by simp [typeInfo, hi]
        split at h
        · rename_i f' pr hf
          split at h
          · rename_i hpr
            simp only [Option.some.injEq] at h
            subst h
            have e1 : (receiverAt t (.val v) pr (some ((name.splitOn ".").getLastD name))).run P W = .ok v W := by
              subst hpr
              cases d <;> simp [receiverAt, run_underlying hu, Place.get, isPtrT]
            simp [method, hti, hm, hp, follow, hf]
            simp at e1
            rw [e1]
            rfl
          · simp at h
        · simp at h
      · simp at h
    · simp at h
  · simp at h

theorem res_ret' {α : Type} {x y : α} (h : (T.ret x).res ρ y) : y = x := by simp only [T.res] at h; exact h
theorem oper_ok (hce : CtEnter P ct) (n : Nat) (hcall : CallOk P ρ ct lt n) (hround : RoundOk P ρ ct lt n) : OperOk P ρ ct lt (n + 1) := by
  intro o g mem nx q h σ a W hr ht hg ro K Q hK
  have hpure : ∀ obs v, pureOp P g o.op = some (obs, v) → (∀ o ∈ obs, o.ok ρ) → q = (v, [], nx) → (∀ c, o.op ≠ .defer c) → o.wpIn (FR ro) 0 P a W K Q := by
    intro obs v h1 h2 h3 hd
    subst h3
    obtain ⟨u, h4, h5⟩ := pureOp_sound (σ := σ) (ev := a.eval) h1 h2 hg W
    exact uponIn_put hd h4 (hK u W σ h5 (Step.refl _ _ _) (New.refl _ _ _))
  simp only [oper] at h
  split at h
  · -- alloc
    rename_i t ho
    split at h
    · rename_i z hz
      simp only [T.res] at h
      subst h
      unfold zeroCells at hz
      split at hz
      · rename_i i hi
        simp only [Option.map_eq_some_iff] at hz
        obtain ⟨zv, hzv, rfl⟩ := hz
        have hrun : (execOp a.eval o).run P W = .ok (.value (.pointer (some ⟨W.heap.size, 0, none⟩))) (W.alloc (.cells zv.cells t)) := by
          obtain ⟨dst, op, ty, pos, after, guard⟩ := o
          simp only at ho
          subst ho
          refine (run_vv ?_)
          simp [Instr.alloc, zeroValue, typeInfo, hi, hzv, newVar, newRow, run_newObj_alloc]
        obtain ⟨s1, s2⟩ := step_new (ρ := ρ) (nx := nx) (ht nx (Nat.le_refl _) (Nat.lt_succ_self _)) (fun i a hi => hr.lt i a hi) (b := .cells t (cV2 zv).cells) (o := .cells zv.cells t) ⟨zv.cells.toList, cells_cV2 zv, by simp⟩
        exact uponIn_put (by rw [ho]; simp) hrun (hK _ _ _ ⟨W.heap.size, by simp, rfl⟩ s1 s2)
      · simp at hz
    · exact h.elim
  · -- box
    rename_i t x ho
    split at h
    · rename_i v hv
      split at h
      · rename_i hs
        simp only [T.res] at h
        subst h
        have hx := hg x (by rw [ho]; simp [Op.operands])
        rw [hv] at hx
        have hrun : (execOp a.eval o).run P W = .ok (.value (.pointer (some ⟨W.heap.size, 0, none⟩))) (W.alloc (.cells (a.eval x).cells t)) := by
          obtain ⟨dst, op, ty, pos, after, guard⟩ := o
          simp only at ho
          subst ho
          refine (run_vv ?_)
          simp [Instr.box, newVar, newRow, run_newObj_alloc]
        have hext : Ext σ (fun i => if i = nx then some W.heap.size else σ i) := by
          intro i b hi
          have : i ≠ nx := fun e => by rw [e, ht nx (Nat.le_refl _) (Nat.lt_succ_self _)] at hi; cases hi
          simp [this, hi]
        obtain ⟨s1, s2⟩ := step_new (ρ := ρ) (nx := nx) (ht nx (Nat.le_refl _) (Nat.lt_succ_self _)) (fun i a hi => hr.lt i a hi) (b := .cells t v.cells) (o := .cells (a.eval x).cells t) ⟨(a.eval x).cells.toList, (cells_den hs hx).mono (S.den_ext hext), by simp⟩
        exact uponIn_put (by rw [ho]; simp) hrun (hK _ _ _ ⟨W.heap.size, by simp, rfl⟩ s1 s2)
      · exact h.elim
    · exact h.elim
  · -- load
    rename_i t x ho
    obtain ⟨obs, v, h1, h2, rfl⟩ := mkPR_spec h
    obtain ⟨u, h3, h4⟩ := loadS_sound h1 (hg x (by rw [ho]; simp [Op.operands])) hr
    have hrun : (execOp a.eval o).run P W = .ok (.value u) W := by
      obtain ⟨dst, op, ty, pos, after, guard⟩ := o
      simp only at ho
      subst ho
      exact run_v h3
    exact uponIn_put (by rw [ho]; simp) hrun (hK u W σ h4 (Step.refl _ _ _) (New.refl _ _ _))
  · -- store
    rename_i t x y ho
    obtain ⟨W', h1, h2, h3, h4⟩ := storeS_sound h (hg x (by rw [ho]; simp [Op.operands])) (hg y (by rw [ho]; simp [Op.operands])) hr
    have hrun : (execOp a.eval o).run P W = .ok .skip W' := by
      obtain ⟨dst, op, ty, pos, after, guard⟩ := o
      simp only at ho
      subst ho
      simp [execOp, h1]
    exact uponIn_skip' (by rw [ho]; simp) hrun (hK undef W' σ (by rw [h2]; trivial) h3 (New.refl _ _ _))
  · -- pick
    rename_i c x y ho
    split at h
    · rename_i b hb
      have hc := hg c (by rw [ho]; simp [Op.operands])
      rw [hb] at hc
      have hc' : a.eval c = .bool (b.ev ρ) := hc
      have hrun : (execOp a.eval o).run P W = .ok (.value (if b.ev ρ then a.eval x else a.eval y)) W := by
        obtain ⟨dst, op, ty, pos, after, guard⟩ := o
        simp only at ho
        subst ho
        simp [execOp, hc', asBool]
      rcases T.res_iteS h with ⟨hb, e⟩ | ⟨hb, e⟩
      · simp only [T.res] at e
        subst e
        exact uponIn_put (by rw [ho]; simp) hrun (hK _ W σ (by rw [hb]; exact hg x (by rw [ho]; simp [Op.operands])) (Step.refl _ _ _) (New.refl _ _ _))
      · simp only [T.res] at e
        subst e
        exact uponIn_put (by rw [ho]; simp) hrun (hK _ W σ (by rw [hb]; exact hg y (by rw [ho]; simp [Op.operands])) (Step.refl _ _ _) (New.refl _ _ _))
    · exact h.elim
  · -- buildSlice
    rename_i t len parts ho
    unfold rowS at h
    split at h
    · rename_i e hu
      split at h
      · rename_i ie hie
        split at h
        · rename_i z ps hz hps
          split at h
          · exact h.elim
          · rename_i hsm
            simp only [Bool.or_eq_true, decide_eq_true_eq, not_or, Bool.not_eq_true] at hsm
            obtain ⟨hsmall, hne⟩ := hsm
            split at h
            · rename_i cs hf
              obtain rfl := res_ret' h
              have hp : PD ρ σ ps (parts.toList.map fun p => (p.1, a.eval p.2)) := toV2s_den hps (by simp) (fun k p q h1 h2 => by
                simp only [List.getElem?_map, Option.map_eq_some_iff] at h1 h2
                obtain ⟨x, hx, rfl⟩ := h1
                obtain ⟨y, hy, rfl⟩ := h2
                rw [hx] at hy
                simp only [Option.some.injEq] at hy
                subst hy
                refine ⟨rfl, hg _ ?_⟩
                have := List.mem_of_getElem? hx
                rw [ho]
                simp only [Op.operands, List.mem_toArray]
                exact List.mem_map.2 ⟨x, this, rfl⟩)
              have hz0 : DL (S.den ρ σ) (rowZero (cV2 z).cells (len * ie.size)) ((List.range (len * ie.size)).map fun i => z.cells[i % z.cells.size]!) := by
                have hc := cells_cV2 (ρ := ρ) (σ := σ) z
                have hlen := hc.length
                have hpos : 0 < (cV2 z).cells.length := by
                  cases hcc : (cV2 z).cells with
                  | nil => rw [hcc] at hne; simp at hne
                  | cons x l => simp
                unfold rowZero
                have key : ∀ l : List Nat, DL (S.den ρ σ) (l.map fun i => (cV2 z).cells.getD (i % (cV2 z).cells.length) (.z .any)) (l.map fun i => z.cells[i % z.cells.size]!) := by
                  intro l
                  induction l with
                  | nil => trivial
                  | cons i l ih =>
                    refine ⟨?_, ih⟩
                    have hi := Nat.mod_lt i hpos
                    obtain ⟨v, h1, h2⟩ := hc.get (List.getElem?_eq_getElem hi)
                    have hsz : z.cells.size = (cV2 z).cells.length := by rw [hlen]; simp
                    simp only
                    rw [List.getD_eq_getElem?_getD, List.getElem?_eq_getElem hi, hsz, getElem!_def, ← Array.getElem?_toList, h1]
                    exact h2
                exact key _
              obtain ⟨ws, h1, h2⟩ := fillS_sound _ ps _ _ _ cs hf hp hz0
              have hrun : (execOp a.eval o).run P W = .ok (.value (.slice (some ⟨W.heap.size, 0, none⟩) len len)) (W.alloc (.cells ws.toArray e)) := by
                obtain ⟨dst, op, ty, pos, after, guard⟩ := o
                simp only at ho
                subst ho
                refine run_vv ?_
                have h1' : Instr.fill (fun i => some (i * ie.size, ie.size)) ((Array.range (len * ie.size)).map fun i => z.cells[i % z.cells.size]!) (parts.map fun (p : Nat × Operand) => (p.1, a.eval p.2)).toList = some ws.toArray := by
                  rw [← h1]
                  congr 1
                  · rw [← Array.toArray_toList (xs := Array.map _ _)]; simp
                  · simp
                by_cases h0 : len * ie.size = 0
                · have hz' : (if len * ie.size = 0 then (#[] : Array Value) else z.cells) = #[] := by simp [h0]
                  have e0 : ((Array.range (len * ie.size)).map fun i => z.cells[i % z.cells.size]!) = ((Array.range (len * ie.size)).map fun i => (#[] : Array Value)[i % (#[] : Array Value).size]!) := by rw [h0]; simp
                  rw [e0] at h1'
                  unfold Instr.buildSlice
                  simp only [Sem.run_bind, run_underlying hu, Result.andThen_ok, sizeOf, typeInfo, run_program, hie, Sem.run_pure, if_neg hsmall, if_pos h0, h1', newRow, run_newObj_alloc]
                · simp [Instr.buildSlice, run_underlying hu, sizeOf, typeInfo, zeroValue, hie, hz, hsmall, h0, newRow] at h1' ⊢
                  simp [h1', run_newObj_alloc]
              have hext : Ext σ (fun i => if i = nx then some W.heap.size else σ i) := by
                intro i b hi
                have : i ≠ nx := fun e => by rw [e, ht nx (Nat.le_refl _) (Nat.lt_succ_self _)] at hi; cases hi
                simp [this, hi]
              obtain ⟨s1, s2⟩ := step_new (ρ := ρ) (nx := nx) (ht nx (Nat.le_refl _) (Nat.lt_succ_self _)) (fun i a hi => hr.lt i a hi) (b := .cells e cs) (o := .cells ws.toArray e) ⟨ws, h2.mono (S.den_ext hext), rfl⟩
              exact uponIn_put (by rw [ho]; simp) hrun (hK _ _ _ ⟨W.heap.size, by simp, rfl⟩ s1 s2)
            · exact h.elim
        · exact h.elim
      · exact h.elim
    · exact h.elim
  · -- a call of a function value
    rename_i fv args ats ho
    have hfv := hg fv (by rw [ho]; simp [Op.operands, Call.operands])
    have hargs : DL (V.den ρ σ) (args.toList.map g) (args.toList.map a.eval) := DL_map_ev _ (fun x hx => hg x (by rw [ho]; simp only [Op.operands, Call.operands]; simp; exact .inr (by simpa using hx)))
    split at h
    · rename_i f cap hf
      rw [hf] at hfv
      obtain ⟨vs, hvs, hfe⟩ := clo_den hfv
      have hcc := hcall f _ mem nx q h σ W _ hr ht (hargs.append (cap_den hvs))
      have hrun : (execOp a.eval o).run P W = .ok (.enter f (args.toList.map a.eval ++ vs).toArray) W := by
        obtain ⟨dst, op, ty, pos, after, guard⟩ := o
        simp only at ho
        subst ho
        have := call_enter hce h ((args.toList.map a.eval ++ vs).toArray) W
        simp only [execOp, resolve, hfe, Deferred.ofValue, Sem.run_bind, Sem.run_pure, Result.andThen_ok, invoke]
        rw [← this]
        congr 2
        simp [map_arr]
      exact uponIn_call (by rw [ho]; simp) hrun hcc hK
    · rename_i lid hf
      rw [hf] at hfv
      obtain ⟨l, hl, hfe⟩ := hfv
      obtain ⟨rec, h1, h2, h3⟩ := hround lid _ mem nx q h σ W _ l hr ht hargs hl ro
      have hrun : (execOp a.eval o).run P W = .ok (.round l rec.fn ((rec.params.zip (args.toList.map a.eval).toArray).foldl (fun tmps (p : Tmp × Value) => tmps.setIfInBounds p.1 p.2) rec.tmps) rec.assign rec.body) W := by
        obtain ⟨dst, op, ty, pos, after, guard⟩ := o
        simp only at ho
        subst ho
        have := run_yield (P := P) (args := (args.toList.map a.eval).toArray) h1 (by simpa using h2)
        simp only [execOp, resolve, hfe, Deferred.ofValue, Sem.run_bind, Sem.run_pure, Result.andThen_ok, invoke]
        rw [← this]
        congr 2
        simp [map_arr]
      exact uponIn_round (by rw [ho]; simp) hrun h3 hK
    · rename_i nm t agg cs hf
      rw [hf] at hfv
      obtain ⟨iv, hiv, hfe⟩ := meth_den.1 hfv
      split at h
      · rename_i f v hm hu
        obtain ⟨u, hxe, hu2⟩ := unface_den hu hiv
        have hcc := hcall f _ mem nx q h σ W (u :: args.toList.map a.eval) hr ht ⟨hu2, hargs⟩
        have hrun : (execOp a.eval o).run P W = .ok (.enter f (u :: args.toList.map a.eval).toArray) W := by
          obtain ⟨dst, op, ty, pos, after, guard⟩ := o
          simp only at ho
          subst ho
          have := call_enter hce h (u :: args.toList.map a.eval).toArray W
          have hmm := methodS_sound hm (P.types.size + Made.depth - 1) u W
          rw [show P.types.size + Made.depth - 1 + 1 = P.types.size + Made.depth by simp [Made.depth]] at hmm
          have e2 : List.take args.size (List.map a.eval args.toList) = List.map a.eval args.toList := List.take_of_length_le (by simp)
          rw [← this]
          simp [execOp, resolve, hfe, hxe, Deferred.ofValue, invoke, callMethod, run_program, hmm, e2, map_arr]
        exact uponIn_call (by rw [ho]; simp) hrun hcc hK
      · exact h.elim
    · exact h.elim
  · -- a method of an interface value
    rename_i x name args ats ho
    have hx := hg x (by rw [ho]; simp [Op.operands, Call.operands])
    have hargs : DL (V.den ρ σ) (args.toList.map g) (args.toList.map a.eval) := DL_map_ev _ (fun y hy => hg y (by rw [ho]; simp only [Op.operands, Call.operands]; simp; exact .inr (by simpa using hy)))
    split at h
    · rename_i t agg cs hf
      rw [hf] at hx
      split at h
      · rename_i f v hm hu
        obtain ⟨u, hxe, hu2⟩ := unface_den hu hx
        have hcc := hcall f _ mem nx q h σ W (u :: args.toList.map a.eval) hr ht ⟨hu2, hargs⟩
        have hrun : (execOp a.eval o).run P W = .ok (.enter f (u :: args.toList.map a.eval).toArray) W := by
          obtain ⟨dst, op, ty, pos, after, guard⟩ := o
          simp only at ho
          subst ho
          have := call_enter hce h (u :: args.toList.map a.eval).toArray W
          have hmm := methodS_sound hm (P.types.size + Made.depth - 1) u W
          rw [show P.types.size + Made.depth - 1 + 1 = P.types.size + Made.depth by simp [Made.depth]] at hmm
          have e2 : List.take args.size (List.map a.eval args.toList) = List.map a.eval args.toList := List.take_of_length_le (by simp)
          rw [← this]
          simp [execOp, resolve, hxe, invoke, callMethod, run_program, hmm, e2, map_arr]
        exact uponIn_call (by rw [ho]; simp) hrun hcc hK
      · exact h.elim
    · exact h.elim
  · -- the rest
    split at h
    case h_2 => exact h.elim
    rename_i r hr1
    obtain ⟨obs, v, h1, h2, h3⟩ := mkPR_spec h
    rw [← hr1] at h1
    refine hpure obs v h1 h2 h3 ?_
    intro c e
    rw [e] at h1
    simp [pureOp] at h1
end
end Go.Proofs.YtinfmmofcadjgaaGreat
/- The symbolic executor numbers new blocks upwards. -/
namespace Go.Proofs.YtinfmmofcadjgaaGreat
open Go.RowKit

section
variable (P : Program) (ct : Ct) (lt : Lt) (ρ : Env)
structure MonoAt (n : Nat) : Prop where
  code : ∀ h r c st p, (code P ct lt n h r c st).res ρ p → st.nx ≤ p.2.nx
  rend : ∀ r lid st p, (rangeEnd P ct lt n r lid st).res ρ p → st.nx ≤ p.2.nx
  ops : ∀ r ops i st s', (opsRun P ct lt n r ops i st).res ρ s' → st.nx ≤ s'.nx
  draw : ∀ r ops i st log s', (opsDraw P ct lt n r ops i st log).res ρ s' → st.nx ≤ s'.nx
  oper : ∀ o g mem nx q, (oper P ct lt n o g mem nx).res ρ q → nx ≤ q.2.2
  round : ∀ lid args mem nx q, (round P ct lt n lid args mem nx).res ρ q → nx ≤ q.2.2
  call : ∀ f args mem nx q, (call P ct lt n f args mem nx).res ρ q → nx ≤ q.2.2
end
section
variable {P : Program} {ct : Ct} {lt : Lt} {ρ : Env}
theorem mkPR_nx {nx : Nat} {r : PR} {q : OpR} (h : (mkPR nx r).res ρ q) : nx ≤ q.2.2 := by
  obtain ⟨_, _, _, _, rfl⟩ := mkPR_spec h
  exact Nat.le_refl _
theorem storeS_nx {mem : Mem} {nx : Nat} {t : TypeId} {p q : V} {r : OpR} (h : (storeS P mem nx t p q).res ρ r) : nx ≤ r.2.2 := by
  unfold storeS at h
  repeat' split at h
  all_goals first
    | exact h.elim
    | (obtain rfl := res_ret h; exact Nat.le_refl _)
theorem loopT_res {run : St → T (Ex × St)} {st : St} {p : Ex × St} (h : (loopT run st).res ρ p) : ∃ N m v q, N = 1000 * (st.nx + 1) ∧ matchSt N (patOf run st) st = some m ∧ m.fits ρ v ∧ Rounds N (patOf run st) (fun ρ' p => (run (patOf run st)).res ρ' p) ρ v q ∧ p = (q.1, { q.2 with mem := q.2.mem ++ st.mem, nx := topNx (run (patOf run st)) }) := by
  unfold loopT at h
  split at h
  · rename_i m hm
    obtain ⟨v, q, h1, h2, h3⟩ := h
    exact ⟨_, m, v, q, rfl, hm, h1, h2, res_ret h3⟩
  · exact h.elim
theorem Rounds.last_res {N : Nat} {pat : St} {R : Env → Ex × St → Prop} {v : LV} {p : Ex × St} (h : Rounds N pat R ρ v p) : R ρ p := by
  induction h with
  | last _ h _ => exact h
  | next _ _ _ _ _ ih => exact ih
theorem Rounds.last_ne {N : Nat} {pat : St} {R : Env → Ex × St → Prop} {v : LV} {p : Ex × St} (h : Rounds N pat R ρ v p) : p.1 ≠ .normal := by
  induction h with
  | last _ _ h => exact h
  | next _ _ _ _ _ ih => exact ih
theorem res_ends {α : Type} {t : T α} : ∀ {ρ : Env} {x : α}, t.res ρ x → x ∈ t.ends := by
  induction t with
  | ret a => intro ρ x h; rw [res_ret h]; simp [T.ends]
  | ite b t e i1 i2 =>
    intro ρ x h
    simp only [T.res] at h
    simp only [T.ends, List.mem_append]
    split at h
    · exact .inl (i1 h)
    · exact .inr (i2 h)
  | ob o t ih => intro ρ x h; exact ih h.2
  | stuck s => intro ρ x h; exact h.elim
  | loop N pat init body k ih1 ih2 =>
    intro ρ x h
    obtain ⟨v, p, _, h1, h2⟩ := h
    have hp : p ∈ body.ends ∧ p.1 ≠ .normal := ⟨ih1 h1.last_res, h1.last_ne⟩
    simp only [T.ends, List.mem_flatMap]
    refine ⟨p, hp.1, ?_⟩
    split
    · rename_i e; exact absurd e hp.2
    · exact ih2 p h2
theorem foldl_max (l : List (Ex × St)) : ∀ (n : Nat), n ≤ l.foldl (fun n p => max n p.2.nx) n ∧ ∀ p ∈ l, p.2.nx ≤ l.foldl (fun n p => max n p.2.nx) n := by
  induction l with
  | nil => intro n; simp
  | cons q l ih =>
    intro n
    obtain ⟨h1, h2⟩ := ih (max n q.2.nx)
    refine ⟨Nat.le_trans (Nat.le_max_left ..) h1, fun p hp => ?_⟩
    rcases List.mem_cons.1 hp with e | hp
    · subst e; exact Nat.le_trans (Nat.le_max_right ..) h1
    · exact h2 p hp
theorem res_top {t : T (Ex × St)} {ρ : Env} {p : Ex × St} (h : t.res ρ p) : p.2.nx ≤ topNx t := (foldl_max t.ends 0).2 p (res_ends h)
theorem mono_all (n : Nat) : ∀ ρ : Env, MonoAt P ct lt ρ n := by
  induction n with
  | zero =>
    intro ρ
    exact ⟨fun _ _ _ _ _ h => by simp [code, T.res] at h, fun _ _ _ _ h => by simp [rangeEnd, T.res] at h, fun _ _ _ _ _ h => by simp [opsRun, T.res] at h, fun _ _ _ _ _ _ h => by simp [opsDraw, T.res] at h,
      fun _ _ _ _ _ h => by simp [oper, T.res] at h, fun _ _ _ _ _ h => by simp [round, T.res] at h, fun _ _ _ _ _ h => by simp [call, T.res] at h⟩
  | succ n ihn =>
    intro ρ
    have ih := ihn ρ
    refine ⟨?_, ?_, ?_, ?_, ?_, ?_, ?_⟩
    · intro w r c st p h
      cases c with
      | skip => simp only [code] at h; obtain rfl := res_ret h; exact Nat.le_refl _
      | label l => simp only [code] at h; obtain rfl := res_ret h; exact Nat.le_refl _
      | exit l => simp only [code] at h; obtain rfl := res_ret h; exact Nat.le_refl _
      | goto l => simp only [code] at h; obtain rfl := res_ret h; exact Nat.le_refl _
      | ret => simp only [code] at h; obtain rfl := res_ret h; exact Nat.le_refl _
      | seq x y =>
        simp only [code] at h
        obtain ⟨p1, h1, h2⟩ := T.res_bind h
        have e1 := ih.code _ _ _ _ _ h1
        split at h2
        · exact Nat.le_trans e1 (ih.code _ _ _ _ _ h2)
        · obtain rfl := res_ret h2; exact e1
      | cond x y z =>
        simp only [code] at h
        split at h
        · rcases T.res_iteS h with ⟨_, h1⟩ | ⟨_, h1⟩ <;> exact ih.code _ _ _ _ _ h1
        · exact h.elim
      | block id b =>
        simp only [code] at h
        obtain ⟨p1, h1, h2⟩ := T.res_bind h
        have e1 := ih.code _ _ _ _ _ h1
        repeat' split at h2
        all_goals (obtain rfl := res_ret h2; exact e1)
      | loop b =>
        simp only [code] at h
        split at h
        · obtain ⟨p1, h1, h2⟩ := T.res_bind h
          have e1 := ih.code _ _ _ _ _ h1
          split at h2
          · exact Nat.le_trans e1 (ih.code _ _ _ _ _ h2)
          · obtain rfl := res_ret h2; exact e1
        · obtain ⟨N, m, v, q, _, _, _, h1, rfl⟩ := loopT_res h
          have e1 := ih.code _ _ _ _ _ h1.last_res
          have e2 : (patOf (code P ct lt n (w.skip 1) r b) st).nx = st.nx + 1 := rfl
          have e3 := res_top h1.last_res
          show st.nx ≤ topNx _
          omega
      | region id ops draw =>
        cases draw with
        | false =>
          simp only [code] at h
          obtain ⟨p1, h1, h2⟩ := T.res_bind h
          obtain rfl := res_ret h2
          exact ih.ops _ _ _ _ _ h1
        | true =>
          simp only [code] at h
          obtain ⟨p1, h1, h2⟩ := T.res_bind h
          obtain rfl := res_ret h2
          exact ih.draw _ _ _ _ _ _ h1
      | rangeFunc g ps asg body =>
        simp only [code] at h
        split at h
        · split at h
          · obtain ⟨q, h1, h2⟩ := T.res_bind h
            have e1 := ih.call _ _ _ _ _ h1
            have e2 := ih.rend _ _ _ _ h2
            simp only at e2
            omega
          · split at h
            · obtain ⟨q, h1, h2⟩ := T.res_bind h
              have e1 := ih.call _ _ _ _ _ h1
              have e2 := ih.rend _ _ _ _ h2
              simp only at e2
              omega
            · exact h.elim
        · exact h.elim
      | scope b => simp [code, T.res] at h
      | refuse w => simp [code, T.res] at h
    · intro r lid st p h
      simp only [rangeEnd] at h
      split at h
      · split at h
        · exact h.elim
        · split at h
          · obtain rfl := res_ret h; exact Nat.le_refl _
          · have e := ih.code _ _ _ _ _ h; exact e
      · exact h.elim
    · intro r ops i st s' h
      simp only [opsRun] at h
      split at h
      · obtain rfl := res_ret h; exact Nat.le_refl _
      · split at h
        · exact h.elim
        · have e := ih.ops _ _ _ _ _ h; exact e
        · obtain ⟨q, h1, h2⟩ := T.res_bind h
          obtain ⟨q0, h3, h4, _⟩ := parted_spec h1
          have e1 := ih.oper _ _ _ _ _ h3
          have e2 := ih.ops _ _ _ _ _ h2
          rw [← h4] at e1
          exact Nat.le_trans e1 e2
    · intro r ops i st log s' h
      simp only [opsDraw] at h
      split at h
      · split at h
        · obtain rfl := res_ret h; exact Nat.le_refl _
        · exact h.elim
      · split at h
        · exact h.elim
        · have e := ih.draw _ _ _ _ _ _ h; exact e
        · obtain ⟨q, h1, h2⟩ := T.res_bind h
          obtain ⟨q0, h3, h4, _⟩ := parted_spec h1
          have e1 := ih.oper _ _ _ _ _ h3
          have e2 := ih.draw _ _ _ _ _ _ h2
          rw [← h4] at e1
          exact Nat.le_trans e1 e2
    · intro o g mem nx q h
      simp only [oper] at h
      split at h
      · split at h
        · obtain rfl := res_ret h; exact Nat.le_succ _
        · exact h.elim
      · split at h
        · split at h
          · obtain rfl := res_ret h; exact Nat.le_succ _
          · exact h.elim
        · exact h.elim
      · exact mkPR_nx h
      · exact storeS_nx h
      · split at h
        · rcases T.res_iteS h with ⟨_, h1⟩ | ⟨_, h1⟩ <;> (obtain rfl := res_ret h1; exact Nat.le_refl _)
        · exact h.elim
      · unfold rowS at h
        repeat' split at h
        all_goals first | exact h.elim | (obtain rfl := res_ret h; exact Nat.le_succ _)
      · split at h
        · exact ih.call _ _ _ _ _ h
        · exact ih.round _ _ _ _ _ h
        · split at h
          · exact ih.call _ _ _ _ _ h
          · exact h.elim
        · exact h.elim
      · split at h
        · split at h
          · exact ih.call _ _ _ _ _ h
          · exact h.elim
        · exact h.elim
      · split at h
        · exact mkPR_nx h
        · exact h.elim
    · intro lid args mem nx q h
      simp only [round] at h
      split at h
      · split at h
        · obtain ⟨p, h1, h2⟩ := T.res_bind h
          have e1 := ih.code _ _ _ _ _ h1
          split at h2
          · obtain ⟨q2, h3, h4⟩ := T.res_bind h2
            have e2 := ih.code _ _ _ _ _ h3
            split at h4
            · obtain rfl := res_ret h4
              exact Nat.le_trans e1 e2
            · exact h4.elim
          · exact h2.elim
        · exact h.elim
      · exact h.elim
    · intro f args mem nx q h
      simp only [call] at h
      split at h
      · obtain ⟨v, _, h2⟩ := T.res_bind h
        unfold ctTidy at h2
        split at h2
        · rename_i hle
          obtain rfl := res_ret h2
          exact hle
        · exact h2.elim
      · split at h
        · exact h.elim
        · split at h
          · exact h.elim
          · split at h
            · exact h.elim
            · obtain ⟨p, h1, h2⟩ := T.res_bind h
              have e1 := ih.code _ _ _ _ _ h1
              split at h2
              · split at h2
                · obtain rfl := res_ret h2; exact e1
                · exact h2.elim
              · exact h2.elim
theorem mono (n : Nat) : MonoAt P ct lt ρ n := mono_all n ρ
end
end Go.Proofs.YtinfmmofcadjgaaGreat
/- The symbolic executor is right: calls, rounds of ranges over functions, their ends. -/
namespace Go.Proofs.YtinfmmofcadjgaaGreat
open Go.RowKit

section
variable {P : Program} {ct : Ct} {lt : Lt} {ρ : Env} {σ : As}

/-- A block that is no row of cells is put anew. -/
theorem step_put {W : World} {id l : Nat} {b : Blk} {o : Obj} (hl : σ id = some l) (hlt : l < W.heap.size) (hb : BDen ρ σ b (some o)) (hk : ∀ L, W.heap[l]? = some (.loop L) → ∃ L', o = .loop L' ∧ L'.params = L.params ∧ L'.assign = L.assign ∧ L'.body = L.body ∧ L'.defers = L.defers) : Step ρ σ W [(id, b)] σ (W.putObj l o) := by
  refine ⟨Ext.refl _, rfl, rfl, rfl, by simp, fun k hk hne => ?_, fun i a hi => .inl hi, fun e => e, fun i b' hi => ?_, fun k L e => ?_⟩
  · refine World.putObj_heap_other (fun e => ?_)
    subst e
    exact hne id b (by simp [Mem.get]) hl
  · simp only [Mem.get] at hi
    split at hi
    · rename_i hii
      simp only [beq_iff_eq] at hii
      subst hii
      simp only [Option.some.injEq] at hi
      subst hi
      exact ⟨l, hl, by rw [World.putObj_heap_same hlt]; exact hb⟩
    · simp at hi
  · by_cases h : k = l
    · subst h
      obtain ⟨L', rfl, q⟩ := hk L e
      exact ⟨L', World.putObj_heap_same hlt, q⟩
    · exact ⟨L, by rw [World.putObj_heap_other h]; exact e, rfl, rfl, rfl, rfl⟩

theorem get_filter (f : Nat → Bool) : ∀ (ws : Mem) (i : Nat) (b : Blk), Mem.get (ws.filter fun p => f p.1) i = some b → ws.get i = some b
  | [], i, b, h => by simp [Mem.get] at h
  | (j, c) :: ws, i, b, h => by
    simp only [List.filter_cons] at h
    split at h
    · simp only [Mem.get] at h ⊢
      split at h
      · rename_i e; simp only [e, if_true]; exact h
      · rename_i e
        have ih := get_filter f ws i b h
        simp only [e]; exact ih
    · rename_i hlt
      have ih := get_filter f ws i b h
      simp only [Mem.get]
      split
      · rename_i e
        exfalso
        simp only [beq_iff_eq] at e
        subst e
        have key : ∀ (l : Mem), Mem.get (l.filter fun p => f p.1) j = some b → f j = true := by
          intro l
          induction l with
          | nil => intro h; simp [Mem.get] at h
          | cons p l ihl =>
            obtain ⟨k, d⟩ := p
            simp only [List.filter_cons]
            split
            · rename_i hk
              simp only [Mem.get]
              split
              · rename_i e; simp only [beq_iff_eq] at e; subst e; intro _; exact hk
              · exact ihl
            · exact ihl
        exact hlt (key ws h)
      · exact ih
theorem get_filter' {f : Nat → Bool} : ∀ {ws : Mem} {i : Nat} {b : Blk}, ws.get i = some b → f i = true → Mem.get (ws.filter fun p => f p.1) i = some b
  | [], i, b, h, _ => by simp [Mem.get] at h
  | (j, c) :: ws, i, b, h, hi => by
    simp only [Mem.get] at h
    split at h
    · rename_i e
      simp only [beq_iff_eq] at e
      subst e
      simp only [List.filter_cons, hi, if_true, Mem.get, beq_self_eq_true]
      exact h
    · rename_i e
      have ih := get_filter' h hi
      simp only [List.filter_cons]
      split
      · simp only [Mem.get, e]; exact ih
      · exact ih
theorem keepOld_step {W W' : World} {ws : Mem} {σ' : As} {nx nx' : Nat} {v : V} (hn : Fr nx nx' σ) (h : Step ρ σ W ws σ' W') : Step ρ σ W (keepOld nx nx' v ws) σ' W' := by
  have key : Step ρ σ W (ws.filter fun p => decide (p.1 < nx) || decide (nx' ≤ p.1)) σ' W' := by
    refine ⟨h.ext, h.os, h.tape, h.output, h.size, fun k hk hne => h.frame k hk (fun i b hi he => ?_), h.new, h.inj, fun i b hi => h.blk i b (get_filter (fun i => decide (i < nx) || decide (nx' ≤ i)) ws i b hi), h.keep⟩
    refine hne i b (get_filter' (f := fun i => decide (i < nx) || decide (nx' ≤ i)) hi ?_) he
    simp only [Bool.or_eq_true, decide_eq_true_eq]
    rcases Nat.lt_or_ge i nx with q | q
    · exact .inl q
    · rcases Nat.lt_or_ge i nx' with q' | q'
      · rw [hn i q q'] at he; cases he
      · exact .inr q'
  unfold keepOld
  simp only
  split
  · exact key
  · exact h

theorem take_pre (ws m : Mem) : (ws ++ m).take ((ws ++ m).length - m.length) = ws := by
  rw [List.length_append, Nat.add_sub_cancel, List.take_append_of_le_length (Nat.le_refl _), List.take_length]

/-! ### Results -/
def resF (tmps : Array Value) : ResultVar → Sem Value
  | .tmp t => pure (tmps.getD t undef)
  | .cell a t => do loadVar t (← asAddr (tmps.getD a undef))
theorem results_eq (fn : Func) (tmps : Array Value) : results fn tmps = (do let vs ← fn.results.mapM (resF tmps); pure (if h : vs.size = 1 then vs[0] else .tuple vs)) := rfl
theorem resultS_sound {st : St} {a : Act} {W : World} (hr : RelM ρ σ st.mem W) (ht : DL (V.den ρ σ) st.tm a.tmps.toList) : ∀ (l : List ResultVar) (r : List V2), resultS P st l = some r →
    ∃ vs : List Value, DL (V2.den ρ σ) r vs ∧ (l.mapM (resF a.tmps)).run P W = .ok vs W
  | [], r, h => by
    simp only [resultS, Option.some.injEq] at h
    subst h
    exact ⟨[], trivial, by simp⟩
  | .tmp t :: l, r, h => by
    simp only [resultS] at h
    split at h
    · rename_i x r' hx hr'
      simp only [Option.some.injEq] at h
      subst h
      obtain ⟨vs, h1, h2⟩ := resultS_sound hr ht l r' hr'
      have hd := eval_den ht (.tmp t)
      simp only [opV] at hd
      rw [hx] at hd
      have e0 : (resF a.tmps (.tmp t)).run P W = .ok (a.eval (.tmp t)) W := rfl
      exact ⟨_ :: vs, ⟨hd, h1⟩, by simp only [List.mapM_cons, Sem.run_bind, e0, h2, Result.andThen_ok, Sem.run_pure]⟩
    · simp at h
  | .cell b t :: l, r, h => by
    simp only [resultS] at h
    split at h
    · rename_i x r' hx hr'
      simp only [Option.some.injEq] at h
      subst h
      obtain ⟨vs, h1, h2⟩ := resultS_sound hr ht l r' hr'
      have hd := eval_den ht (.tmp b)
      simp only [opV] at hd
      obtain ⟨u, h3, h4⟩ := loadS_sound hx hd hr
      have e0 : (resF a.tmps (.cell b t)).run P W = .ok u W := by
        show (do loadVar t (← asAddr (a.eval (.tmp b))) : Sem Value).run P W = .ok u W
        simp only [Instr.loadAt, Sem.run_bind] at h3 ⊢
        cases hp : a.eval (.tmp b) with
        | pointer q =>
          cases q with
          | some q => rw [hp] at h3; exact h3
          | none => rw [hp] at h3; simp [Instr.sureAddr, stuck, Sem.run, Result.andThen] at h3
        | _ => rw [hp] at h3; simp [Instr.sureAddr, stuck, Sem.run, Result.andThen] at h3
      exact ⟨u :: vs, ⟨h4, h1⟩, by simp only [List.mapM_cons, Sem.run_bind, e0, h2, Result.andThen_ok, Sem.run_pure]⟩
    · simp at h

theorem results_run {fn : Func} {st : St} {a : Act} {W : World} (hr : RelM ρ σ st.mem W) (ht : DL (V.den ρ σ) st.tm a.tmps.toList) {r : List V2} (h : resultS P st fn.results.toList = some r) :
    ∃ u, (results fn a.tmps).run P W = .ok u W ∧ (resultV r).den ρ σ u := by
  obtain ⟨vs, h1, h2⟩ := resultS_sound hr ht _ r h
  have e : (fn.results.mapM (resF a.tmps)).run P W = .ok vs.toArray W := by
    rw [Array.mapM_eq_mapM_toList]
    simp [h2]
  have e' : (results fn a.tmps).run P W = .ok (if h : vs.toArray.size = 1 then vs.toArray[0] else .tuple vs.toArray) W := by
    rw [results_eq]
    simp only [Sem.run_bind, e, Result.andThen_ok, Sem.run_pure]
  refine ⟨_, e', ?_⟩
  have hlen := h1.length
  unfold resultV
  split
  · rename_i x
    obtain ⟨v, vs', rfl, h3, h4⟩ := DL.cons_inv h1
    rw [DL.nil_inv h4]
    exact h3
  · rename_i l hne
    have : ¬ (vs.toArray.size = 1) := by
      simp only [List.size_toArray]
      intro hv
      rw [hv] at hlen
      match r, hlen with
      | [x], _ => exact hne x rfl
    rw [dif_neg this]
    exact ⟨vs, h1, rfl⟩

/-! ### Leaving a function -/
theorem leaves_ok {fn : Func} {R : Ending → World → Prop} {a : Act} : ∀ (df : List Nat) (ds : List Deferred) (mem : Mem) (W : World), Dfr σ df ds → RelM ρ σ mem W → dfOk mem df = true →
    (∀ W', Step ρ σ W (shutAll df) σ W' → RelM ρ σ (shutAll df ++ mem) W' → ∃ v, (results fn a.tmps).run P W' = .ok v W' ∧ R (.returned v) W') →
    LeavesInM (FR none) 0 P fn a.tmps R ds .returning W
  | [], ds, mem, W, hd, hr, _, h => by
    have hd : ds = [] := hd
    subst hd
    exact h W (Step.refl _ _ _) hr
  | d :: df, ds, mem, W, hd, hr, hok, h => by
    obtain ⟨r, ds', h1, rfl, h3⟩ := hd
    simp only [dfOk, Bool.and_eq_true, Bool.not_eq_true'] at hok
    obtain ⟨⟨o1, o2⟩, o3⟩ := hok
    have hm : mem.get d = some (.dfd false) := by
      split at o1
      · assumption
      · simp at o1
    obtain ⟨r', h4, h5⟩ := hr.blk _ _ hm
    rw [h1] at h4
    simp only [Option.some.injEq] at h4
    subst h4
    have h5 : W.heap[r]? = some (.deferred (some [])) := h5
    have hrun := run_takeDeferred (P := P) h5
    have hlt := hr.lt _ _ h1
    have hs : Step ρ σ W [(d, .dfd true)] σ (W.putObj r (.deferred none)) := step_put h1 hlt rfl (fun L e => by rw [h5] at e; cases e)
    have hr' := hr.step hs
    refine ⟨by simp, .inl ⟨r, _, rfl, hrun, leaves_ok df ds' _ _ h3 hr' ?_ (fun W' s hr2 => ?_)⟩⟩
    · -- still open
      have key : ∀ l : List Nat, l.contains d = false → dfOk mem l = true → dfOk ([(d, .dfd true)] ++ mem) l = true := by
        intro l
        induction l with
        | nil => intro _ _; rfl
        | cons x l ih =>
          intro hc hk
          simp only [List.contains_cons, Bool.or_eq_false_iff] at hc
          simp only [dfOk, Bool.and_eq_true, Bool.not_eq_true'] at hk ⊢
          refine ⟨⟨?_, hk.1.2⟩, ih hc.2 hk.2⟩
          have hx : (d == x) = false := hc.1
          have : Mem.get ([(d, .dfd true)] ++ mem) x = mem.get x := by
            show Mem.get ((d, .dfd true) :: mem) x = _
            simp only [Mem.get, hx]; rfl
          rw [this]
          exact hk.1.1
      exact key df o2 o3
    · refine h W' ?_ ?_
      · exact Step.trans (fun i k hi => hr.lt i k hi) hr.inj hs s
      · simp only [shutAll]
        rw [List.append_assoc]
        exact hr2

theorem Step.mem_eq {W W' : World} {ws ws' : Mem} {σ' : As} (h : Step ρ σ W ws σ' W') (e : ws = ws') : Step ρ σ W ws' σ' W' := by rw [← e]; exact h

theorem call_ok (hct : CtOk P ρ ct) (n : Nat) (hcode : CodeOk P ρ ct lt n) : CallOk P ρ ct lt (n + 1) := by
  intro f args mem nx q h σ W vals hr ht hargs
  simp only [call] at h
  split at h
  · rename_i c hc
    obtain ⟨v, h1, h2⟩ := T.res_bind h
    unfold ctTidy at h2
    split at h2
    · rename_i hle
      obtain rfl := res_ret h2
      exact hct f c hc args mem nx q h1 hle σ W vals hr ht hargs
    · exact h2.elim
  · split at h
    · exact h.elim
    · rename_i fn hf
      split at h
      · exact h.elim
      · split at h
        · exact h.elim
        · rename_i c hb
          obtain ⟨p, h1, h2⟩ := T.res_bind h
          split at h2
          · rename_i hend
            simp only [Bool.and_eq_true] at hend
            obtain ⟨hend, hok⟩ := hend
            split at h2
            · rename_i l hl
              simp only [T.res] at h2
              subst h2
              have hlen := hargs.length
              refine callsIn_of_wp_marks (F := FR none) hf hb trivial ?_
              have hbeg : Beg ρ { tm := args ++ List.replicate (fn.ntmps - args.length) V.any, mem, nx, df := [] } σ { tmps := vals.toArray ++ Array.replicate (fn.ntmps - vals.toArray.size) undef, defers := [] } W := by
                refine ⟨hr, ?_, rfl⟩
                simp only [Array.toList_append, Array.toList_replicate, List.size_toArray]
                rw [hlen]
                exact hargs.append (DL.replicate _ trivial)
              have hc := hcode _ none c _ p h1 σ _ W hbeg ht (fun id e => by simp at e)
              refine hc _ (fun a' W' σ' hfin => ?_)
              have key : LeavesInM (FR none) 0 P fn a'.tmps (RetTo ρ σ W nx (resultV l, keepOld nx p.2.nx (resultV l) (shutAll p.2.df ++ p.2.mem.take (p.2.mem.length - mem.length)), p.2.nx)) a'.defers .returning W' := by
                have hb2 := hfin.beg hr
                refine leaves_ok (ρ := ρ) (σ := σ') p.2.df a'.defers p.2.mem W' hfin.df hb2.rel hok (fun W2 s hr2 => ?_)
                obtain ⟨u, h3, h4⟩ := results_run (a := a') (st := { p.2 with mem := shutAll p.2.df ++ p.2.mem }) hr2 hfin.tm hl
                refine ⟨u, h3, u, σ', rfl, h4, ?_, hfin.new⟩
                obtain ⟨ws, e, s0⟩ := hfin.step
                refine keepOld_step ht ?_
                have e' : p.2.mem.take (p.2.mem.length - mem.length) = ws := by
                  have e : p.2.mem = ws ++ mem := e
                  rw [e, take_pre]
                rw [e']
                exact Step.trans (fun i k hi => hr.lt i k hi) hr.inj s0 s
              cases hp : p.1 with
              | normal => exact key
              | ret => exact key
              | exit id => rw [hp] at hend; simp [Ex.isEnd] at hend
              | goto l => rw [hp] at hend; simp [Ex.isEnd] at hend
            · exact h2.elim
          · exact h2.elim

theorem rangeEnd_ok (n : Nat) (hcode : CodeOk P ρ ct lt n) : RangeEndOk P ρ ct lt (n + 1) := by
  intro r lid st p h σ a W l hbeg ht hrr hl Q hQ
  simp only [rangeEnd] at h
  split at h
  · rename_i s pe tm ps asg body d hm
    obtain ⟨l', h1, fn, tv, dd, h2, h3, h4⟩ := hbeg.rel.blk _ _ hm
    rw [hl] at h1
    simp only [Option.some.injEq] at h1
    subst h1
    have hlt := hbeg.rel.lt _ _ hl
    have main : s ≠ .busy → (match pe with
        | none => T.ret (Ex.normal, { st with mem := (lid, .loop .exhausted pe tm ps asg body d) :: st.mem })
        | some c => code P ct lt n none r c { st with mem := (lid, .loop .exhausted pe tm ps asg body d) :: st.mem }).res ρ p →
        ∃ jump W4, (Instr.endLoop l).run P W = .ok jump W4 ∧ (match jump with | none => Q .normal a W4 | some c => c.wpIn (FR (r.bind σ)) 0 P Q a W4) := by
      intro hs h
      have hend := run_endLoop (P := P) h4 hs
      have hst : Step ρ σ W [(lid, .loop .exhausted pe tm ps asg body d)] σ _ := step_put hl hlt ⟨fn, tv, dd, h2, h3, rfl⟩ (fun L e => by rw [h4] at e; simp only [Option.some.injEq, Obj.loop.injEq] at e; subst e; exact ⟨_, rfl, rfl, rfl, rfl, rfl⟩)
      refine ⟨_, _, hend, ?_⟩
      have hfin0 : Fin ρ σ W st.mem st.nx { st with mem := (lid, .loop .exhausted pe tm ps asg body d) :: st.mem } σ a _ := ⟨⟨_, rfl, hst⟩, New.refl _ _ _, Nat.le_refl _, hbeg.tm, hbeg.df⟩
      cases pe with
      | none =>
        simp only [T.res] at h
        subst h
        exact hQ _ _ _ hfin0
      | some c =>
        simp only at h ⊢
        have hb2 := hfin0.beg hbeg.rel
        exact hcode _ r c _ p h σ a _ hb2 ht hrr Q (fun a' W' σ' hf => hQ _ _ _ (Fin.trans hbeg.rel hfin0 hf))
    split at h
    · exact h.elim
    · rename_i hs
      exact main (fun e => hs e) h
  · exact h.elim
end
end Go.Proofs.YtinfmmofcadjgaaGreat
/- The symbolic executor is right: states that fit a pattern; loops. -/
namespace Go.Proofs.YtinfmmofcadjgaaGreat
open Go.RowKit

theorem get_keys : ∀ {ws : Mem} {id : Nat}, ws.get id ≠ none → id ∈ ws.map (·.1)
  | [], _, h => absurd rfl h
  | (j, b) :: ws, id, h => by
    simp only [Mem.get] at h
    split at h
    · rename_i e; simp only [beq_iff_eq] at e; simp [e]
    · simp only [List.map_cons, List.mem_cons]; exact .inr (get_keys h)
section
variable {ρ : Env} {σ σ1 : As} {N nx : Nat} {m : Asg} {v : LV}
theorem put_low (ρ : Env) (N : Nat) (v : LV) : Agree N (ρ.put N v) ρ := Env.put_agree ρ N v
theorem ble_le {a b : Nat} (h : Nat.ble a b = true) : a ≤ b := Nat.le_of_ble_eq_true h
theorem okE_ev (hf : m.fits ρ v) {p e : E} (h : okE N m p e = true) : p.ev (ρ.put N v) = e.ev ρ := by
  unfold okE at h
  split at h
  · rename_i j
    split at h
    · rename_i hj
      have hj := ble_le hj
      split at h
      · rename_i e' he
        rw [← E.same_eq _ _ h]
        simp only [E.ev, Env.put, if_neg (Nat.not_lt.2 hj)]
        exact hf.i _ _ he
      · cases h
    · rename_i hj
      rw [← E.same_eq _ _ h]
      have : j < N := by
        rcases Nat.lt_or_ge j N with q | q
        · exact q
        · exact absurd (Nat.ble_eq_true_of_le q) hj
      simp [E.ev, Env.put, this]
  · simp only [Bool.and_eq_true] at h
    rw [← E.same_eq _ _ h.2, E.low_ev (put_low ρ N v) _ h.1]
theorem okB_ev (hf : m.fits ρ v) {p e : B} (h : okB N m p e = true) : p.ev (ρ.put N v) = e.ev ρ := by
  unfold okB at h
  split at h
  · rename_i j
    split at h
    · rename_i hj
      have hj := ble_le hj
      split at h
      · rename_i e' he
        rw [← B.same_eq _ _ h]
        simp only [B.ev, Env.put, if_neg (Nat.not_lt.2 hj)]
        exact hf.b _ _ he
      · cases h
    · rename_i hj
      rw [← B.same_eq _ _ h]
      have : j < N := by
        rcases Nat.lt_or_ge j N with q | q
        · exact q
        · exact absurd (Nat.ble_eq_true_of_le q) hj
      simp [B.ev, Env.put, this]
  · simp only [Bool.and_eq_true] at h
    rw [← B.same_eq _ _ h.2, B.low_ev (put_low ρ N v) _ h.1]
theorem okX_ev (hf : m.fits ρ v) {p e : X} (h : okX N m p e = true) : p.ev (ρ.put N v) = e.ev ρ := by
  unfold okX at h
  split at h
  · rename_i j
    split at h
    · rename_i hj
      have hj := ble_le hj
      split at h
      · rename_i e' he
        rw [← X.same_eq _ _ h]
        simp only [X.ev, Env.put, if_neg (Nat.not_lt.2 hj)]
        exact hf.d _ _ he
      · cases h
    · rename_i hj
      rw [← X.same_eq _ _ h]
      have : j < N := by
        rcases Nat.lt_or_ge j N with q | q
        · exact q
        · exact absurd (Nat.ble_eq_true_of_le q) hj
      simp [X.ev, Env.put, this]
  · simp only [Bool.and_eq_true] at h
    rw [← X.same_eq _ _ h.2, X.low_ev (put_low ρ N v) _ h.1]
theorem sameC_eq {c c' : Value} (h : sameC c c' = true) : c = c' := by
  unfold sameC at h
  split at h <;> first | rfl | cases h
theorem sameCap_den (hσ : ∀ i a, i < nx → σ1 i = some a → σ i = some a) : ∀ {l l' : List (Nat × Nat)}, sameCap nx l l' = true → ∀ {vs : List Value}, DL (capDen σ1) l' vs → DL (capDen σ) l vs
  | [], [], _, vs, hd => by rw [DL.nil_inv hd]; trivial
  | (i, o) :: l, (i', o') :: l', h, vs, hd => by
    simp only [sameCap, Bool.and_eq_true] at h
    obtain ⟨⟨⟨h1, h2⟩, h3⟩, h4⟩ := h
    obtain ⟨w, ws, rfl, ⟨a, e1, e2⟩, e3⟩ := DL.cons_inv hd
    obtain rfl := natb h1
    obtain rfl := natb h2
    exact ⟨⟨a, hσ _ _ (blt_lt h3) e1, e2⟩, sameCap_den hσ h4 e3⟩
  | [], _ :: _, h, _, _ => by simp [sameCap] at h
  | _ :: _, [], h, _, _ => by simp [sameCap] at h
theorem okS0_den (hf : m.fits ρ v) (hσ : ∀ i a, i < nx → σ1 i = some a → σ i = some a) {p s : S0} (h : okS0 N nx m p s = true) {u : Value} (hd : s.den ρ σ1 u) : p.den (ρ.put N v) σ u := by
  unfold okS0 at h
  split at h
  · trivial
  · simp only [Bool.and_eq_true, decide_eq_true_eq] at h
    obtain ⟨rfl, h⟩ := h
    show u = .int _ _
    rw [okE_ev hf h]
    exact hd
  · show u = .bool _
    rw [okB_ev hf h]
    exact hd
  · rename_i K x f K' y f'
    simp only [Bool.and_eq_true, Bool.or_eq_true, Bool.not_eq_true'] at h
    obtain ⟨⟨h1, h2⟩, h3⟩ := h
    obtain rfl := CK.sameL_eq _ _ h1
    obtain ⟨a, n, c, e1, e2, e3⟩ := hd
    refine ⟨a, n, c, e1, ?_, fun hff => e3 ?_⟩
    · rw [okX_ev hf h2]; exact e2
    · rcases h3 with h3 | h3
      · rw [h3] at hff; cases hff
      · exact h3
  · rename_i K x i o K' x' i' o'
    simp only [Bool.and_eq_true] at h
    obtain ⟨⟨⟨h1, h2⟩, h3⟩, h4⟩ := h
    obtain rfl := CK.sameL_eq _ _ h1
    obtain rfl := natb h4
    obtain ⟨b, n, c, e1, e2, e3, e4⟩ := hd
    refine ⟨b, n, c, ?_, ?_, ?_, ?_⟩
    · rw [okX_ev hf h2]; exact e1
    · rw [okE_ev hf h3]; exact e2
    · rw [okE_ev hf h3]; exact e3
    · rw [okE_ev hf h3]; exact e4
  · simp only [Bool.and_eq_true] at h
    obtain ⟨⟨h1, h2⟩, h3⟩ := h
    obtain rfl := natb h1
    obtain rfl := natb h2
    obtain ⟨a, h4, h5⟩ := hd
    exact ⟨a, hσ _ _ (blt_lt h3) h4, h5⟩
  · rename_i i o l c i' o' l' c'
    simp only [Bool.and_eq_true, decide_eq_true_eq] at h
    obtain ⟨⟨⟨⟨h1, h2⟩, h3⟩, h4⟩, h5⟩ := h
    obtain rfl := natb h1
    obtain rfl := natb h2
    obtain rfl := natb h3
    subst h4
    cases c with
    | none => obtain ⟨a, c, e1, e2, e3⟩ := hd; exact ⟨a, c, hσ _ _ (blt_lt h5) e1, e2, e3⟩
    | some c => obtain ⟨a, e1, e2⟩ := hd; exact ⟨a, hσ _ _ (blt_lt h5) e1, e2⟩
  · simp only [Bool.and_eq_true] at h
    obtain ⟨h1, h2⟩ := h
    obtain rfl := natb h1
    obtain ⟨vs, e1, e2⟩ := hd
    exact ⟨vs, sameCap_den hσ h2 e1, e2⟩
  · simp only [Bool.and_eq_true] at h
    obtain ⟨h1, h3⟩ := h
    obtain rfl := natb h1
    obtain ⟨a, h4, h5⟩ := hd
    exact ⟨a, hσ _ _ (blt_lt h3) h4, h5⟩
  · show u = _
    rw [sameC_eq h]
    exact hd
  · cases h
theorem okS0s_den (hf : m.fits ρ v) (hσ : ∀ i a, i < nx → σ1 i = some a → σ i = some a) : ∀ {ps ss : List S0}, okS0s N nx m ps ss = true → ∀ {us : List Value}, DL (S0.den ρ σ1) ss us → DL (S0.den (ρ.put N v) σ) ps us
  | [], [], _, us, hd => by rw [DL.nil_inv hd]; trivial
  | p :: ps, s :: ss, h, us, hd => by
    simp only [okS0s, Bool.and_eq_true] at h
    obtain ⟨w, ws, rfl, h1, h2⟩ := DL.cons_inv hd
    exact ⟨okS0_den hf hσ h.1 h1, okS0s_den hf hσ h.2 h2⟩
  | [], _ :: _, h, _, _ => by simp [okS0s] at h
  | _ :: _, [], h, _, _ => by simp [okS0s] at h
theorem okS_den (hf : m.fits ρ v) (hσ : ∀ i a, i < nx → σ1 i = some a → σ i = some a) {p s : S} (h : okS N nx m p s = true) {u : Value} (hd : s.den ρ σ1 u) : p.den (ρ.put N v) σ u := by
  unfold okS at h
  split at h
  · trivial
  · exact okS0_den hf hσ h hd
  · rename_i t a cs t' a' cs'
    simp only [Bool.and_eq_true, beq_iff_eq] at h
    obtain ⟨⟨h1, rfl⟩, h2⟩ := h
    obtain rfl := natb h1
    cases a with
    | true => obtain ⟨vs, e1, e2⟩ := hd; exact ⟨vs, okS0s_den hf hσ h2 e1, e2⟩
    | false => obtain ⟨w, e1, e2⟩ := hd; exact ⟨w, okS0s_den hf hσ h2 e1, e2⟩
  · cases h
theorem okSs_den (hf : m.fits ρ v) (hσ : ∀ i a, i < nx → σ1 i = some a → σ i = some a) : ∀ {ps ss : List S}, okSs N nx m ps ss = true → ∀ {us : List Value}, DL (S.den ρ σ1) ss us → DL (S.den (ρ.put N v) σ) ps us
  | [], [], _, us, hd => by rw [DL.nil_inv hd]; trivial
  | p :: ps, s :: ss, h, us, hd => by
    simp only [okSs, Bool.and_eq_true] at h
    obtain ⟨w, ws, rfl, h1, h2⟩ := DL.cons_inv hd
    exact ⟨okS_den hf hσ h.1 h1, okSs_den hf hσ h.2 h2⟩
  | [], _ :: _, h, _, _ => by simp [okSs] at h
  | _ :: _, [], h, _, _ => by simp [okSs] at h
theorem fitV_den (hf : m.fits ρ v) (hσ : ∀ i a, i < nx → σ1 i = some a → σ i = some a) {p s : V} (h : fitV N nx m p s = true) {u : Value} (hd : s.den ρ σ1 u) : p.den (ρ.put N v) σ u := by
  unfold fitV at h
  rw [Bool.or_eq_true] at h
  rcases h with h | h
  · unfold isAny at h
    split at h
    · trivial
    · cases h
  · split at h
    · rename_i p s
      unfold okV2 at h
      split at h
      · exact okS_den hf hσ h hd
      · obtain ⟨us, h1, h2⟩ := hd
        exact ⟨us, okSs_den hf hσ h h1, h2⟩
      · cases h
    · cases h
theorem fitVs_den (hf : m.fits ρ v) (hσ : ∀ i a, i < nx → σ1 i = some a → σ i = some a) : ∀ {ps ss : List V}, fitVs N nx m ps ss = true → ∀ {us : List Value}, DL (V.den ρ σ1) ss us → DL (V.den (ρ.put N v) σ) ps us
  | [], [], _, us, hd => by rw [DL.nil_inv hd]; trivial
  | p :: ps, s :: ss, h, us, hd => by
    simp only [fitVs, Bool.and_eq_true] at h
    obtain ⟨w, ws, rfl, h1, h2⟩ := DL.cons_inv hd
    exact ⟨fitV_den hf hσ h.1 h1, fitVs_den hf hσ h.2 h2⟩
  | [], _ :: _, h, _, _ => by simp [fitVs] at h
  | _ :: _, [], h, _, _ => by simp [fitVs] at h
theorem okBlk_den (hf : m.fits ρ v) (hσ : ∀ i a, i < nx → σ1 i = some a → σ i = some a) {p b : Blk} (h : okBlk N nx m p b = true) {o : Option Obj} (hd : BDen ρ σ1 b o)
    (hk : ∀ s pe tm ps asg body df, p = .loop s pe tm ps asg body df → ∀ L, o = some (.loop L) → L.params = ps.toArray ∧ L.assign = asg ∧ L.body = body) : BDen (ρ.put N v) σ p o := by
  unfold okBlk at h
  split at h
  · simp only [Bool.and_eq_true] at h
    obtain ⟨h1, h2⟩ := h
    obtain rfl := natb h1
    obtain ⟨vs, e1, e2⟩ := hd
    exact ⟨vs, okSs_den hf hσ h2 e1, e2⟩
  · simp only [Bool.and_eq_true] at h
    obtain ⟨h1, h2⟩ := h
    obtain rfl := natb h1
    obtain ⟨vs, ex, e1, e2⟩ := hd
    exact ⟨vs, ex, okSs_den hf hσ h2 e1, e2⟩
  · rename_i s pe tm ps asg body df s' pe' tm' ps' asg' body' df'
    simp only [Bool.and_eq_true, decide_eq_true_eq, Option.isNone_iff_eq_none] at h
    obtain ⟨⟨⟨⟨⟨rfl, rfl⟩, rfl⟩, h2⟩, h3⟩, h4⟩ := h
    obtain rfl := natb h3
    obtain ⟨fn, tv, d, e1, e2, e3⟩ := hd
    obtain ⟨k1, k2, k3⟩ := hk _ _ _ _ _ _ _ rfl _ e3
    refine ⟨fn, tv, d, fitVs_den hf hσ h2 e1, hσ _ _ (blt_lt h4) e2, ?_⟩
    rw [e3]
    simp only at k1 k2 k3
    rw [k1, k2, k3]
  · rename_i s s'
    simp only [beq_iff_eq] at h
    subst h
    exact hd
  · show o.isSome = true
    cases b with
    | cells t cs => obtain ⟨vs, e1, rfl⟩ := hd; rfl
    | row t cs => obtain ⟨vs, ex, e1, rfl⟩ := hd; rfl
    | loop s pe tm ps asg body df => obtain ⟨fn, tv, d, _, _, rfl⟩ := hd; rfl
    | dfd s => obtain rfl : o = _ := hd; rfl
    | gone => exact hd
  · cases h
theorem okMem_get : ∀ {pm mm : Mem}, okMem N nx m pm mm = true → ∀ {i : Nat} {b : Blk}, pm.get i = some b → i < nx ∧ ∃ b', mm.get i = some b' ∧ okBlk N nx m b b' = true
  | (j, c) :: l, mm, h, i, b, hb => by
    simp only [okMem, Bool.and_eq_true] at h
    obtain ⟨⟨h1, h2⟩, h3⟩ := h
    simp only [Mem.get] at hb
    split at hb
    · rename_i e
      simp only [beq_iff_eq] at e
      subst e
      simp only [Option.some.injEq] at hb
      subst hb
      split at h2
      · rename_i b' hb'
        exact ⟨blt_lt h1, b', hb', h2⟩
      · cases h2
    · exact okMem_get h3 hb
theorem fixMem_get : ∀ {l mm : Mem} {i : Nat} {s pe tm ps asg body df}, (fixMem l mm).get i = some (.loop s pe tm ps asg body df) → ∃ s' pe' tm' df', mm.get i = some (.loop s' pe' tm' ps asg body df')
  | (j, b) :: l, mm, i, s, pe, tm, ps, asg, body, df, h => by
    simp only [fixMem, List.map_cons, Mem.get] at h
    split at h
    · rename_i e
      simp only [beq_iff_eq] at e
      subst e
      simp only [Option.some.injEq] at h
      unfold fixBlk at h
      split at h
      · split at h
        · rename_i s' pe' tm' ps' asg' body' df' hm
          simp only [Blk.loop.injEq] at h
          obtain ⟨_, _, _, rfl, rfl, rfl, _⟩ := h
          exact ⟨_, _, _, _, hm⟩
        · simp at h
      · rename_i hne
        exact absurd h (hne _ _ _ _ _ _ _)
    · exact fixMem_get (l := l) h
theorem matchSt_spec {pat st : St} (h : matchSt N pat st = some m) : fitVs N pat.nx m pat.tm st.tm = true ∧ okMem N pat.nx m pat.mem st.mem = true ∧ pat.df = st.df ∧ ∀ i, st.mem.get i ≠ none → (pat.mem.get i).isSome = true ∨ (pat.nx ≤ i ∧ i < st.nx) := by
  unfold matchSt at h
  simp only at h
  split at h
  · rename_i hc
    simp only [Option.some.injEq] at h
    subst h
    simp only [Bool.and_eq_true, List.all_eq_true, Bool.or_eq_true] at hc
    obtain ⟨⟨⟨h1, h2⟩, h3⟩, h4⟩ := hc
    refine ⟨h1, h2, eqNats_eq h3, fun i hi => ?_⟩
    have hk := get_keys hi
    simp only [List.mem_map] at hk
    obtain ⟨q, hq, rfl⟩ := hk
    rcases h4 q hq with h | h
    · exact .inl h
    · exact .inr ⟨ble_le h.1, blt_lt h.2⟩
  · cases h
theorem Dfr.back {σ σ' : As} (hx : Ext σ σ') : ∀ {l : List Nat} {ds ds' : List Deferred}, Dfr σ l ds → Dfr σ' l ds' → Dfr σ l ds'
  | [], _, _, _, h => h
  | d :: l, ds, ds', ⟨r, t, h1, h2, h3⟩, ⟨r', t', k1, k2, k3⟩ => by
    have := hx _ _ h1
    rw [this] at k1
    simp only [Option.some.injEq] at k1
    subst k1
    exact ⟨r, t', h1, k2, Dfr.back hx h3 k3⟩
end
section
variable {P : Program} {ct : Ct} {lt : Lt} {ρ : Env} {σ : As}
theorem RelM.put {N : Nat} {v : LV} {W : World} {m : Mem} (h : RelM ρ σ m W) : RelM (ρ.put N v) σ [] W := ⟨fun id b hb => by simp [Mem.get] at hb, h.inj, h.lt, h.above, h.base⟩
/-- What holds at the begin of each round. -/
structure LInv (ρ : Env) (N : Nat) (pat : St) (σ : As) (W0 : World) (v : LV) (a : Act) (W : World) : Prop where
  step : Step (ρ.put N v) σ W0 pat.mem σ W
  tm : DL (V.den (ρ.put N v) σ) pat.tm a.tmps.toList
  df : Dfr σ pat.df a.defers

theorem loopT_ok (n : Nat) (hcode : ∀ N v, CodeOk P (ρ.put N v) ct lt n) {w : Where} {r : Option Nat} {b : Code} {st : St} {p : Ex × St} (h : (loopT (code P ct lt n w r b) st).res ρ p) :
    ∃ k, ∀ σ a W, Beg ρ st σ a W → Fr st.nx p.2.nx σ → (∀ id, r = some id → ∃ l, σ id = some l) → ∀ Q : Exit → Act → World → Prop, (∀ a' W' σ', Fin ρ σ W st.mem st.nx p.2 σ' a' W' → Q p.1.toExit a' W') →
      Code.roundsIn (FR (r.bind σ)) 0 P b Q k a W := by
  obtain ⟨N, m, v0, q, hN, hm, hfit, hr, rfl⟩ := loopT_res h
  generalize hpat : patOf (code P ct lt n w r b) st = pat at hm hr ⊢
  have hpnx : pat.nx = st.nx + 1 := by rw [← hpat]; rfl
  have hpdf : pat.df = st.df := by rw [← hpat]; rfl
  have hpm : ∀ {i s pe tm ps asg body df}, pat.mem.get i = some (.loop s pe tm ps asg body df) → ∃ s' pe' tm' df', st.mem.get i = some (.loop s' pe' tm' ps asg body df') := by
    intro i s pe tm ps asg body df hi
    rw [← hpat] at hi
    exact fixMem_get hi
  generalize hM : topNx (code P ct lt n w r b pat) = M
  -- records of ranges
  have hrec : ∀ {σ a W W'}, Beg ρ st σ a W → Keep W W' → ∀ {i x}, σ i = some x → ∀ s pe tm ps asg body df, pat.mem.get i = some (.loop s pe tm ps asg body df) → ∀ L, W'.heap[x]? = some (.loop L) → L.params = ps.toArray ∧ L.assign = asg ∧ L.body = body := by
    intro σ a W W' hbeg hkeep i x hx s pe tm ps asg body df hi L hL
    obtain ⟨s', pe', tm', df', h1⟩ := hpm hi
    obtain ⟨y, h2, fn, tv, d, _, _, h3⟩ := hbeg.rel.blk _ _ h1
    rw [hx] at h2
    simp only [Option.some.injEq] at h2
    subst h2
    obtain ⟨L', h4, e1, e2, e3, _⟩ := hkeep _ _ h3
    rw [hL] at h4
    simp only [Option.some.injEq, Obj.loop.injEq] at h4
    subst h4
    exact ⟨e1, e2, e3⟩
  have key : ∀ (v : LV) (q : Ex × St), Rounds N pat (fun ρ' p => (code P ct lt n w r b pat).res ρ' p) ρ v q → ∃ k, ∀ σ a0 W0, Beg ρ st σ a0 W0 → Fr st.nx M σ → (∀ id, r = some id → ∃ l, σ id = some l) →
      ∀ Q : Exit → Act → World → Prop, (∀ a' W' σ', Step ρ σ W0 q.2.mem σ' W' → New pat.nx q.2.nx σ σ' → DL (V.den ρ σ') q.2.tm a'.tmps.toList → Dfr σ' q.2.df a'.defers → Q q.1.toExit a' W') →
      ∀ a1 W1, LInv ρ N pat σ W0 v a1 W1 → Code.roundsIn (FR (r.bind σ)) 0 P b Q k a1 W1 := by
    intro v q hr
    -- one round
    have round : ∀ (v : LV) (p : Ex × St), (code P ct lt n w r b pat).res (ρ.put N v) p → ∀ σ a0 W0, Beg ρ st σ a0 W0 → Fr st.nx M σ → (∀ id, r = some id → ∃ l, σ id = some l) → ∀ a1 W1, LInv ρ N pat σ W0 v a1 W1 →
        ∀ R : Exit → Act → World → Prop, (∀ a' W' σ', Step (ρ.put N v) σ W0 p.2.mem σ' W' → New pat.nx p.2.nx σ σ' → DL (V.den (ρ.put N v) σ') p.2.tm a'.tmps.toList → Dfr σ' p.2.df a'.defers → RelM (ρ.put N v) σ' p.2.mem W' → R p.1.toExit a' W') → b.wpIn (FR (r.bind σ)) 0 P R a1 W1 := by
      intro v p hp σ a0 W0 hbeg hfr hrr a1 W1 hinv R hR
      have hrel0 : RelM (ρ.put N v) σ [] W0 := hbeg.rel.put
      have hrel1 : RelM (ρ.put N v) σ pat.mem W1 := by have := hrel0.step hinv.step; simpa using this
      have htop : p.2.nx ≤ M := by rw [← hM]; exact res_top hp
      have hle : pat.nx ≤ p.2.nx := (mono_all n (ρ.put N v)).code _ _ _ _ _ hp
      refine hcode N v w r b pat p hp σ a1 W1 ⟨hrel1, hinv.tm, hinv.df⟩ (fun i h1 h2 => hfr i (by omega) (by omega)) hrr R (fun a' W' σ' hf => ?_)
      obtain ⟨ws, e1, s1⟩ := hf.step
      refine hR a' W' σ' ?_ hf.new hf.tm hf.df (hf.beg hrel1).rel
      rw [e1]
      exact Step.trans (fun i k hi => hrel0.lt i k hi) hrel0.inj hinv.step s1
    induction hr with
    | @last v p hv hp hne =>
      refine ⟨1, fun σ a0 W0 hbeg hfr hrr Q hQ a1 W1 hinv => ?_⟩
      rw [roundsIn_succ]
      rw [← hv] at hp
      refine round v p hp σ a0 W0 hbeg hfr hrr a1 W1 hinv _ (fun a' W' σ' s1 s2 s3 s4 _ => ?_)
      rw [hv] at s1 s3
      have := hQ a' W' σ' s1 s2 s3 s4
      revert this
      cases hpe : p.1 with
      | normal => exact absurd hpe hne
      | _ => exact fun h => h
    | @next v p m' v' q hp hno hm' hfit' _ ih =>
      obtain ⟨k, hk⟩ := ih
      refine ⟨k + 1, fun σ a0 W0 hbeg hfr hrr Q hQ a1 W1 hinv => ?_⟩
      rw [roundsIn_succ]
      refine round v p hp σ a0 W0 hbeg hfr hrr a1 W1 hinv _ (fun a' W' σ' s1 s2 s3 s4 s5 => ?_)
      rw [hno]
      refine hk σ a0 W0 hbeg hfr hrr Q hQ a' W' ?_
      obtain ⟨f1, f2, f3, f4⟩ := matchSt_spec hm'
      have hσ : ∀ i x, i < pat.nx → σ' i = some x → σ i = some x := fun i x hi hx => by
        rcases s2 i x hx with h | ⟨h, _⟩
        · exact h
        · omega
      have htop : p.2.nx ≤ M := by rw [← hM]; exact res_top hp
      refine ⟨⟨Ext.refl _, s1.os, s1.tape, s1.output, s1.size, fun j hj hne => s1.frame j hj (fun i c hi he => ?_), fun i x hi => .inl hi, fun e => e, fun i c hi => ?_, s1.keep⟩, ?_, ?_⟩
      · rcases f4 i (by rw [hi]; simp) with g | ⟨g1, g2⟩
        · obtain ⟨c', hc'⟩ := Option.isSome_iff_exists.1 g
          exact hne i c' hc' he
        · rw [hfr i (by omega) (by omega)] at he; cases he
      · obtain ⟨g1, c', g2, g3⟩ := okMem_get f2 hi
        obtain ⟨x, g4, g5⟩ := s5.blk _ _ g2
        have g6 := hσ _ _ g1 g4
        refine ⟨x, g6, ?_⟩
        have := okBlk_den (σ := σ) hfit' hσ g3 g5 (fun s pe tm ps asg body df e L hL => hrec hbeg s1.keep g6 s pe tm ps asg body df (by rw [← e]; exact hi) L hL)
        rw [Env.put_put] at this
        exact this
      · have := fitVs_den (σ := σ) hfit' hσ f1 s3
        rw [Env.put_put] at this
        exact this
      · have hd0 : Dfr σ pat.df a0.defers := by rw [hpdf]; exact hbeg.df
        rw [← f3] at s4
        exact Dfr.back s1.ext hd0 s4
  obtain ⟨k, hk⟩ := key v0 q hr
  refine ⟨k, fun σ a W hbeg hfr hrr Q hQ => ?_⟩
  have hfr : Fr st.nx M σ := hfr
  obtain ⟨f1, f2, f3, f4⟩ := matchSt_spec hm
  have hq := hr.last_res
  have htop : q.2.nx ≤ M := by rw [← hM]; exact res_top hq
  have hle : pat.nx ≤ q.2.nx := (mono_all n ρ).code _ _ _ _ _ hq
  refine hk σ a W hbeg hfr hrr Q (fun a' W' σ' s1 s2 s3 s4 => hQ a' W' σ' ⟨⟨q.2.mem, rfl, s1⟩, fun i x hi => ?_, by show st.nx ≤ M; omega, s3, s4⟩) a W ?_
  · rcases s2 i x hi with h | ⟨h1, h2⟩
    · exact .inl h
    · exact .inr ⟨by omega, by show i < M; omega⟩
  · refine ⟨⟨Ext.refl _, rfl, rfl, rfl, Nat.le_refl _, fun _ _ _ => rfl, fun i x hi => .inl hi, fun e => e, fun i c hi => ?_, Keep.refl _⟩, fitVs_den hfit (fun i x _ h => h) f1 hbeg.tm, by rw [hpdf]; exact hbeg.df⟩
    obtain ⟨g1, c', g2, g3⟩ := okMem_get f2 hi
    obtain ⟨x, g4, g5⟩ := hbeg.rel.blk _ _ g2
    exact ⟨x, g4, okBlk_den hfit (fun i x _ h => h) g3 g5 (fun s pe tm ps asg body df e L hL => hrec hbeg (Keep.refl _) g4 s pe tm ps asg body df (by rw [← e]; exact hi) L hL)⟩
end
end Go.Proofs.YtinfmmofcadjgaaGreat
/- The symbolic executor is right: rounds, operations in a row, code. -/
namespace Go.Proofs.YtinfmmofcadjgaaGreat
open Go.RowKit

section
variable {P : Program} {ct : Ct} {lt : Lt} {ρ : Env} {σ : As}

theorem setPs_den : ∀ (ps : List Tmp) (args : List V) (vals : List Value) (tm : List V) (tv : List Value), args.length = ps.length → DL (V.den ρ σ) args vals → DL (V.den ρ σ) tm tv →
    DL (V.den ρ σ) (setPs ps args tm) ((ps.zip vals).foldl (fun (tmps : Array Value) (p : Tmp × Value) => tmps.setIfInBounds p.1 p.2) tv.toArray).toList
  | [], [], [], tm, tv, _, _, h => by simpa [setPs] using h
  | t :: ps, v :: args, u :: vals, tm, tv, hl, ⟨h1, h2⟩, h => by
    have ih := setPs_den ps args vals (tm.set t v) (tv.set t u) (by simpa using hl) h2 (h.set t h1)
    simp only [setPs, List.zip_cons_cons, List.foldl_cons]
    rw [show tv.toArray.setIfInBounds t u = (tv.set t u).toArray by simp]
    exact ih
  | [], _ :: _, _, _, _, hl, _, _ => by simp at hl
  | _ :: _, [], _, _, _, hl, _, _ => by simp at hl
  | _ :: _, _ :: _, [], _, _, _, h, _ => h.elim

theorem round_ok (n : Nat) (hcode : CodeOk P ρ ct lt n) : RoundOk P ρ ct lt (n + 1) := by
  intro lid args mem nx q h σ W vals l hr ht hargs hl ro
  simp only [round] at h
  split at h
  · rename_i pe tm ps asg body d hm
    split at h
    · rename_i hlen
      obtain ⟨l', e1, fn, tv, dd, e2, e3, e4⟩ := hr.blk _ _ hm
      rw [hl] at e1
      simp only [Option.some.injEq] at e1
      subst e1
      have hvl := hargs.length
      refine ⟨_, e4, by simp; omega, ?_⟩
      obtain ⟨p, h1, h2⟩ := T.res_bind h
      split at h2
      · rename_i pe1 tm1 ps1 asg1 body1 d1 hp1 hm1
        obtain ⟨q2, h3, h4⟩ := T.res_bind h2
        split at h4
        · rename_i s2 pe2 tm2 ps2 asg2 body2 d2 hm2
          simp only [T.res] at h4
          subst h4
          refine roundIn_of_wpIn (F := FR ro) trivial ?_
          have hrr : ∀ id, some lid = some id → ∃ l, σ id = some l := fun id e => by simp only [Option.some.injEq] at e; subst e; exact ⟨l, hl⟩
          have hF : FR ((some lid).bind σ) = (FR ro).inRound l := by simp only [Option.bind_some, hl]; rfl
          have hbeg : Beg ρ { tm := setPs ps args tm, mem, nx, df := [] } σ { tmps := ((ps.toArray.zip vals.toArray).foldl (fun tmps (p : Tmp × Value) => tmps.setIfInBounds p.1 p.2) tv.toArray), defers := [] } W := by
            refine ⟨hr, ?_, rfl⟩
            have := setPs_den (ρ := ρ) (σ := σ) ps args vals tm tv hlen hargs e2
            simpa using this
          have hc1 := hcode _ (some lid) asg _ p h1 σ _ W hbeg (ht.less (by have e := (mono n).code _ _ _ _ _ h3; exact e)) hrr
          rw [hF] at hc1
          refine hc1 _ (fun a1 W1 σ1 hf1 => ?_)
          rw [hp1]
          have hb1 := hf1.beg hr
          have hl1 : σ1 lid = some l := hf1.ext _ _ hl
          obtain ⟨l1, k1, fn1, tv1, dd1, k2, k3, k4⟩ := hb1.rel.blk _ _ hm1
          rw [hl1] at k1
          simp only [Option.some.injEq] at k1
          subst k1
          have hlt1 := hb1.rel.lt _ _ hl1
          have hs1 : Step ρ σ1 W1 [(lid, .loop .busy pe1 tm1 ps1 asg1 body1 d1)] σ1 _ := step_put hl1 hlt1 ⟨fn1, tv1, dd1, k2, k3, rfl⟩ (fun L e => by rw [k4] at e; simp only [Option.some.injEq, Obj.loop.injEq] at e; subst e; exact ⟨_, rfl, rfl, rfl, rfl, rfl⟩)
          refine ⟨_, run_beginRound k4 rfl, ?_⟩
          have hfin1 : Fin ρ σ1 W1 p.2.mem p.2.nx { p.2 with mem := (lid, .loop .busy pe1 tm1 ps1 asg1 body1 d1) :: p.2.mem } σ1 a1 _ := ⟨⟨_, rfl, hs1⟩, New.refl _ _ _, Nat.le_refl _, hb1.tm, hb1.df⟩
          have hb2 := hfin1.beg hb1.rel
          have hrr1 : ∀ id, some lid = some id → ∃ l, σ1 id = some l := fun id e => by simp only [Option.some.injEq] at e; subst e; exact ⟨l, hl1⟩
          have hF1 : FR ((some lid).bind σ1) = (FR ro).inRound l := by simp only [Option.bind_some, hl1]; rfl
          have hc2 := hcode _ (some lid) body _ q2 h3 σ1 a1 _ hb2 (ht.after hf1.le hf1.new) hrr1
          rw [hF1] at hc2
          refine hc2 _ (fun a2 W2 σ2 hf2 => ?_)
          have hf02 : Fin ρ σ W mem nx q2.2 σ2 a2 W2 := Fin.trans hr hf1 (Fin.trans hb1.rel hfin1 hf2)
          have hb3 := hf02.beg hr
          have hl2 : σ2 lid = some l := hf02.ext _ _ hl
          obtain ⟨l2, m1, fn2, tv2, dd2, m2, m3, m4⟩ := hb3.rel.blk _ _ hm2
          rw [hl2] at m1
          simp only [Option.some.injEq] at m1
          subst m1
          have hlt2 := hb3.rel.lt _ _ hl2
          have hend := fun j => run_endRound (P := P) j m4
          have hs2 : Step ρ σ2 W2 [(lid, .loop (if q2.1.jump.isNone then .ready else .done) q2.1.jump tm2 ps2 asg2 body2 d2)] σ2 _ := step_put hl2 hlt2 ⟨fn2, tv2, dd2, m2, m3, rfl⟩ (fun L e => by rw [m4] at e; simp only [Option.some.injEq, Obj.loop.injEq] at e; subst e; exact ⟨_, rfl, rfl, rfl, rfl, rfl⟩)
          have hret : RetTo ρ σ W nx (bV (.lit q2.1.jump.isNone), keepOld nx q2.2.nx (bV (.lit true)) ((lid, .loop (if q2.1.jump.isNone then .ready else .done) q2.1.jump tm2 ps2 asg2 body2 d2) :: q2.2.mem.take (q2.2.mem.length - mem.length)), q2.2.nx)
              (.returned (.bool q2.1.jump.isNone)) (W2.putObj l (.loop { state := if q2.1.jump.isNone then .ready else .done, pending := q2.1.jump, fn := fn2, tmps := tv2.toArray, params := ps2.toArray, assign := asg2, body := body2, defers := dd2 })) := by
            refine ⟨_, σ2, rfl, rfl, keepOld_step ht ?_, hf02.new⟩
            obtain ⟨ws, e, s0⟩ := hf02.step
            rw [e, take_pre]
            exact Step.trans (ws := ws) (ws' := [_]) (fun i k hi => hr.lt i k hi) hr.inj s0 hs2
          cases hj : q2.1 with
          | normal => rw [hj] at hret; exact ⟨_, _, hend none, hret⟩
          | ret => rw [hj] at hret; exact ⟨_, _, hend (some .ret), hret⟩
          | exit id => rw [hj] at hret; exact ⟨_, _, hend (some (.exit id)), hret⟩
          | goto t => rw [hj] at hret; exact ⟨_, _, hend (some (.goto t)), hret⟩
        · exact h4.elim
      · exact h2.elim
    · exact h.elim
  · exact h.elim

theorem ops_zero : OpsOk P ρ ct lt 0 := by intro r ops i st s' h; simp [opsRun, T.res] at h
theorem ops_ok (n : Nat) (hoper : OperOk P ρ ct lt n) (hops : OpsOk P ρ ct lt n) : OpsOk P ρ ct lt (n + 1) := by
  intro r ops i st s' h σ a W hbeg ht ro Q hQ
  simp only [opsRun] at h
  split at h
  · rename_i ho
    simp only [T.res] at h
    subst h
    have : ops.size - i = 0 := by
      rcases Nat.lt_or_ge i ops.size with q | q
      · rw [Array.getElem?_eq_getElem q] at ho; simp at ho
      · omega
    rw [this]
    exact hQ a W σ (Fin.refl hbeg)
  · rename_i o ho
    have hi : i < ops.size := (Array.getElem?_eq_some_iff.1 ho).1
    have er : List.range' i (ops.size - i) = i :: List.range' (i + 1) (ops.size - (i + 1)) := by
      rw [show ops.size - i = (ops.size - (i + 1)) + 1 by omega, List.range'_succ]
    rw [er]
    simp only [wpOpsIn, ho]
    split at h
    · exact h.elim
    · rename_i hw
      have hw' := wants_spec hw hbeg.tm
      rw [hw']
      simp only [Bool.false_eq_true, if_false]
      refine ⟨fun _ _ => trivial, ?_⟩
      have hbeg' : Beg ρ { st with tm := setTm st.tm o.dst (.tup []) } σ (a.put o.dst undef) W := ⟨hbeg.rel, setTm_den hbeg.tm (show (V.tup []).den ρ σ undef from undef_den) _, by rw [put_defers]; exact hbeg.df⟩
      exact hops r ops (i + 1) _ s' h σ _ W hbeg' ht ro Q hQ
    · rename_i hw
      have hw' := wants_spec hw hbeg.tm
      rw [hw']
      simp only [if_true]
      obtain ⟨q, h1, h2⟩ := T.res_bind h
      obtain ⟨q0, h3, h4, h5⟩ := parted_spec h1
      have m1 := (mono n).oper _ _ _ _ _ h3
      have m2 := (mono n).ops _ _ _ _ _ h2
      refine hoper o _ _ _ q0 h3 σ a W hbeg.rel (ht.less (by rw [← h4]; exact m2)) (fun x _ => eval_den hbeg.tm x) ro _ Q (fun u W' σ' k1 k2 k3 => ?_)
      rw [← h4] at k2 k3 m1
      have hfin : Fin ρ σ W st.mem st.nx { st with tm := setTm st.tm o.dst q.1, mem := q.2.1 ++ st.mem, nx := q.2.2 } σ' (a.put o.dst u) W' :=
        ⟨⟨q.2.1, rfl, k2⟩, k3, m1, setTm_den (hbeg.tm.mono (V.den_ext k2.ext)) (h5 _ _ k1) _, by rw [put_defers]; exact hbeg.df.ext k2.ext⟩
      exact hops r ops (i + 1) _ s' h2 σ' _ W' (hfin.beg hbeg.rel) (ht.after m1 k3) ro Q (fun a' W2 σ2 hf => hQ _ _ _ (Fin.trans hbeg.rel hfin hf))

theorem Step.of_drew {W W' : World} {ws : Mem} {σ' : As} (h : Step ρ σ W.drew ws σ' W') : Step ρ σ W ws σ' W' :=
  ⟨h.ext, h.os, h.tape, h.output, h.size, h.frame, h.new, h.inj, h.blk, h.keep⟩
theorem Beg.drew {st : St} {a : Act} {W : World} (h : Beg ρ st σ a W) : Beg ρ st σ a W.drew := ⟨h.rel.step (Step.drew _ _ _), h.tm, h.df⟩
theorem Fin.of_drew {W W' : World} {mem : Mem} {nx : Nat} {st' : St} {σ' : As} {a' : Act} (h : Fin ρ σ W.drew mem nx st' σ' a' W') : Fin ρ σ W mem nx st' σ' a' W' := by
  obtain ⟨ws, e, s⟩ := h.step
  exact ⟨⟨ws, e, s.of_drew⟩, h.new, h.le, h.tm, h.df⟩

theorem loop_ok (n : Nat) (hc0 : CodeOk P ρ ct lt n) (hcN : ∀ N v, CodeOk P (ρ.put N v) ct lt n) (hloop : LoopOk P ρ ct lt n) : LoopOk P ρ ct lt (n + 1) := by
  intro w r b st p h
  simp only [code] at h
  split at h
  · obtain ⟨p1, h1, h2⟩ := T.res_bind h
    cases hp : p1.1 with
    | normal =>
      rw [hp] at h2
      obtain ⟨k, hk⟩ := hloop w r b p1.2 p h2
      refine ⟨k + 1, fun σ a W hbeg ht hrr Q hQ => ?_⟩
      rw [roundsIn_succ]
      refine hc0 _ r b st p1 h1 σ a W hbeg (ht.less ((mono n).code _ _ _ _ _ h2)) hrr _ (fun a1 W1 σ1 hf1 => ?_)
      rw [hp]
      have := hk σ1 a1 W1 (hf1.beg hbeg.rel) (ht.after hf1.le hf1.new) (hr_ext hrr hf1.ext) Q (fun a2 W2 σ2 hf2 => hQ _ _ _ (Fin.trans hbeg.rel hf1 hf2))
      rw [FR_ext hrr hf1.ext] at this
      exact this
    | exit id =>
      rw [hp] at h2
      obtain rfl := res_ret h2
      refine ⟨1, fun σ a W hbeg ht hrr Q hQ => ?_⟩
      rw [roundsIn_succ]
      refine hc0 _ r b st p h1 σ a W hbeg ht hrr _ (fun a1 W1 σ1 hf1 => ?_)
      have := hQ a1 W1 σ1 hf1
      rw [hp] at this ⊢
      exact this
    | goto l =>
      rw [hp] at h2
      obtain rfl := res_ret h2
      refine ⟨1, fun σ a W hbeg ht hrr Q hQ => ?_⟩
      rw [roundsIn_succ]
      refine hc0 _ r b st p h1 σ a W hbeg ht hrr _ (fun a1 W1 σ1 hf1 => ?_)
      have := hQ a1 W1 σ1 hf1
      rw [hp] at this ⊢
      exact this
    | ret =>
      rw [hp] at h2
      obtain rfl := res_ret h2
      refine ⟨1, fun σ a W hbeg ht hrr Q hQ => ?_⟩
      rw [roundsIn_succ]
      refine hc0 _ r b st p h1 σ a W hbeg ht hrr _ (fun a1 W1 σ1 hf1 => ?_)
      have := hQ a1 W1 σ1 hf1
      rw [hp] at this ⊢
      exact this
  · exact loopT_ok n hcN h

theorem run_enterLoop_in {l₀ : Nat} {r₀ : Loop} {w : World} (h : w.heap[l₀]? = some (.loop r₀)) (fn : FuncId) (tmps : Array Value) (ps : Array Tmp) (assign body : Code) :
    (Instr.enterLoop fn tmps ps assign body (some l₀)).run P w = .ok (w.heap.size, []) (w.alloc (.loop { state := .ready, pending := none, fn, tmps, params := ps, assign, body, defers := r₀.defers })) := by
  unfold Instr.enterLoop
  simp only [Sem.run_bind, run_getLoop h, run_newObj_alloc, Result.andThen, Sem.run_pure]

theorem range_call {g : Operand} {a : Act} {f : FuncId} {vs : List Value} (hg : a.eval g = .func (.func f) #[] vs.toArray) (l : Nat) (hen : Enterable P f) (W : World) :
    ∃ d, (resolve a.eval (rangeCall g l) 0).run P W = .ok d W ∧ (invoke d.target d.args).run P W = .ok (.enter f (Value.func (.yield l) #[] #[] :: vs).toArray) W := by
  refine ⟨{ target := .fn (.func f) vs.toArray, args := #[.func (.yield l) #[] #[]] }, ?_, ?_⟩
  · unfold resolve rangeCall
    simp only [hg]
    simp [Deferred.ofValue, Act.eval]
  · have := hen (Value.func (.yield l) #[] #[] :: vs).toArray W
    simp only [invoke]
    rw [← this]
    congr 2
    simp

theorem code_ok (hmix : P.follows .mixedOrders = true) (hce : CtEnter P ct) (n : Nat) (hcode : CodeOk P ρ ct lt n) (hloop : LoopOk P ρ ct lt (n + 1)) (hops : OpsOk P ρ ct lt n) (hdraw : DrawOk P ρ ct lt n) (hcall : CallOk P ρ ct lt n) (hend : RangeEndOk P ρ ct lt n) : CodeOk P ρ ct lt (n + 1) := by
  intro w r c st p h σ a W hbeg ht hrr Q hQ
  cases c with
  | skip =>
    simp only [code, T.res] at h
    subst h
    exact wpIn_skip (hQ _ _ _ (Fin.refl hbeg))
  | label l =>
    simp only [code, T.res] at h
    subst h
    exact wpIn_label (hQ _ _ _ (Fin.refl hbeg))
  | exit id =>
    simp only [code, T.res] at h
    subst h
    exact wpIn_exit (hQ _ _ _ (Fin.refl hbeg))
  | goto l =>
    simp only [code, T.res] at h
    subst h
    exact wpIn_goto (hQ _ _ _ (Fin.refl hbeg))
  | ret =>
    simp only [code, T.res] at h
    subst h
    exact wpIn_ret (hQ _ _ _ (Fin.refl hbeg))
  | seq x y =>
    simp only [code] at h
    obtain ⟨p1, h1, h2⟩ := T.res_bind h
    have hle : p1.2.nx ≤ p.2.nx := by
      split at h2
      · exact (mono n).code _ _ _ _ _ h2
      · obtain rfl := res_ret h2; exact Nat.le_refl _
    refine wpIn_seq (hcode _ r x st p1 h1 σ a W hbeg (ht.less hle) hrr _ (fun a1 W1 σ1 hf1 => ?_))
    cases hp : p1.1 with
    | normal =>
      rw [hp] at h2
      have := hcode _ r y p1.2 p h2 σ1 a1 W1 (hf1.beg hbeg.rel) (ht.after hf1.le hf1.new) (hr_ext hrr hf1.ext) Q (fun a2 W2 σ2 hf2 => hQ _ _ _ (Fin.trans hbeg.rel hf1 hf2))
      rw [FR_ext hrr hf1.ext] at this
      exact this
    | exit id =>
      rw [hp] at h2
      simp only [T.res] at h2
      subst h2
      have := hQ a1 W1 σ1 hf1
      rw [hp] at this
      exact this
    | goto l =>
      rw [hp] at h2
      simp only [T.res] at h2
      subst h2
      have := hQ a1 W1 σ1 hf1
      rw [hp] at this
      exact this
    | ret =>
      rw [hp] at h2
      simp only [T.res] at h2
      subst h2
      have := hQ a1 W1 σ1 hf1
      rw [hp] at this
      exact this
  | cond x y z =>
    simp only [code] at h
    split at h
    · rename_i b hb
      have hx := eval_den hbeg.tm x
      rw [hb] at hx
      have hx' : a.eval x = .bool (b.ev ρ) := hx
      rcases T.res_iteS h with ⟨e, h1⟩ | ⟨e, h1⟩
      · rw [e] at hx'
        exact wpIn_cond_true hx' (hcode _ r y st p h1 σ a W hbeg ht hrr Q hQ)
      · rw [e] at hx'
        exact wpIn_cond_false hx' (hcode _ r z st p h1 σ a W hbeg ht hrr Q hQ)
    · exact h.elim
  | block id b =>
    simp only [code] at h
    obtain ⟨p1, h1, h2⟩ := T.res_bind h
    have hle : p1.2.nx ≤ p.2.nx := by
      repeat' split at h2
      all_goals (obtain rfl := res_ret h2; exact Nat.le_refl _)
    refine wpIn_block (hcode _ r b st p1 h1 σ a W hbeg (ht.less hle) hrr _ (fun a1 W1 σ1 hf1 => ?_))
    cases hp : p1.1 with
    | normal =>
      rw [hp] at h2
      simp only [T.res] at h2
      subst h2
      have := hQ a1 W1 σ1 hf1
      rw [hp] at this
      exact this
    | exit id' =>
      rw [hp] at h2
      simp only at h2
      show if id' = id then Q .normal a1 W1 else Q (.exit id') a1 W1
      by_cases he : id' = id
      · rw [if_pos he] at h2 ⊢
        simp only [T.res] at h2
        subst h2
        exact hQ a1 W1 σ1 hf1
      · rw [if_neg he] at h2 ⊢
        simp only [T.res] at h2
        subst h2
        have := hQ a1 W1 σ1 hf1
        rw [hp] at this
        exact this
    | goto l =>
      rw [hp] at h2
      simp only [T.res] at h2
      subst h2
      have := hQ a1 W1 σ1 hf1
      rw [hp] at this
      exact this
    | ret =>
      rw [hp] at h2
      simp only [T.res] at h2
      subst h2
      have := hQ a1 W1 σ1 hf1
      rw [hp] at this
      exact this
  | loop b =>
    obtain ⟨k, hk⟩ := hloop w r b st p h
    exact wpIn_loop_rounds k (hk σ a W hbeg ht hrr Q hQ)
  | region id ops draw =>
    cases draw with
    | false =>
      simp only [code] at h
      obtain ⟨s1, h1, h2⟩ := T.res_bind h
      simp only [T.res] at h2
      subst h2
      refine wpIn_region ?_
      have := hops r ops 0 st s1 h1 σ a W hbeg ht (r.bind σ) Q (fun a' W' σ' hf => hQ a' W' σ' hf)
      simpa [List.range_eq_range'] using this
    | true =>
      simp only [code] at h
      obtain ⟨s1, h1, h2⟩ := T.res_bind h
      simp only [T.res] at h2
      subst h2
      refine wpIn_region_any hmix ?_
      exact hdraw r ops st s1 h1 σ a W.drew hbeg.drew ht (r.bind σ) Q (fun a' W' σ' hf => hQ a' W' σ' hf.of_drew)
  | rangeFunc g ps asg body =>
    simp only [code] at h
    split at h
    · rename_i f cap hg
      have hgd := eval_den hbeg.tm g
      rw [hg] at hgd
      obtain ⟨vs, hvs, hge⟩ := clo_den hgd
      split at h
      · -- an outermost one
        obtain ⟨q, h1, h2⟩ := T.res_bind h
        have m1 : st.nx + 2 ≤ q.2.2 := (mono n).call _ _ _ _ _ h1
        have m2 : q.2.2 ≤ p.2.nx := by have e := (mono n).rend _ _ _ _ h2; exact e
        refine wpIn_rangeFunc (fun fn _ => ?_)
        obtain ⟨s1, t1⟩ := step_new (ρ := ρ) (nx := st.nx) (ht _ (Nat.le_refl _) (by omega)) (fun i a hi => hbeg.rel.lt i a hi) (b := .dfd false) (o := .deferred (some [])) rfl
        have r1 := hbeg.rel.step s1
        have hd0 : (fun i => if i = st.nx then some W.heap.size else σ i) st.nx = some W.heap.size := by simp
        have htm1 := hbeg.tm.mono (V.den_ext s1.ext)
        have hx2 : Ext (fun i => if i = st.nx then some W.heap.size else σ i) (fun i => if i = st.nx + 1 then some (W.alloc (.deferred (some []))).heap.size else if i = st.nx then some W.heap.size else σ i) := by
          intro i b hi
          have : i ≠ st.nx + 1 := fun e => by rw [e, (ht.after (by omega) t1) _ (Nat.le_refl _) (by omega)] at hi; cases hi
          show (if i = st.nx + 1 then _ else _) = some b
          rw [if_neg this]
          exact hi
        obtain ⟨s2, t2⟩ := step_new (ρ := ρ) (nx := st.nx + 1) ((ht.after (by omega) t1) _ (Nat.le_refl _) (by omega)) (fun i a hi => r1.lt i a hi) (b := .loop .ready none st.tm ps.toList asg body st.nx)
          (o := .loop { state := .ready, pending := none, fn := fn, tmps := a.tmps, params := ps, assign := asg, body := body, defers := W.heap.size }) ⟨fn, a.tmps.toList, W.heap.size, htm1.mono (V.den_ext hx2), hx2 _ _ hd0, by simp⟩
        have r2 := r1.step s2
        have hl : (fun i => if i = st.nx + 1 then some (W.alloc (.deferred (some []))).heap.size else if i = st.nx then some W.heap.size else σ i) (st.nx + 1) = some (W.heap.size + 1) := by simp
        have hcap := hvs.mono (fun _ _ => capDen.ext (s1.ext.trans s2.ext))
        have hcc := hcall f _ _ _ q h1 _ _ (Value.func (.yield (W.heap.size + 1)) #[] #[] :: vs) r2 (((ht.after (by omega) t1).after (by omega) t2).less m2) ⟨⟨W.heap.size + 1, hl, rfl⟩, cap_den hcap⟩
        obtain ⟨d, hd1, hd2⟩ := range_call (a := a) hge (W.heap.size + 1) (call_enter hce h1) ((W.alloc (.deferred (some []))).alloc (.loop { state := .ready, pending := none, fn := fn, tmps := a.tmps, params := ps, assign := asg, body := body, defers := W.heap.size }))
        refine ⟨W.heap.size + 1, [{ target := .collected W.heap.size, args := #[] }], _, d, _, f, _, _, run_enterLoop_outer fn a.tmps ps asg body, hd1, fun _ _ => trivial, hd2, fun h => by simp [FR] at h, ?_⟩
        refine CallsIn.mono (F := FR none) (n := 0 - 1) hcc ?_
        rintro e W3 ⟨u, σ3, rfl, k1, k2, k3⟩
        have s12 := Step.trans (fun i k hi => hbeg.rel.lt i k hi) hbeg.rel.inj s1 s2
        have s123 := Step.trans (fun i k hi => hbeg.rel.lt i k hi) hbeg.rel.inj s12 k2
        have hfin : Fin ρ σ W st.mem st.nx { st with mem := q.2.1 ++ (st.nx + 1, .loop .ready none st.tm ps.toList asg body st.nx) :: (st.nx, .dfd false) :: st.mem, nx := q.2.2, df := st.nx :: st.df } σ3
            { a with defers := [{ target := .collected W.heap.size, args := #[] }] ++ a.defers } W3 := by
          refine ⟨⟨_, by simp, s123⟩, (t1.trans (by omega) (by omega) t2).trans (by omega) m1 k3, by show st.nx ≤ q.2.2; omega, hbeg.tm.mono (V.den_ext s123.ext), W.heap.size, a.defers, ?_, rfl, hbeg.df.ext s123.ext⟩
          exact k2.ext _ _ (s2.ext _ _ hd0)
        have he := hend none (st.nx + 1) _ p h2 σ3 _ W3 (W.heap.size + 1) (hfin.beg hbeg.rel) (ht.after hfin.le hfin.new) (fun id e => by simp at e) (k2.ext _ _ hl) Q (fun a' W' σ' hf => hQ _ _ _ (Fin.trans hbeg.rel hfin hf))
        exact he
      · -- one within a round
        rename_i rid
        split at h
        · rename_i s0 p0 tm0 ps0 asg0 body0 d0 hm0
          obtain ⟨q, h1, h2⟩ := T.res_bind h
          obtain ⟨l0, hl0⟩ := hrr rid rfl
          obtain ⟨l0', e1, fn0, tv0, dd0, e2, e3, e4⟩ := hbeg.rel.blk _ _ hm0
          rw [hl0] at e1
          simp only [Option.some.injEq] at e1
          subst e1
          have hFl : FR ((some rid).bind σ) = FR (some l0) := by simp only [Option.bind_some, hl0]
          rw [hFl]
          have m1 : st.nx + 1 ≤ q.2.2 := (mono n).call _ _ _ _ _ h1
          have m2 : q.2.2 ≤ p.2.nx := by have e := (mono n).rend _ _ _ _ h2; exact e
          refine wpIn_rangeFunc (fun fn _ => ?_)
          have hx2 : Ext σ (fun i => if i = st.nx then some W.heap.size else σ i) := by
            intro i b hi
            have : i ≠ st.nx := fun e => by rw [e, ht _ (Nat.le_refl _) (by omega)] at hi; cases hi
            simp [this, hi]
          obtain ⟨s2, t2⟩ := step_new (ρ := ρ) (nx := st.nx) (ht _ (Nat.le_refl _) (by omega)) (fun i a hi => hbeg.rel.lt i a hi) (b := .loop .ready none st.tm ps.toList asg body d0)
            (o := .loop { state := .ready, pending := none, fn := fn, tmps := a.tmps, params := ps, assign := asg, body := body, defers := dd0 }) ⟨fn, a.tmps.toList, dd0, hbeg.tm.mono (V.den_ext hx2), hx2 _ _ e3, by simp⟩
          have r2 := hbeg.rel.step s2
          have hl : (fun i => if i = st.nx then some W.heap.size else σ i) st.nx = some W.heap.size := by simp
          have hcap := hvs.mono (fun _ _ => capDen.ext s2.ext)
          have hcc := hcall f _ _ _ q h1 _ _ (Value.func (.yield W.heap.size) #[] #[] :: vs) r2 ((ht.after (by omega) t2).less m2) ⟨⟨W.heap.size, hl, rfl⟩, cap_den hcap⟩
          obtain ⟨d, hd1, hd2⟩ := range_call (a := a) hge W.heap.size (call_enter hce h1) (W.alloc (.loop { state := .ready, pending := none, fn := fn, tmps := a.tmps, params := ps, assign := asg, body := body, defers := dd0 }))
          refine ⟨W.heap.size, [], _, d, _, f, _, _, run_enterLoop_in e4 fn a.tmps ps asg body, hd1, fun _ _ => trivial, hd2, fun h => by simp [FR] at h, ?_⟩
          refine CallsIn.mono (F := FR none) (n := 0 - 1) hcc ?_
          rintro e W3 ⟨u, σ3, rfl, k1, k2, k3⟩
          have s123 := Step.trans (fun i k hi => hbeg.rel.lt i k hi) hbeg.rel.inj s2 k2
          have hfin : Fin ρ σ W st.mem st.nx { st with mem := q.2.1 ++ (st.nx, .loop .ready none st.tm ps.toList asg body d0) :: st.mem, nx := q.2.2 } σ3 { a with defers := [] ++ a.defers } W3 :=
            ⟨⟨_, by simp, s123⟩, t2.trans (by omega) m1 k3, by show st.nx ≤ q.2.2; omega, hbeg.tm.mono (V.den_ext s123.ext), hbeg.df.ext s123.ext⟩
          have he := hend (some rid) st.nx _ p h2 σ3 _ W3 W.heap.size (hfin.beg hbeg.rel) (ht.after hfin.le hfin.new) (hr_ext hrr s123.ext) (k2.ext _ _ hl) Q (fun a' W' σ' hf => hQ _ _ _ (Fin.trans hbeg.rel hfin hf))
          rw [FR_ext hrr s123.ext, hFl] at he
          exact he
        · exact h.elim
    · exact h.elim
  | scope b => simp [code, T.res] at h
  | refuse w => simp [code, T.res] at h
end
end Go.Proofs.YtinfmmofcadjgaaGreat
/- The symbolic executor is right: regions that draw their order. -/
namespace Go.Proofs.YtinfmmofcadjgaaGreat
open Go.RowKit

/-! ### Values of a key under a chosen set of events -/
def FA {β : Type} (L : Nat → Bool) (u : Nat → Option β) (b : Option β) : Nat → Option β
  | 0 => b
  | n + 1 => if L n then (u n).or (FA L u b n) else FA L u b n
theorem FA_congr {β : Type} {L L' : Nat → Bool} {u : Nat → Option β} {b : Option β} : ∀ (n : Nat), (∀ k, k < n → u k ≠ none → L k = L' k) → FA L u b n = FA L' u b n
  | 0, _ => rfl
  | n + 1, h => by
    have ih := FA_congr n (fun k hk => h k (by omega)) (b := b)
    simp only [FA, ih]
    cases hu : u n with
    | none => simp
    | some x => rw [h n (by omega) (by rw [hu]; simp)]
theorem FA_insert {β : Type} {L : Nat → Bool} {u : Nat → Option β} {b : Option β} {j : Nat} : ∀ (n : Nat), j < n → L j = false → (∀ k, j < k → k < n → u j ≠ none → u k ≠ none → L k = false) →
    FA (fun k => if k = j then true else L k) u b n = (u j).or (FA L u b n)
  | n + 1, hj, hl, h => by
    rcases Nat.lt_or_ge j n with q | q
    · have ih := FA_insert n q hl (fun k h1 h2 => h k h1 (by omega)) (b := b)
      simp only [FA, ih, if_neg (show ¬ n = j by omega)]
      cases hu : u j with
      | none => simp
      | some x =>
        cases hn : u n with
        | none => simp
        | some y => simp [h n q (by omega) (by rw [hu]; simp) (by rw [hn]; simp)]
    · obtain rfl : j = n := by omega
      have e : FA (fun k => if k = j then true else L k) u b j = FA L u b j := FA_congr j (fun k hk _ => by simp [show ¬ k = j by omega])
      simp only [FA, e, if_true, hl, Bool.false_eq_true, if_false]
theorem FA_below {β : Type} {u : Nat → Option β} {b : Option β} {j : Nat} : ∀ (n : Nat), j ≤ n → FA (fun k => decide (k < j)) u b n = FA (fun _ => true) u b j
  | 0, h => by obtain rfl : j = 0 := by omega
               rfl
  | n + 1, h => by
    rcases Nat.lt_or_ge n j with q | q
    · obtain rfl : j = n + 1 := by omega
      exact FA_congr _ (fun k hk _ => by simp [hk])
    · have ih := FA_below n q (u := u) (b := b)
      simp only [FA, ih, show ¬ n < j by omega, decide_false, Bool.false_eq_true, if_false]

structure E1 where
  v : V
  ws : Mem
  nx : Nat
  inf : Info
def dstOf (ops : Array Oper) (k : Nat) : Option Tmp := (ops[k]?).bind (·.dst)
def tmP (ops : Array Oper) (tm : List V) (ev : Nat → E1) (L : Nat → Bool) : Nat → List V
  | 0 => tm
  | n + 1 => if L n then setTm (tmP ops tm ev L n) (dstOf ops n) (ev n).v else tmP ops tm ev L n
def wsP (ev : Nat → E1) (L : Nat → Bool) : Nat → Mem
  | 0 => []
  | n + 1 => if L n then (ev n).ws ++ wsP ev L n else wsP ev L n
def nxP (nx : Nat) (ev : Nat → E1) : Nat → Nat
  | 0 => nx
  | n + 1 => (ev n).nx
def stP (ops : Array Oper) (st : St) (ev : Nat → E1) (n : Nat) : St := { st with tm := tmP ops st.tm ev (fun _ => true) n, mem := wsP ev (fun _ => true) n ++ st.mem, nx := nxP st.nx ev n }

theorem setTm_get (tm : List V) (d : Option Tmp) (v : V) (t : Nat) : (setTm tm d v)[t]? = (if d = some t ∧ t < tm.length then some v else none).or tm[t]? := by
  cases d with
  | none => simp [setTm]
  | some d =>
    simp only [setTm, Option.some.injEq]
    by_cases h : d = t
    · subst h
      by_cases q : d < tm.length
      · simp [q]
      · simp [q]
    · simp [h]
theorem tmP_len (ops : Array Oper) (tm : List V) (ev : Nat → E1) (L : Nat → Bool) : ∀ n, (tmP ops tm ev L n).length = tm.length
  | 0 => rfl
  | n + 1 => by
    have ih := tmP_len ops tm ev L n
    simp only [tmP]
    split
    · cases dstOf ops n <;> simp [setTm, ih]
    · exact ih
def uT (ops : Array Oper) (tm : List V) (ev : Nat → E1) (t : Nat) (k : Nat) : Option V := if dstOf ops k = some t ∧ t < tm.length then some (ev k).v else none
theorem tmP_get (ops : Array Oper) (tm : List V) (ev : Nat → E1) (L : Nat → Bool) (t : Nat) : ∀ n, (tmP ops tm ev L n)[t]? = FA L (uT ops tm ev t) tm[t]? n
  | 0 => rfl
  | n + 1 => by
    have ih := tmP_get ops tm ev L t n
    simp only [tmP, FA]
    split
    · rw [setTm_get, tmP_len, ih, uT]
    · exact ih
theorem wsP_get (ev : Nat → E1) (L : Nat → Bool) (id : Nat) : ∀ n, (wsP ev L n).get id = FA L (fun k => (ev k).ws.get id) none n
  | 0 => rfl
  | n + 1 => by
    have ih := wsP_get ev L id n
    simp only [wsP, FA]
    split
    · rw [Mem.get_append, ih]
    · exact ih
theorem uT_ne {ops : Array Oper} {tm : List V} {ev : Nat → E1} {t k : Nat} (h : uT ops tm ev t k ≠ none) : dstOf ops k = some t := by
  unfold uT at h
  split at h
  · rename_i q; exact q.1
  · exact absurd rfl h
theorem sub_get (m : Mem) (l : List Nat) (id : Nat) (b : Blk) (h : (m.sub l).get id = some b) : id ∈ l ∧ m.get id = some b := by
  have h2 := get_filter (fun i => l.contains i) m id b h
  refine ⟨?_, h2⟩
  have : id ∈ (m.sub l).map (·.1) := get_keys (by rw [h]; simp)
  simp only [Mem.sub, List.mem_map, List.mem_filter] at this
  obtain ⟨p, ⟨_, h3⟩, rfl⟩ := this
  simpa using h3

section
variable {P : Program} {ct : Ct} {lt : Lt} {ρ : Env} {σ : As}

def GoodE (P : Program) (ct : Ct) (lt : Lt) (ρ : Env) (M : Nat) (ops : Array Oper) (st : St) (k : Nat) (e : E1) : Prop :=
  e.inf.wr = e.ws.map (·.1) ∧ ∃ o, ops[k]? = some o ∧ ((wants ops st.tm o = some false ∧ e.v = .tup [] ∧ e.ws = [] ∧ e.nx = st.nx) ∨
    (wants ops st.tm o = some true ∧ e.inf.rd = sees st.mem (opV st.tm) o ∧ ∃ n, n < M ∧ ∃ q0 : OpR, (oper P ct lt n o (opV st.tm) (st.mem.sub (sees st.mem (opV st.tm) o)) st.nx).res ρ q0 ∧ e.ws = q0.2.1 ∧ e.nx = q0.2.2 ∧ ∀ (σ : As) (u : Value), q0.1.den ρ σ u → e.v.den ρ σ u))

theorem tmP_congr {ops : Array Oper} {tm : List V} {ev ev' : Nat → E1} {L : Nat → Bool} : ∀ n, (∀ k, k < n → ev k = ev' k) → tmP ops tm ev L n = tmP ops tm ev' L n
  | 0, _ => rfl
  | n + 1, h => by simp only [tmP, tmP_congr n (fun k hk => h k (by omega)), h n (by omega)]
theorem wsP_congr {ev ev' : Nat → E1} {L : Nat → Bool} : ∀ n, (∀ k, k < n → ev k = ev' k) → wsP ev L n = wsP ev' L n
  | 0, _ => rfl
  | n + 1, h => by simp only [wsP, wsP_congr n (fun k hk => h k (by omega)), h n (by omega)]
theorem stP_congr {ops : Array Oper} {st : St} {ev ev' : Nat → E1} (n : Nat) (h : ∀ k, k < n → ev k = ev' k) : stP ops st ev n = stP ops st ev' n := by
  unfold stP
  rw [tmP_congr n h, wsP_congr n h]
  cases n with
  | zero => rfl
  | succ n => simp only [nxP, h n (by omega)]

theorem draw_run {r : Option Nat} {ops : Array Oper} {st0 s' : St} {M : Nat} : ∀ (m i : Nat) (st : St) (log : List Info) (ev : Nat → E1), (opsDraw P ct lt m r ops i st log).res ρ s' → i ≤ ops.size → st = stP ops st0 ev i →
    log = (List.range i).map (fun k => (ev k).inf) → (∀ k, k < i → GoodE P ct lt ρ M ops (stP ops st0 ev k) k (ev k)) → m ≤ M →
    ∃ ev', (∀ k, k < ops.size → GoodE P ct lt ρ M ops (stP ops st0 ev' k) k (ev' k)) ∧ s' = stP ops st0 ev' ops.size ∧ drawOk ops ((List.range ops.size).map (fun k => (ev' k).inf)) = true
  | 0, i, st, log, ev, h, _, _, _, _, _ => by simp [opsDraw, T.res] at h
  | m + 1, i, st, log, ev, h, hi, hst, hlog, hg, hm => by
    simp only [opsDraw] at h
    split at h
    · rename_i ho
      have : i = ops.size := by
        rcases Nat.lt_or_ge i ops.size with q | q
        · rw [Array.getElem?_eq_getElem q] at ho; simp at ho
        · omega
      subst this
      split at h
      · rename_i hd
        obtain rfl := res_ret h
        exact ⟨ev, hg, hst, by rw [← hlog]; exact hd⟩
      · exact h.elim
    · rename_i o ho
      have hi' : i < ops.size := (Array.getElem?_eq_some_iff.1 ho).1
      have step : ∀ e : E1, GoodE P ct lt ρ M ops st i e → (opsDraw P ct lt m r ops (i + 1) { st with tm := setTm st.tm o.dst e.v, mem := e.ws ++ st.mem, nx := e.nx } (log ++ [e.inf])).res ρ s' →
          ∃ ev', (∀ k, k < ops.size → GoodE P ct lt ρ M ops (stP ops st0 ev' k) k (ev' k)) ∧ s' = stP ops st0 ev' ops.size ∧ drawOk ops ((List.range ops.size).map (fun k => (ev' k).inf)) = true := by
        intro e he h
        have hc : ∀ k, k < i → ev k = (fun k => if k = i then e else ev k) k := fun k hk => by simp [show ¬ k = i by omega]
        refine draw_run m (i + 1) _ _ (fun k => if k = i then e else ev k) h (by omega) ?_ ?_ ?_ (by omega)
        · have e1 := stP_congr (ops := ops) (st := st0) i hc
          have e2 : st = stP ops st0 (fun k => if k = i then e else ev k) i := by rw [← e1]; exact hst
          have e3 : dstOf ops i = o.dst := by simp [dstOf, ho]
          rw [e2]
          simp [stP, tmP, wsP, nxP, e3]
        · rw [hlog, List.range_succ, List.map_append]
          congr 1
          · exact List.map_congr_left (fun k hk => congrArg E1.inf (hc k (List.mem_range.1 hk)))
          · simp
        · intro k hk
          rcases Nat.lt_or_ge k i with q | q
          · rw [← stP_congr k (fun k' hk' => hc k' (by omega))]
            have := hg k q
            simpa [show ¬ k = i by omega] using this
          · obtain rfl : k = i := by omega
            rw [← stP_congr k hc, ← hst]
            simpa using he
      split at h
      · exact h.elim
      · rename_i hw
        exact step ⟨.tup [], [], st.nx, ⟨[], []⟩⟩ ⟨rfl, o, ho, .inl ⟨hw, rfl, rfl, rfl⟩⟩ h
      · rename_i hw
        obtain ⟨q, h1, h2⟩ := T.res_bind h
        obtain ⟨q0, h3, h4, h5⟩ := parted_spec h1
        exact step ⟨q.1, q.2.1, q.2.2, ⟨sees st.mem (opV st.tm) o, q.2.1.map (·.1)⟩⟩ ⟨rfl, o, ho, .inr ⟨hw, rfl, m, by omega, q0, h3, by rw [h4], by rw [h4], h5⟩⟩ h2

/-! ### What the test of a drawn region gives -/
theorem grow_fold {α β : Type} (f : List β → α → β) : ∀ (l : List α) (acc : List β), ∃ t, l.foldl (fun acc o => acc ++ [f acc o]) acc = acc ++ t ∧ t.length = l.length
  | [], acc => ⟨[], by simp, rfl⟩
  | o :: l, acc => by
    obtain ⟨t, h1, h2⟩ := grow_fold f l (acc ++ [f acc o])
    exact ⟨f acc o :: t, by rw [List.foldl_cons, h1]; simp, by simp [h2]⟩
theorem ancs_spec {ops : Array Oper} {j : Nat} {o : Oper} (ho : ops[j]? = some o) : ∃ acc : List (List Nat), acc.length = j ∧ (ancs ops).getD j [] = (o.after.toList.flatMap fun e => if Region.binds .any e then e.on :: acc.getD e.on [] else []) ∧
    ∀ k, k < j → acc.getD k [] = (ancs ops).getD k [] := by
  have hj : j < ops.toList.length := by have := (Array.getElem?_eq_some_iff.1 ho).1; simpa using this
  have hl : ops.toList = ops.toList.take j ++ o :: ops.toList.drop (j + 1) := by
    have e : ops.toList[j] = o := by
      have := (Array.getElem?_eq_some_iff.1 ho).2
      simpa using this
    rw [← e, ← List.drop_eq_getElem_cons hj, List.take_append_drop]
  let f : List (List Nat) → Oper → List Nat := fun acc o => o.after.toList.flatMap fun e => if Region.binds .any e then e.on :: acc.getD e.on [] else []
  obtain ⟨t, h1, h2⟩ := grow_fold f (ops.toList.take j) []
  have hlen : t.length = j := by rw [h2, List.length_take]; omega
  obtain ⟨t2, h3, h4⟩ := grow_fold f (ops.toList.drop (j + 1)) (t ++ [f t o])
  have e : ancs ops = t ++ [f t o] ++ t2 := by
    rw [← h3]
    show List.foldl (fun acc o => acc ++ [f acc o]) [] ops.toList = _
    rw [hl, List.foldl_append, h1, List.foldl_cons]
    simp only [List.nil_append]
    congr 1
    have : (List.take j ops.toList ++ o :: List.drop (j + 1) ops.toList) = ops.toList := hl.symm
    rw [this]
  refine ⟨t, hlen, ?_, fun k hk => ?_⟩
  · rw [e, List.getD_eq_getElem?_getD, List.append_assoc, List.getElem?_append_right (by omega), hlen]
    simp [f]
  · rw [e, List.getD_eq_getElem?_getD, List.getD_eq_getElem?_getD, List.append_assoc, List.getElem?_append_left (by omega)]

structure DrawSpec (ops : Array Oper) (inf : Nat → Info) : Prop where
  on : ∀ (j : Nat) (o : Oper), ops[j]? = some o → ∀ e ∈ o.after, Region.binds .any e = true → e.on < j
  inv : ∀ (j : Nat) (o : Oper), ops[j]? = some o → ∀ x ∈ (ancs ops).getD j [], ∃ e ∈ o.after, Region.binds .any e = true ∧ (x = e.on ∨ x ∈ (ancs ops).getD e.on [])
  apart : ∀ i j, i < j → j < ops.size → i ∉ (ancs ops).getD j [] → ∃ x y, ops[i]? = some x ∧ ops[j]? = some y ∧ x.apart ops y = true ∧ (∀ b ∈ (inf i).wr, b ∉ (inf j).rd) ∧ (∀ b ∈ (inf i).wr, b ∉ (inf j).wr) ∧ (∀ b ∈ (inf j).wr, b ∉ (inf i).rd)
theorem drawOk_spec {ops : Array Oper} {inf : Nat → Info} (h : drawOk ops ((List.range ops.size).map inf) = true) : DrawSpec ops inf := by
  unfold drawOk at h
  simp only [Bool.and_eq_true, List.all_eq_true, List.mem_range, decide_eq_true_eq, Bool.or_eq_true, Bool.not_eq_true', List.contains_eq_mem] at h
  obtain ⟨⟨h1, h2⟩, h3⟩ := h
  have hon : ∀ (j : Nat) (o : Oper), ops[j]? = some o → ∀ e ∈ o.after, Region.binds .any e = true → e.on < j := by
    intro j o ho e he hb
    obtain ⟨acc, a1, a2, a3⟩ := ancs_spec ho
    have hj := (Array.getElem?_eq_some_iff.1 ho).1
    refine (h3 j hj).1 _ ?_
    rw [a2, List.mem_flatMap]
    exact ⟨e, by simpa using he, by simp [hb]⟩
  refine ⟨hon, ?_, ?_⟩
  · intro j o ho x hx
    obtain ⟨acc, a1, a2, a3⟩ := ancs_spec ho
    rw [a2, List.mem_flatMap] at hx
    obtain ⟨e, he, hx⟩ := hx
    have he : e ∈ o.after := by simpa using he
    split at hx
    · rename_i hb
      refine ⟨e, he, hb, ?_⟩
      rw [List.mem_cons, a3 e.on (hon j o ho e he hb)] at hx
      exact hx
    · simp at hx
  · intro i j hij hj hni
    rcases (h3 j hj).2 i hij with hc | hc
    · unfold clash at hc
      simp only [Bool.or_eq_false_iff] at hc
      obtain ⟨c1, c2⟩ := hc
      have e1 : ops[i]? = some ops[i] := Array.getElem?_eq_getElem (by omega)
      have e2 : ops[j]? = some ops[j] := Array.getElem?_eq_getElem hj
      have e3 : ((List.range ops.size).map inf)[i]? = some (inf i) := by simp [show i < ops.size by omega]
      have e4 : ((List.range ops.size).map inf)[j]? = some (inf j) := by simp [hj]
      rw [e1, e2] at c1
      rw [e3, e4] at c2
      simp only [Bool.not_eq_false'] at c1
      simp only [Bool.or_eq_false_iff, meets, List.any_eq_false, List.contains_eq_mem, decide_eq_true_eq, List.mem_append, not_or] at c2
      exact ⟨_, _, e1, e2, c1, fun b hb => (c2.1 b hb).1, fun b hb => (c2.1 b hb).2, fun b hb hr => c2.2 b hr hb⟩
    · exact absurd hc hni
end
end Go.Proofs.YtinfmmofcadjgaaGreat
/- The symbolic executor's trees made flat: loops with their ways on and out; what has to be shown of them. -/
namespace Go.Proofs.YtinfmmofcadjgaaGreat
open Go.RowKit

inductive TT (α : Type) where
  | ret (a : α)
  | ite (b : B) (t e : TT α)
  | ob (o : Ob) (t : TT α)
  | stuck (why : String)
  | loop (d N : Nat) (init : Asg) (body : TT α)      -- d: how many loops stand around it; variables from N on
  | next (d : Nat) (m : Asg)                          -- on to the next round of the loop with number d
def T.norm {β α : Type} (d : Nat) (t : T β) (k : β → TT α) : TT α :=
  match t with
  | .ret a => k a
  | .ite b t e => .ite b (T.norm d t k) (T.norm d e k)
  | .ob o t => .ob o (T.norm d t k)
  | .stuck s => .stuck s
  | .loop N pat init body kk => .loop d N init (T.norm (d + 1) body (fun p => match p.1 with
      | .normal => match matchSt N pat p.2 with | some m => .next d m | none => .stuck "loop: slots"
      | _ => T.norm (d + 1) (kk p) k))
/-- The numbers of an assignment's variables are small. -/
def Asg.small (m : Asg) : Bool := (m.i.all fun p => Nat.blt p.1 1000) && (m.b.all fun p => Nat.blt p.1 1000) && (m.d.all fun p => Nat.blt p.1 1000)
/-- The variables are numbered upwards on each way. -/
def TT.low {α : Type} (c : Nat) : TT α → Bool
  | .ret _ => true
  | .ite b t e => B.low c b && TT.low c t && TT.low c e
  | .ob (.tru b) t => B.low c b && TT.low c t
  | .stuck _ => true
  | .loop _ N init body => Nat.ble c N && (init.i.all fun p => Nat.blt p.1 1000 && E.low c p.2) && (init.b.all fun p => Nat.blt p.1 1000 && B.low c p.2) && (init.d.all fun p => Nat.blt p.1 1000 && X.low c p.2) && TT.low (N + 1000) body
  | .next _ m => m.small
/-- Wherever the run comes to, K holds; at the begin of a next round, J. -/
def TT.sat {α : Type} (t : TT α) (ρ : Env) (K : Env → α → Prop) (J : Nat → LV → Prop) : Prop :=
  match t with
  | .ret a => K ρ a
  | .ite b t e => (b.ev ρ = true → TT.sat t ρ K J) ∧ (b.ev ρ = false → TT.sat e ρ K J)
  | .ob o t => o.ok ρ ∧ TT.sat t ρ K J
  | .stuck _ => False
  | .loop d N init body => ∃ n, Nat.rec (motive := fun _ => LV → Prop) (fun _ => False) (fun _ I v => TT.sat body (ρ.put N v) K (fun d' v' => if d' = d then I v' else J d' v')) n (init.val ρ)
  | .next d m => J d (m.val ρ)
section
variable {α : Type} {K : Env → α → Prop} {J : Nat → LV → Prop} {ρ : Env}
theorem TT.sat_ret {a : α} : (TT.ret a).sat ρ K J = K ρ a := rfl
theorem TT.sat_ite {b : B} {t e : TT α} : (TT.ite b t e).sat ρ K J = ((b.ev ρ = true → t.sat ρ K J) ∧ (b.ev ρ = false → e.sat ρ K J)) := rfl
theorem TT.sat_ob {o : Ob} {t : TT α} : (TT.ob o t).sat ρ K J = (o.ok ρ ∧ t.sat ρ K J) := rfl
theorem TT.sat_stuck {s : String} : (TT.stuck s : TT α).sat ρ K J = False := rfl
theorem TT.sat_next {d : Nat} {m : Asg} : (TT.next d m : TT α).sat ρ K J = J d (m.val ρ) := rfl
theorem put_i (N : Nat) (v : LV) (k : Nat) : (ρ.put N v).i k = if k < N then ρ.i k else v.i (k - N) := rfl
theorem put_b (N : Nat) (v : LV) (k : Nat) : (ρ.put N v).b k = if k < N then ρ.b k else v.b (k - N) := rfl
theorem put_d (N : Nat) (v : LV) (k : Nat) : (ρ.put N v).d k = if k < N then ρ.d k else v.d (k - N) := rfl
theorem put_fi (N : Nat) (v : LV) : (ρ.put N v).fi = ρ.fi := rfl
theorem put_fb (N : Nat) (v : LV) : (ρ.put N v).fb = ρ.fb := rfl
theorem put_fd (N : Nat) (v : LV) : (ρ.put N v).fd = ρ.fd := rfl
theorem val_i (m : Asg) (j : Nat) : (m.val ρ).i j = match aget m.i j with | some e => e.ev ρ | none => 0 := rfl
theorem val_b (m : Asg) (j : Nat) : (m.val ρ).b j = match aget m.b j with | some e => e.ev ρ | none => false := rfl
theorem val_d (m : Asg) (j : Nat) : (m.val ρ).d j = match aget m.d j with | some e => e.ev ρ | none => [] := rfl
end
/-- A loop: what holds at the begin of each round, and what falls. -/
theorem TT.sat_mono {α : Type} {K : Env → α → Prop} {t : TT α} : ∀ {ρ : Env} {J J' : Nat → LV → Prop}, (∀ d v, J d v → J' d v) → t.sat ρ K J → t.sat ρ K J' := by
  induction t with
  | ret a => intro ρ J J' _ h; exact h
  | ite b t e i1 i2 => intro ρ J J' hj h; exact ⟨fun q => i1 hj (h.1 q), fun q => i2 hj (h.2 q)⟩
  | ob o t ih => intro ρ J J' hj h; exact ⟨h.1, ih hj h.2⟩
  | stuck s => intro ρ J J' _ h; exact h
  | next d m => intro ρ J J' hj h; exact hj _ _ h
  | loop d N init body ih =>
    intro ρ J J' hj h
    obtain ⟨n, h⟩ := h
    refine ⟨n, ?_⟩
    revert h
    generalize init.val ρ = v
    induction n generalizing v with
    | zero => exact fun h => h
    | succ n ihn =>
      intro h
      refine ih (fun d' v' => ?_) h
      by_cases e : d' = d
      · simp only [e, if_true]; exact ihn v'
      · simp only [e, if_false]; exact hj d' v'
theorem TT.sat_loop {α : Type} {d N : Nat} {init : Asg} {body : TT α} {ρ : Env} {K : Env → α → Prop} {J : Nat → LV → Prop} (I : LV → Prop) (μ : LV → Nat) (h0 : I (init.val ρ))
    (hs : ∀ v, I v → body.sat (ρ.put N v) K (fun d' v' => if d' = d then I v' ∧ μ v' < μ v else J d' v')) : (TT.loop d N init body).sat ρ K J := by
  refine ⟨μ (init.val ρ) + 1, ?_⟩
  have key : ∀ n v, I v → μ v < n → Nat.rec (motive := fun _ => LV → Prop) (fun _ => False) (fun _ I v => TT.sat body (ρ.put N v) K (fun d' v' => if d' = d then I v' else J d' v')) n v := by
    intro n
    induction n with
    | zero => intro v _ h; omega
    | succ n ih =>
      intro v hv hn
      refine TT.sat_mono (fun d' v' h => ?_) (hs v hv)
      by_cases e : d' = d
      · simp only [e, if_true] at h ⊢; exact ih v' h.1 (by omega)
      · simp only [e, if_false] at h ⊢; exact h
  exact key _ _ h0 (Nat.lt_succ_self _)

theorem aget_all {α : Type} {p : Nat × α → Bool} : ∀ {l : List (Nat × α)} {j : Nat} {e : α}, l.all p = true → aget l j = some e → p (j, e) = true
  | (k, x) :: l, j, e, h, q => by
    simp only [List.all_cons, Bool.and_eq_true] at h
    simp only [aget] at q
    split at q
    · rename_i hk
      simp only [beq_iff_eq] at hk
      simp only [Option.some.injEq] at q
      subst hk q
      exact h.1
    · exact aget_all h.2 q

/-! ### What a flat tree comes to, in an environment that knows how its loops end -/
inductive Out (α : Type) where | val (a : α) | nxt (d : Nat) (m : Asg) (ρ : Env)
theorem Asg.fits_of {m : Asg} {ρ : Env} {v : LV} (h : m.small = true) (hi : ∀ j, j < 1000 → v.i j = (m.val ρ).i j) (hb : ∀ j, j < 1000 → v.b j = (m.val ρ).b j) (hd : ∀ j, j < 1000 → v.d j = (m.val ρ).d j) : m.fits ρ v := by
  simp only [Asg.small, Bool.and_eq_true] at h
  refine ⟨fun j e q => ?_, fun j e q => ?_, fun j e q => ?_⟩
  · rw [hi j (blt_lt (aget_all h.1.1 q))]; simp [Asg.val, q]
  · rw [hb j (blt_lt (aget_all h.1.2 q))]; simp [Asg.val, q]
  · rw [hd j (blt_lt (aget_all h.2 q))]; simp [Asg.val, q]
inductive TRounds {α : Type} (N d : Nat) (R : Env → Out α → Prop) (ρ : Env) : LV → Out α → Prop
  | last {v o} : ρ.put N v = ρ → R ρ o → (∀ m ρ', o ≠ .nxt d m ρ') → TRounds N d R ρ v o
  | next {v m ρ1 v' o} : R (ρ.put N v) (.nxt d m ρ1) → m.fits ρ1 v' → TRounds N d R ρ v' o → TRounds N d R ρ v o
def TT.res {α : Type} (t : TT α) (ρ : Env) (x : Out α) : Prop :=
  match t with
  | .ret a => x = .val a
  | .ite b t e => if b.ev ρ then TT.res t ρ x else TT.res e ρ x
  | .ob o t => o.ok ρ ∧ TT.res t ρ x
  | .stuck _ => False
  | .next d m => x = .nxt d m ρ
  | .loop d N init body => ∃ v, init.fits ρ v ∧ TRounds N d (fun ρ' o => TT.res body ρ' o) ρ v x

theorem Agree.refl (N : Nat) (ρ : Env) : Agree N ρ ρ := ⟨fun _ _ => rfl, fun _ _ => rfl, fun _ _ => rfl, rfl, rfl, rfl, rfl⟩
theorem Agree.symm {N : Nat} {ρ ρ' : Env} (h : Agree N ρ ρ') : Agree N ρ' ρ := ⟨fun k q => (h.i k q).symm, fun k q => (h.b k q).symm, fun k q => (h.d k q).symm, h.fi.symm, h.fb.symm, h.fd.symm, h.w.symm⟩
theorem Agree.trans {N : Nat} {a b c : Env} (h : Agree N a b) (k : Agree N b c) : Agree N a c := ⟨fun j q => (h.i j q).trans (k.i j q), fun j q => (h.b j q).trans (k.b j q), fun j q => (h.d j q).trans (k.d j q), h.fi.trans k.fi, h.fb.trans k.fb, h.fd.trans k.fd, h.w.trans k.w⟩
theorem Agree.less {N M : Nat} {ρ ρ' : Env} (h : Agree N ρ ρ') (q : M ≤ N) : Agree M ρ ρ' := ⟨fun k e => h.i k (by omega), fun k e => h.b k (by omega), fun k e => h.d k (by omega), h.fi, h.fb, h.fd, h.w⟩
/-- If all ways are as is wished, there is an environment that knows how the loops end. -/
theorem TT.res_of_sat {α : Type} {K : Env → α → Prop} {t : TT α} : ∀ {c : Nat} {ρ : Env} {J : Nat → LV → Prop}, t.low c = true → t.sat ρ K J →
    ∃ ρ' o, Agree c ρ ρ' ∧ t.res ρ' o ∧ (∀ a, o = .val a → K ρ' a) ∧ ∀ d m ρ1, o = .nxt d m ρ1 → m.small = true ∧ J d (m.val ρ1) := by
  induction t with
  | ret a => intro c ρ J _ h; exact ⟨ρ, .val a, Agree.refl _ _, rfl, fun x e => by simp only [Out.val.injEq] at e; subst e; exact h, fun d m ρ1 e => by cases e⟩
  | next d m => intro c ρ J hl h; exact ⟨ρ, .nxt d m ρ, Agree.refl _ _, rfl, (fun x e => by cases e), fun d m ρ1 e => by simp only [Out.nxt.injEq] at e; obtain ⟨rfl, rfl, rfl⟩ := e; exact ⟨hl, h⟩⟩
  | stuck s => intro c ρ J _ h; exact h.elim
  | ite b t e i1 i2 =>
    intro c ρ J hl h
    simp only [TT.low, Bool.and_eq_true] at hl
    cases hb : b.ev ρ with
    | true =>
      obtain ⟨ρ', o, h1, h2, h3⟩ := i1 hl.1.2 (h.1 hb)
      refine ⟨ρ', o, h1, ?_, h3⟩
      simp only [TT.res, ← B.low_ev h1 b hl.1.1, hb, if_true]
      exact h2
    | false =>
      obtain ⟨ρ', o, h1, h2, h3⟩ := i2 hl.2 (h.2 hb)
      refine ⟨ρ', o, h1, ?_, h3⟩
      simp only [TT.res, ← B.low_ev h1 b hl.1.1, hb, Bool.false_eq_true, if_false]
      exact h2
  | ob o t ih =>
    intro c ρ J hl h
    cases o with
    | tru b =>
      simp only [TT.low, Bool.and_eq_true] at hl
      obtain ⟨ρ', o, h1, h2, h3⟩ := ih hl.2 h.2
      refine ⟨ρ', o, h1, ⟨?_, h2⟩, h3⟩
      show b.ev ρ' = true
      rw [← B.low_ev h1 b hl.1]
      exact h.1
  | loop d N init body ih =>
    intro c ρ J hl h
    simp only [TT.low, Bool.and_eq_true] at hl
    obtain ⟨⟨⟨⟨l1, l2⟩, l3⟩, l4⟩, l5⟩ := hl
    have l1 : c ≤ N := Nat.le_of_ble_eq_true l1
    obtain ⟨n, h⟩ := h
    -- the rounds
    have key : ∀ n (w : LV), Nat.rec (motive := fun _ => LV → Prop) (fun _ => False) (fun _ I v => TT.sat body (ρ.put N v) K (fun d' v' => if d' = d then I v' else J d' v')) n w →
        ∃ ρ' o v, Agree N ρ ρ' ∧ (∀ j, j < 1000 → v.i j = w.i j) ∧ (∀ j, j < 1000 → v.b j = w.b j) ∧ (∀ j, j < 1000 → v.d j = w.d j) ∧ TRounds N d (fun ρ' o => TT.res body ρ' o) ρ' v o ∧ (∀ a, o = .val a → K ρ' a) ∧ ∀ d m ρ1, o = .nxt d m ρ1 → m.small = true ∧ J d (m.val ρ1) := by
      intro n
      induction n with
      | zero => intro w h; exact h.elim
      | succ n ihn =>
        intro w h
        obtain ⟨ρ1, o, a1, r1, k1, j1⟩ := ih l5 h
        have a0 : Agree N ρ ρ1 := ((Env.put_agree ρ N w).symm).trans (a1.less (by omega))
        have hv : ρ.put N (ρ1.from N) = ρ1 := Env.put_from a0
        have e1 : ∀ j, j < 1000 → (ρ1.from N).i j = w.i j := fun j hj => by have := a1.i (N + j) (by omega); simp only [Env.put, show ¬ N + j < N by omega, if_false, Nat.add_sub_cancel_left] at this; exact this.symm
        have e2 : ∀ j, j < 1000 → (ρ1.from N).b j = w.b j := fun j hj => by have := a1.b (N + j) (by omega); simp only [Env.put, show ¬ N + j < N by omega, if_false, Nat.add_sub_cancel_left] at this; exact this.symm
        have e3 : ∀ j, j < 1000 → (ρ1.from N).d j = w.d j := fun j hj => by have := a1.d (N + j) (by omega); simp only [Env.put, show ¬ N + j < N by omega, if_false, Nat.add_sub_cancel_left] at this; exact this.symm
        by_cases hn : ∃ m ρ2, o = .nxt d m ρ2
        · obtain ⟨m, ρm, rfl⟩ := hn
          obtain ⟨hm, hu⟩ := j1 d m ρm rfl
          simp only [if_true] at hu
          obtain ⟨ρ2, o2, v2, b1, b2, b3, b4, b5, b6, b7⟩ := ihn _ hu
          refine ⟨ρ2, o2, ρ1.from N, b1, e1, e2, e3, .next (m := m) (ρ1 := ρm) ?_ (Asg.fits_of hm b2 b3 b4) b5, b6, b7⟩
          rw [Env.put_congr b1.symm, hv]
          exact r1
        · refine ⟨ρ1, o, ρ1.from N, a0, e1, e2, e3, .last ?_ r1 (fun m ρ' e => hn ⟨m, ρ', e⟩), k1, fun d' m ρm e => ?_⟩
          · rw [Env.put_congr a0.symm]; exact hv
          · obtain ⟨hm, this⟩ := j1 d' m ρm e
            have hd : ¬ d' = d := fun q => hn ⟨m, ρm, by rw [e, q]⟩
            exact ⟨hm, by simpa only [hd, if_false] using this⟩
    obtain ⟨ρ', o, v, a1, e1, e2, e3, r, k1, j1⟩ := key n _ h
    refine ⟨ρ', o, a1.less l1, ⟨v, ?_, r⟩, k1, j1⟩
    have a2 := a1.less l1
    refine ⟨fun j e q => ?_, fun j e q => ?_, fun j e q => ?_⟩
    · have := aget_all l2 q
      simp only [Bool.and_eq_true] at this
      rw [e1 j (blt_lt this.1), ← E.low_ev a2 e this.2]
      simp [Asg.val, q]
    · have := aget_all l3 q
      simp only [Bool.and_eq_true] at this
      rw [e2 j (blt_lt this.1), ← B.low_ev a2 e this.2]
      simp [Asg.val, q]
    · have := aget_all l4 q
      simp only [Bool.and_eq_true] at this
      rw [e3 j (blt_lt this.1), ← X.low_ev a2 e this.2]
      simp [Asg.val, q]

/-- What a flat tree comes to, the tree comes to. -/
theorem norm_nxt {β α : Type} {t : T β} : ∀ {d : Nat} {k : β → TT α} {ρ : Env} {l : Nat} {m : Asg} {ρ1 : Env}, (T.norm d t k).res ρ (.nxt l m ρ1) → l < d → ∃ x ρ', (k x).res ρ' (.nxt l m ρ1) := by
  induction t with
  | ret a => intro d k ρ l m ρ1 h _; exact ⟨a, ρ, h⟩
  | ite b t e i1 i2 =>
    intro d k ρ l m ρ1 h hl
    simp only [T.norm, TT.res] at h
    split at h
    · exact i1 h hl
    · exact i2 h hl
  | ob o t ih => intro d k ρ l m ρ1 h hl; exact ih h.2 hl
  | stuck s => intro d k ρ l m ρ1 h _; exact h.elim
  | loop N pat init body kk ih1 ih2 =>
    intro d k ρ l m ρ1 h hl
    obtain ⟨v0, hf, hr⟩ := h
    clear hf
    generalize ho : Out.nxt l m ρ1 = o at hr
    induction hr with
    | last _ hr _ =>
      subst ho
      obtain ⟨p, ρ', hp⟩ := ih1 hr (by omega)
      have : ∀ q : Ex × St, (match q.1 with | .normal => (match matchSt N pat q.2 with | some m => TT.next d m | none => TT.stuck "loop: slots") | _ => T.norm (d + 1) (kk q) k).res ρ' (.nxt l m ρ1) → ∃ x ρ', (k x).res ρ' (.nxt l m ρ1) := by
        intro q hq
        split at hq
        · split at hq
          · simp only [TT.res, Out.nxt.injEq] at hq; omega
          · exact hq.elim
        · exact ih2 q hq (by omega)
      exact this p hp
    | next _ _ _ ih => exact ih ho
theorem res_of_norm {β α : Type} {t : T β} : ∀ {d : Nat} {k : β → TT α} {ρ : Env} {o : Out α}, (∀ x ρ l m ρ1, (k x).res ρ (.nxt l m ρ1) → l < d) → (T.norm d t k).res ρ o → ∃ x, t.res ρ x ∧ (k x).res ρ o := by
  induction t with
  | ret a => intro d k ρ o _ h; exact ⟨a, rfl, h⟩
  | ite b t e i1 i2 =>
    intro d k ρ o hk h
    simp only [T.norm, TT.res] at h
    split at h
    · rename_i hb
      obtain ⟨x, h1, h2⟩ := i1 hk h
      exact ⟨x, by simp only [T.res, hb, if_true]; exact h1, h2⟩
    · rename_i hb
      obtain ⟨x, h1, h2⟩ := i2 hk h
      exact ⟨x, by simp only [T.res, if_neg hb]; exact h1, h2⟩
  | ob o t ih =>
    intro d k ρ o hk h
    obtain ⟨x, h1, h2⟩ := ih hk h.2
    exact ⟨x, ⟨h.1, h1⟩, h2⟩
  | stuck s => intro d k ρ o _ h; exact h.elim
  | loop N pat init body kk ih1 ih2 =>
    intro d k ρ o hk h
    obtain ⟨v0, hf, hr⟩ := h
    have hfree : ∀ (q : Ex × St) ρ l m ρ1, (T.norm (d + 1) (kk q) k).res ρ (.nxt l m ρ1) → l < d := by
      intro q ρ l m ρ1 hq
      obtain ⟨x, _, hx⟩ := ih2 q (fun x ρ l m ρ1 hx => Nat.lt_succ_of_lt (hk x ρ l m ρ1 hx)) hq
      exact hk x ρ l m ρ1 hx
    have hround : ∀ (ρ' : Env) (o' : Out α), (T.norm (d + 1) body (fun p => match p.1 with | .normal => (match matchSt N pat p.2 with | some m => TT.next d m | none => TT.stuck "loop: slots") | _ => T.norm (d + 1) (kk p) k)).res ρ' o' →
        ∃ p, body.res ρ' p ∧ ((p.1 = .normal ∧ ∃ m, matchSt N pat p.2 = some m ∧ o' = .nxt d m ρ') ∨ (p.1 ≠ .normal ∧ (T.norm (d + 1) (kk p) k).res ρ' o')) := by
      intro ρ' o' h
      obtain ⟨p, h1, h2⟩ := ih1 (fun q ρ l m ρ1 hq => by
        split at hq
        · split at hq
          · simp only [TT.res, Out.nxt.injEq] at hq; omega
          · exact hq.elim
        · exact Nat.lt_succ_of_lt (hfree q ρ l m ρ1 hq)) h
      refine ⟨p, h1, ?_⟩
      cases hp : p.1 with
      | normal =>
        rw [hp] at h2
        simp only at h2
        split at h2
        · rename_i m hm
          exact .inl ⟨rfl, m, hm, h2⟩
        · exact h2.elim
      | exit id => rw [hp] at h2; exact .inr ⟨by simp, h2⟩
      | goto id => rw [hp] at h2; exact .inr ⟨by simp, h2⟩
      | ret => rw [hp] at h2; exact .inr ⟨by simp, h2⟩
    have key : ∃ p, Rounds N pat (fun ρ' p => T.res body ρ' p) ρ v0 p ∧ (T.norm (d + 1) (kk p) k).res ρ o := by
      clear hf
      induction hr with
      | last hv hr hne =>
        obtain ⟨p, h1, h2⟩ := hround _ _ hr
        rcases h2 with ⟨_, m, _, e⟩ | ⟨h2, h3⟩
        · exact absurd e (hne _ _)
        · exact ⟨p, .last hv h1 h2, h3⟩
      | next hr hfit _ ih =>
        obtain ⟨p, h1, h2⟩ := ih
        obtain ⟨q, h3, h4⟩ := hround _ _ hr
        rcases h4 with ⟨h4, m, hm, e⟩ | ⟨_, h5⟩
        · simp only [Out.nxt.injEq, true_and] at e
          obtain ⟨rfl, rfl⟩ := e
          exact ⟨p, .next h3 h4 hm hfit h1, h2⟩
        · have := hfree q _ d _ _ h5
          omega
    obtain ⟨p, h1, h2⟩ := key
    obtain ⟨x, h3, h4⟩ := ih2 p (fun x ρ l m ρ1 hx => Nat.lt_succ_of_lt (hk x ρ l m ρ1 hx)) h2
    exact ⟨x, ⟨v0, p, hf, h1, h3⟩, h4⟩

/-- The whole: what is shown of the flat tree holds of a way that the tree comes to. -/
theorem T.res_of_flat {β : Type} {t : T β} {tr : TT β} (hn : T.norm 0 t TT.ret = tr) {c : Nat} (hl : tr.low c = true) {ρ : Env} {K : Env → β → Prop} (hs : tr.sat ρ K (fun _ _ => False)) :
    ∃ ρ' x, Agree c ρ ρ' ∧ t.res ρ' x ∧ K ρ' x := by
  obtain ⟨ρ', o, h1, h2, h3, h4⟩ := TT.res_of_sat hl hs
  rw [← hn] at h2
  obtain ⟨x, h5, h6⟩ := res_of_norm (fun x ρ l m ρ1 h => by simp [TT.res] at h) h2
  exact ⟨ρ', x, h1, h5, h3 x h6⟩
end Go.Proofs.YtinfmmofcadjgaaGreat
/- The symbolic executor is right: regions that draw their order (the invariant); everything together. -/
namespace Go.Proofs.YtinfmmofcadjgaaGreat
open Go.RowKit

section
variable {P : Program} {ct : Ct} {lt : Lt} {ρ : Env} {σ : As}

theorem Step.congr {W W' : World} {ws ws' : Mem} {σ' : As} (h : Step ρ σ W ws σ' W') (e : ∀ i, ws'.get i = ws.get i) : Step ρ σ W ws' σ' W' :=
  ⟨h.ext, h.os, h.tape, h.output, h.size, fun k hk hn => h.frame k hk (fun i b hi => hn i b (by rw [e]; exact hi)), h.new, h.inj, fun i b hi => h.blk i b (by rw [← e]; exact hi), h.keep⟩
theorem RelM.sub {m m' : Mem} {W : World} (h : RelM ρ σ m W) (e : ∀ i b, m'.get i = some b → m.get i = some b) : RelM ρ σ m' W :=
  ⟨fun id b hb => h.blk id b (e _ _ hb), h.inj, h.lt, h.above, h.base⟩

theorem DL.len_get {α : Type} {R : α → Value → Prop} {l l' : List α} {vs : List Value} (h : DL R l vs) (e : l' = l) : DL R l' vs := by rw [e]; exact h
theorem looks_operand {ops : Array Oper} {o : Oper} {t : Tmp} (h : Operand.tmp t ∈ o.op.operands) : t ∈ o.looksAt ops := by
  unfold Oper.looksAt
  rw [List.mem_append, List.mem_filterMap]
  exact .inl ⟨.tmp t, by simpa using h, rfl⟩
theorem looks_guard {ops : Array Oper} {o : Oper} {g : Nat} {w : Bool} {t : Tmp} (h : o.guard = some (g, w)) (hd : (ops[g]?).bind (·.dst) = some t) : t ∈ o.looksAt ops := by
  unfold Oper.looksAt
  rw [h, List.mem_append]
  refine .inr ?_
  show t ∈ ((ops[g]?).bind (·.dst)).toList
  rw [hd]
  simp

structure DInv (P : Program) (ρ : Env) (ops : Array Oper) (st0 : St) (ev : Nat → E1) (σ0 : As) (W0 : World) (L : Nat → Bool) (σ : As) (a : Act) (W : World) : Prop where
  tm : DL (V.den ρ σ) (tmP ops st0.tm ev L ops.size) a.tmps.toList
  step : Step ρ σ0 W0 (wsP ev L ops.size) σ W
  new : ∀ i x, σ i = some x → σ0 i = some x ∨ ∃ k, k < ops.size ∧ L k = true ∧ nxP st0.nx ev k ≤ i ∧ i < nxP st0.nx ev (k + 1)
  df : Dfr σ st0.df a.defers

theorem nxP_mono {nx : Nat} {ev : Nat → E1} {n : Nat} (h : ∀ k, k < n → nxP nx ev k ≤ nxP nx ev (k + 1)) : ∀ (j i : Nat), i ≤ j → j ≤ n → nxP nx ev i ≤ nxP nx ev j
  | 0, i, h1, _ => by obtain rfl : i = 0 := by omega
                      exact Nat.le_refl _
  | j + 1, i, h1, h2 => by
    rcases Nat.lt_or_ge j i with q | q
    · obtain rfl : i = j + 1 := by omega
      exact Nat.le_refl _
    · exact Nat.le_trans (nxP_mono h j i q (by omega)) (h j (by omega))
theorem good_nx {M : Nat} {ops : Array Oper} {st0 : St} {ev : Nat → E1} {k : Nat} (h : GoodE P ct lt ρ M ops (stP ops st0 ev k) k (ev k)) : nxP st0.nx ev k ≤ nxP st0.nx ev (k + 1) := by
  obtain ⟨_, o, _, h | ⟨_, _, n, _, q0, h1, _, h3, _⟩⟩ := h
  · simp only [nxP]
    rw [h.2.2.2]
    exact Nat.le_refl _
  · have := (mono (P := P) (ct := ct) (lt := lt) (ρ := ρ) n).oper _ _ _ _ _ h1
    simp only [nxP]
    rw [h3]
    exact this

theorem draw_step {M : Nat} {ops : Array Oper} {st0 : St} {ev : Nat → E1} {σ0 : As} {a : Act} {W0 W : World} (hoper : ∀ n, n < M → OperOk P ρ ct lt n) (hg : ∀ k, k < ops.size → GoodE P ct lt ρ M ops (stP ops st0 ev k) k (ev k))
    (hd : DrawSpec ops (fun k => (ev k).inf)) (hr0 : RelM ρ σ0 st0.mem W0) (hfr : Fr st0.nx (nxP st0.nx ev ops.size) σ0) {L : Nat → Bool} (hinv : DInv P ρ ops st0 ev σ0 W0 L σ a W)
    (hcl : ∀ i, L i = true → ∀ x ∈ (ancs ops).getD i [], L x = true) {j : Nat} (hj : j < ops.size) (hlj : L j = false) (hanc : ∀ x ∈ (ancs ops).getD j [], L x = true) {ro : Option Nat} {K : Act → World → Prop} {Q : Exit → Act → World → Prop}
    (hK : ∀ σ' a' W', DInv P ρ ops st0 ev σ0 W0 (fun k => if k = j then true else L k) σ' a' W' → K a' W') : wpOpIn (FR ro) 0 P ops Q j K a W := by
  obtain ⟨hwr, o, ho, hcase⟩ := hg j hj
  have hmono := nxP_mono (fun k hk => good_nx (hg k hk))
  -- who is not apart from j has come before it just when its number is lower
  have hind : ∀ k, k < ops.size → k ≠ j → L k = decide (k < j) ∨ ∃ x, ops[k]? = some x ∧ (∀ d, x.dst = some d → d ∉ o.looksAt ops) ∧ (∀ d, x.dst = some d → o.dst ≠ some d) ∧ (∀ b ∈ (ev k).inf.wr, b ∉ (ev j).inf.rd) ∧ (∀ b ∈ (ev k).inf.wr, b ∉ (ev j).inf.wr) := by
    intro k hk hne
    rcases Nat.lt_or_ge k j with q | q
    · by_cases hin : k ∈ (ancs ops).getD j []
      · left
        rw [hanc k hin]
        simp [q]
      · right
        obtain ⟨x, y, e1, e2, e3, e4, e5, e6⟩ := hd.apart k j q hj hin
        rw [ho] at e2
        simp only [Option.some.injEq] at e2
        subst e2
        obtain ⟨a1, a2, a3⟩ := Oper.apart_spec e3
        exact ⟨x, e1, a1, a2, e4, e5⟩
    · have q : j < k := by omega
      by_cases hin : j ∈ (ancs ops).getD k []
      · left
        have : ¬ k < j := by omega
        simp only [this, decide_false]
        cases hlk : L k with
        | false => rfl
        | true => rw [hcl k hlk j hin] at hlj; cases hlj
      · right
        obtain ⟨x, y, e1, e2, e3, e4, e5, e6⟩ := hd.apart j k q hk hin
        rw [ho] at e1
        simp only [Option.some.injEq] at e1
        subst e1
        obtain ⟨a1, a2, a3⟩ := Oper.apart_spec e3
        exact ⟨y, e2, a3, fun d hd e => a2 d e hd, e6, fun b hb hb' => e5 b hb' hb⟩
  have hslot : ∀ t, t ∈ o.looksAt ops → (tmP ops st0.tm ev L ops.size)[t]? = (stP ops st0 ev j).tm[t]? := by
    intro t ht
    show _ = (tmP ops st0.tm ev (fun _ => true) j)[t]?
    rw [tmP_get, tmP_get, ← FA_below ops.size (Nat.le_of_lt hj)]
    refine FA_congr _ (fun k hk hu => ?_)
    by_cases e : k = j
    · subst e; simp [hlj]
    · rcases hind k hk e with h1 | ⟨x, h1, h2, _⟩
      · exact h1
      · exfalso
        refine h2 t ?_ ht
        have := uT_ne hu
        simpa [dstOf, h1] using this
  have hmem : ∀ id, id ∈ (ev j).inf.rd → (wsP ev L ops.size ++ st0.mem).get id = (stP ops st0 ev j).mem.get id := by
    intro id hid
    show _ = (wsP ev (fun _ => true) j ++ st0.mem).get id
    rw [Mem.get_append, Mem.get_append, wsP_get, wsP_get, ← FA_below ops.size (Nat.le_of_lt hj)]
    congr 1
    refine FA_congr _ (fun k hk hu => ?_)
    by_cases e : k = j
    · subst e; simp [hlj]
    · rcases hind k hk e with h1 | ⟨x, h1, _, _, h2, _⟩
      · exact h1
      · exfalso
        refine h2 id ?_ hid
        rw [(hg k hk).1]
        exact get_keys hu
  have hopv : ∀ x ∈ o.op.operands, opV (tmP ops st0.tm ev L ops.size) x = opV (stP ops st0 ev j).tm x := by
    intro x hx
    cases x with
    | tmp t =>
      simp only [opV, List.getD_eq_getElem?_getD]
      rw [hslot t (looks_operand hx)]
    | _ => rfl
  have hrel := hr0.step hinv.step
  -- what comes out fits the set with j in it
  have htm : ∀ v : V, v = (ev j).v → setTm (tmP ops st0.tm ev L ops.size) o.dst v = tmP ops st0.tm ev (fun k => if k = j then true else L k) ops.size := by
    intro v hv
    refine List.ext_getElem? (fun t => ?_)
    rw [setTm_get, tmP_len, tmP_get, tmP_get, FA_insert ops.size hj hlj]
    · congr 1
      simp [uT, dstOf, ho, hv]
    · intro k h1 h2 h3 h4
      rcases hind k h2 (by omega) with h5 | ⟨x, h5, _, h6, _⟩
      · rw [h5]; simp; omega
      · exfalso
        have e1 := uT_ne h3
        have e2 := uT_ne h4
        refine h6 t (by simpa [dstOf, h5] using e2) (by simpa [dstOf, ho] using e1)
  have hws : ∀ i, (wsP ev (fun k => if k = j then true else L k) ops.size).get i = ((ev j).ws ++ wsP ev L ops.size).get i := by
    intro i
    rw [Mem.get_append, wsP_get, wsP_get, FA_insert ops.size hj hlj]
    intro k h1 h2 h3 h4
    rcases hind k h2 (by omega) with h5 | ⟨x, h5, _, _, _, h6⟩
    · rw [h5]; simp; omega
    · exfalso
      refine h6 i ?_ ?_
      · rw [(hg k h2).1]; exact get_keys h4
      · rw [hwr]; exact get_keys h3
  unfold wpOpIn
  rw [ho]
  simp only
  have hwants : ∀ c, wants ops (stP ops st0 ev j).tm o = some c → Region.wanted o (yielded ops a.tmps) = c := by
    intro c hc
    refine wants_spec ?_ hinv.tm
    rw [← hc]
    unfold wants
    cases hgd : o.guard with
    | none => rfl
    | some p =>
      obtain ⟨g, w⟩ := p
      simp only
      cases hdst : (ops[g]?).bind (·.dst) with
      | none => rfl
      | some d => simp only; rw [hslot d (looks_guard hgd hdst)]
  rcases hcase with ⟨hw, hv, hws0, hnx⟩ | ⟨hw, hrd, n, hn, q0, h1, h2, h3, h4⟩
  · rw [hwants _ hw]
    simp only [Bool.false_eq_true, if_false]
    refine ⟨fun _ _ => trivial, hK σ _ W ⟨?_, ?_, ?_, by rw [put_defers]; exact hinv.df⟩⟩
    · rw [← htm (.tup []) hv.symm]
      exact setTm_den hinv.tm (show (V.tup []).den ρ σ undef from undef_den) _
    · exact hinv.step.congr (fun i => by rw [hws i, hws0]; rfl)
    · intro i x hi
      rcases hinv.new i x hi with h | ⟨k, k1, k2, k3⟩
      · exact .inl h
      · exact .inr ⟨k, k1, by show (if k = j then true else L k) = true; split <;> simp [k2], k3⟩
  · rw [hwants _ hw]
    simp only [if_true]
    have hfr' : Fr (nxP st0.nx ev j) q0.2.2 σ := by
      intro i i1 i2
      have i2 : i < nxP st0.nx ev (j + 1) := by show i < (ev j).nx; rw [h3]; exact i2
      cases hi : σ i with
      | none => rfl
      | some x =>
        rcases hinv.new i x hi with h | ⟨k, k1, k2, k3, k4⟩
        · have e1 := hmono j 0 (Nat.zero_le _) (Nat.le_of_lt hj)
          have e2 := hmono ops.size (j + 1) hj (Nat.le_refl _)
          rw [hfr i (Nat.le_trans e1 i1) (Nat.lt_of_lt_of_le i2 e2)] at h
          cases h
        · have hne : k ≠ j := fun e => by subst e; rw [hlj] at k2; cases k2
          rcases Nat.lt_or_ge k j with q | q
          · have := hmono j (k + 1) q (Nat.le_of_lt hj)
            omega
          · have := hmono k (j + 1) (by omega) (Nat.le_of_lt k1)
            omega
    have hrel2 : RelM ρ σ ((stP ops st0 ev j).mem.sub (sees (stP ops st0 ev j).mem (opV (stP ops st0 ev j).tm) o)) W := hrel.sub (fun i b hb => by
      obtain ⟨e1, e2⟩ := sub_get _ _ _ _ hb
      rw [hmem i (by rw [hrd]; exact e1)]
      exact e2)
    refine hoper n hn o _ _ _ q0 h1 σ a W hrel2 hfr' (fun x hx => by rw [← hopv x hx]; exact eval_den hinv.tm x) ro K Q (fun u W' σ' k1 k2 k3 => hK σ' _ W' ⟨?_, ?_, ?_, by rw [put_defers]; exact hinv.df.ext k2.ext⟩)
    · rw [← htm _ rfl]
      exact setTm_den (hinv.tm.mono (V.den_ext k2.ext)) (h4 _ _ k1) _
    · refine Step.congr ?_ hws
      rw [h2]
      exact Step.trans (fun i k hi => hr0.lt i k hi) hr0.inj hinv.step k2
    · intro i x hi
      rcases k3 i x hi with h | ⟨h5, h6⟩
      · rcases hinv.new i x h with h | ⟨k, k1, k2, k3⟩
        · exact .inl h
        · exact .inr ⟨k, k1, by show (if k = j then true else L k) = true; split <;> simp [k2], k3⟩
      · exact .inr ⟨j, hj, by simp, h5, by show i < (ev j).nx; rw [h3]; exact h6⟩

theorem countP_less {p q : Nat → Bool} : ∀ (l : List Nat), (∀ x ∈ l, q x = true → p x = true) → ∀ y ∈ l, p y = true → q y = false → l.countP q < l.countP p
  | [], _, y, hy, _, _ => by simp at hy
  | x :: l, h, y, hy, h1, h2 => by
    have le : ∀ l' : List Nat, (∀ x ∈ l', q x = true → p x = true) → l'.countP q ≤ l'.countP p := fun l' hl => List.countP_mono_left hl
    have le' := le l (fun x hx => h x (List.mem_cons_of_mem _ hx))
    simp only [List.countP_cons]
    rcases List.mem_cons.1 hy with e | e
    · subst e
      simp [h1, h2]
      omega
    · have ih := countP_less l (fun x hx => h x (List.mem_cons_of_mem _ hx)) y e h1 h2
      have := h x (List.mem_cons_self ..)
      cases hq : q x with
      | false => simp; omega
      | true => simp [this hq]; exact ih

theorem draw_any {M : Nat} {ops : Array Oper} {st0 : St} {ev : Nat → E1} {σ0 : As} {W0 : World} (hoper : ∀ n, n < M → OperOk P ρ ct lt n) (hg : ∀ k, k < ops.size → GoodE P ct lt ρ M ops (stP ops st0 ev k) k (ev k))
    (hd : DrawSpec ops (fun k => (ev k).inf)) (hr0 : RelM ρ σ0 st0.mem W0) (hfr : Fr st0.nx (nxP st0.nx ev ops.size) σ0) {ro : Option Nat} {Q : Exit → Act → World → Prop}
    (hQ : ∀ σ a W, DInv P ρ ops st0 ev σ0 W0 (fun _ => true) σ a W → Q .normal a W) : ∀ (fuel : Nat) (listed : Array Bool) (σ : As) (a : Act) (W : World), listed.size = ops.size →
    (List.range ops.size).countP (fun i => !listed.getD i false) ≤ fuel → DInv P ρ ops st0 ev σ0 W0 (fun k => listed.getD k false) σ a W → (∀ i, listed.getD i false = true → ∀ x ∈ (ancs ops).getD i [], listed.getD x false = true) →
    wpAnyIn (FR ro) 0 P .any ops Q fuel listed a W := by
  intro fuel
  have hready : ∀ (listed : Array Bool), listed.size = ops.size → Region.ready .any ops listed = [] → ∀ k, k < ops.size → listed.getD k false = true := by
    intro listed hl hr k
    induction k using Nat.strongRecOn with
    | _ k ih =>
      intro hk
      have ho : ops[k]? = some ops[k] := Array.getElem?_eq_getElem hk
      cases hb : listed.getD k false with
      | true => rfl
      | false =>
        exfalso
        have : k ∈ Region.ready .any ops listed := by
          unfold Region.ready
          rw [List.mem_filter, List.mem_range]
          refine ⟨hk, ?_⟩
          have hlk : listed.getD k true = false := by
            have hb' := hb
            simp only [Array.getD_eq_getD_getElem?, Array.getElem?_eq_getElem (show k < listed.size by omega), Option.getD_some] at hb' ⊢
            exact hb'
          rw [hlk, ho]
          simp only [Bool.not_false, Bool.true_and, Option.map_some, Option.getD_some, Array.all_eq_true_iff_forall_mem, Bool.or_eq_true, Bool.not_eq_true']
          intro e he
          cases hbi : Region.binds .any e with
          | false => exact .inl rfl
          | true =>
            have := hd.on k _ ho e he hbi
            exact .inr (ih e.on this (by omega))
        rw [hr] at this
        simp at this
  have hdone : ∀ (listed : Array Bool) (σ : As) (a : Act) (W : World), listed.size = ops.size → (∀ k, k < ops.size → listed.getD k false = true) → DInv P ρ ops st0 ev σ0 W0 (fun k => listed.getD k false) σ a W → Q .normal a W := by
    intro listed σ a W hl hall hinv
    refine hQ σ a W ⟨?_, ?_, ?_, hinv.df⟩
    · refine DL.len_get hinv.tm (List.ext_getElem? (fun t => ?_))
      rw [tmP_get, tmP_get]
      exact FA_congr _ (fun k hk _ => (hall k hk).symm)
    · refine hinv.step.congr (fun i => ?_)
      rw [wsP_get, wsP_get]
      exact FA_congr _ (fun k hk _ => (hall k hk).symm)
    · intro i x hi
      rcases hinv.new i x hi with h | ⟨k, k1, k2, k3⟩
      · exact .inl h
      · exact .inr ⟨k, k1, rfl, k3⟩
  induction fuel with
  | zero =>
    intro listed σ a W hl hc hinv hcl
    have hall : ∀ k, k < ops.size → listed.getD k false = true := by
      intro k hk
      have hz : (List.range ops.size).countP (fun i => !listed.getD i false) = 0 := by omega
      have := List.countP_eq_zero.1 hz k (List.mem_range.2 hk)
      simpa using this
    refine ⟨?_, hdone listed σ a W hl hall hinv⟩
    unfold Region.ready
    rw [List.filter_eq_nil_iff]
    intro k hk
    have h1 := hall k (List.mem_range.1 hk)
    have : listed.getD k true = true := by
      simp only [Array.getD_eq_getD_getElem?, Array.getElem?_eq_getElem (show k < listed.size by have := List.mem_range.1 hk; omega), Option.getD_some] at h1 ⊢
      exact h1
    rw [this]
    simp
  | succ fuel ih =>
    intro listed σ a W hl hc hinv hcl
    refine ⟨fun hr => hdone listed σ a W hl (hready listed hl hr) hinv, fun j hj => ?_⟩
    unfold Region.ready at hj
    rw [List.mem_filter, List.mem_range] at hj
    obtain ⟨hjs, hj2⟩ := hj
    have ho : ops[j]? = some ops[j] := Array.getElem?_eq_getElem hjs
    rw [ho] at hj2
    simp only [Option.map_some, Option.getD_some, Bool.and_eq_true, Bool.not_eq_true', Array.all_eq_true_iff_forall_mem, Bool.or_eq_true] at hj2
    obtain ⟨h1, h2⟩ := hj2
    have hlj : listed.getD j false = false := by
      simp only [Array.getD_eq_getD_getElem?, Array.getElem?_eq_getElem (show j < listed.size by omega), Option.getD_some] at h1 ⊢
      exact h1
    have hanc : ∀ x ∈ (ancs ops).getD j [], listed.getD x false = true := by
      intro x hx
      obtain ⟨e, he, hb, hx⟩ := hd.inv j _ ho x hx
      have hon : listed.getD e.on false = true := by
        rcases h2 e he with h | h
        · rw [hb] at h; cases h
        · exact h
      rcases hx with hx | hx
      · subst hx; exact hon
      · exact hcl _ hon x hx
    have hset : (fun k => (listed.setIfInBounds j true).getD k false) = fun k => if k = j then true else listed.getD k false := by
      funext k
      simp only [Array.getD_eq_getD_getElem?, Array.getElem?_setIfInBounds]
      by_cases e : k = j
      · subst e
        simp [show k < listed.size by omega]
      · simp [e, Ne.symm e]
    refine draw_step hoper hg hd hr0 hfr hinv hcl hjs hlj hanc (fun σ' a' W' hinv' => ih _ σ' a' W' (by simp [hl]) ?_ (by rw [hset]; exact hinv') ?_)
    · have := countP_less (p := fun i => !listed.getD i false) (q := fun i => !(listed.setIfInBounds j true).getD i false) (List.range ops.size) (fun x _ => by
        have := congrFun hset x
        rw [this]
        split <;> simp) j (List.mem_range.2 hjs) (by simp [hlj]) (by have := congrFun hset j; rw [this]; simp)
      omega
    · intro i hi x hx
      have e1 := congrFun hset i
      have e2 := congrFun hset x
      rw [e1] at hi
      rw [e2]
      split
      · rfl
      · split at hi
        · rename_i e; subst e; exact hanc x hx
        · exact hcl i hi x hx

theorem draw_ok (n : Nat) (hoper : ∀ m, m < n → OperOk P ρ ct lt m) : DrawOk P ρ ct lt n := by
  intro r ops st s' h σ a W hbeg hfr ro Q hQ
  obtain ⟨ev, hg, rfl, hd⟩ := draw_run (M := n) (st0 := st) n 0 st [] (fun _ => ⟨V.any, [], 0, ⟨[], []⟩⟩) h (Nat.zero_le _) (by simp [stP, tmP, wsP, nxP]) rfl (fun k hk => by omega) (Nat.le_refl _)
  have hds := drawOk_spec hd
  have hfr : Fr st.nx (nxP st.nx ev ops.size) σ := hfr
  have hmono := nxP_mono (fun k hk => good_nx (hg k hk))
  have hnone : ∀ k, (Array.replicate ops.size false).getD k false = false := by
    intro k
    rw [Array.getD_eq_getD_getElem?, Array.getElem?_replicate]
    split <;> rfl
  refine draw_any hoper hg hds hbeg.rel hfr (fun σ' a' W' hi => hQ a' W' σ' ⟨⟨_, rfl, hi.step⟩, ?_, hmono ops.size 0 (Nat.zero_le _) (Nat.le_refl _), hi.tm, hi.df⟩) ops.size _ σ a W (by simp) ?_ ?_ ?_
  · intro i x hx
    rcases hi.new i x hx with h | ⟨k, k1, _, k2, k3⟩
    · exact .inl h
    · have e1 := hmono k 0 (Nat.zero_le _) (Nat.le_of_lt k1)
      have e2 := hmono ops.size (k + 1) k1 (Nat.le_refl _)
      exact .inr ⟨Nat.le_trans e1 k2, Nat.lt_of_lt_of_le k3 e2⟩
  · exact Nat.le_trans List.countP_le_length (by simp)
  · have hL : (fun k => (Array.replicate ops.size false).getD k false) = fun _ => false := funext hnone
    rw [hL]
    refine ⟨?_, ?_, fun i x hx => .inl hx, hbeg.df⟩
    · have : ∀ n, tmP ops st.tm ev (fun _ => false) n = st.tm := by
        intro n
        induction n with
        | zero => rfl
        | succ n ih => simp [tmP, ih]
      rw [this]
      exact hbeg.tm
    · have : ∀ n, wsP ev (fun _ => false) n = [] := by
        intro n
        induction n with
        | zero => rfl
        | succ n ih => simp [wsP, ih]
      rw [this]
      exact Step.refl _ _ _
  · intro i hi
    rw [hnone] at hi
    cases hi

/-! ### Everything together -/
structure AllOk (P : Program) (ρ : Env) (ct : Ct) (lt : Lt) (n : Nat) : Prop where
  code : CodeOk P ρ ct lt n
  loop : LoopOk P ρ ct lt n
  rend : RangeEndOk P ρ ct lt n
  ops : OpsOk P ρ ct lt n
  oper : OperOk P ρ ct lt n
  round : RoundOk P ρ ct lt n
  call : CallOk P ρ ct lt n

theorem all_ok (hmix : P.follows .mixedOrders = true) (hce : CtEnter P ct) : ∀ n, ∀ m, m ≤ n → ∀ ρ : Env, (∀ ρ', Agree 0 ρ ρ' → CtOk P ρ' ct) → AllOk P ρ ct lt m
  | 0, m, hm, ρ, _ => by
    obtain rfl : m = 0 := by omega
    exact ⟨by intro w r c st p h; simp [code, T.res] at h, by intro w r c st p h; simp [code, T.res] at h, by intro r c st p h; simp [rangeEnd, T.res] at h, ops_zero, by intro o g m n q h; simp [oper, T.res] at h, by intro o g m n q h; simp [round, T.res] at h, by intro o g m n q h; simp [call, T.res] at h⟩
  | n + 1, m, hm, ρ, hct => by
    have ih := all_ok hmix hce n
    rcases Nat.lt_or_ge n m with q | q
    · obtain rfl : m = n + 1 := by omega
      have h := ih n (Nat.le_refl _) ρ hct
      have hput : ∀ N v, CodeOk P (ρ.put N v) ct lt n := fun N v => (ih n (Nat.le_refl _) (ρ.put N v) (fun ρ' ha => hct ρ' ((((Env.put_agree ρ N v).less (Nat.zero_le _)).symm).trans ha))).code
      have hloop := loop_ok n h.code hput h.loop
      exact ⟨code_ok hmix hce n h.code hloop h.ops (draw_ok n (fun k hk => (ih k (by omega) ρ hct).oper)) h.call h.rend, hloop, rangeEnd_ok n h.code, ops_ok n h.oper h.ops, oper_ok hce n h.call h.round, round_ok n h.code, call_ok (hct ρ (Agree.refl _ _)) n h.code⟩
    · exact ih m q ρ hct
end

/-- What a call of the program does: of the flat tree that the executor has made, each way out answers as is wished. -/
theorem exec_flat {P : Program} {ρ : Env} {ct : Ct} {lt : Lt} (hmix : P.follows .mixedOrders = true) (hct : ∀ ρ', Agree 0 ρ ρ' → CtOk P ρ' ct) (hce : CtEnter P ct) {n : Nat} {f : FuncId} {args : List V} {mem : Mem} {nx c : Nat} {tr : TT OpR} (he : T.norm 0 (call P ct lt n f args mem nx) TT.ret = tr)
    (hlow : tr.low c = true) {K : Env → OpR → Prop} (hs : tr.sat ρ K (fun _ _ => False)) {σ : As} {vals : List Value} {W : World} (hr : ∀ ρ', Agree c ρ ρ' → RelM ρ' σ mem W) (hfr : ∀ k, nx ≤ k → σ k = none) (ha : ∀ ρ', Agree c ρ ρ' → DL (V.den ρ' σ) args vals) :
    ∃ ρ' q, Agree c ρ ρ' ∧ K ρ' q ∧ nx ≤ q.2.2 ∧ CallsIn (FR none) 0 P f vals.toArray W (RetTo ρ' σ W nx q) := by
  obtain ⟨ρ', q, h1, h2, h3⟩ := T.res_of_flat he hlow hs
  refine ⟨ρ', q, h1, h3, (mono n).call _ _ _ _ _ h2, ?_⟩
  exact (all_ok hmix hce n n (Nat.le_refl _) ρ' (fun ρ2 h => hct ρ2 ((h1.less (Nat.zero_le _)).trans h))).call f args mem nx q h2 σ W vals (hr ρ' h1) (fun i h _ => hfr i h) (ha ρ' h1)
end Go.Proofs.YtinfmmofcadjgaaGreat
/- Contracts for the symbolic executor: functions of integers, truth values, slices of data, structs of them. -/
namespace Go.Proofs.YtinfmmofcadjgaaGreat
open Go.RowKit

/-! ### Values that lead to no block of the call's own -/
def S0.val (ρ : Env) : S0 → Value | .bool b => .bool (b.ev ρ) | .int k e => .int k (e.ev ρ) | .const v => v | _ => undef
def S0.plain : S0 → Bool | .bool _ | .int _ _ | .const _ => true | _ => false
def S.val (ρ : Env) : S → Value | .z s => s.val ρ | _ => undef
def S.plain : S → Bool | .z s => s.plain | _ => false
def V2.val (ρ : Env) : V2 → Value | .one s => s.val ρ | .agg cs => .agg (cs.map (S.val ρ)).toArray
def V2.plain : V2 → Bool | .one s => s.plain | .agg cs => cs.all S.plain
def V.val (ρ : Env) : V → Value | .v x => x.val ρ | .tup l => .tuple (l.map (V2.val ρ)).toArray
def V.plain : V → Bool | .v x => x.plain | .tup l => l.all V2.plain
section
variable {ρ : Env} {σ : As}
theorem S.val_den {s : S} (h : s.plain = true) : s.den ρ σ (s.val ρ) := by
  cases s with
  | z s => cases s <;> first | rfl | simp [S.plain, S0.plain] at h
  | iface t a cs => simp [S.plain] at h
  | meth n t a cs => simp [S.plain] at h
theorem DL_val {α : Type} {R : α → Value → Prop} {f : α → Value} {p : α → Bool} (hp : ∀ x, p x = true → R x (f x)) : ∀ {l : List α}, l.all p = true → DL R l (l.map f)
  | [], _ => trivial
  | x :: l, h => by
    simp only [List.all_cons, Bool.and_eq_true] at h
    exact ⟨hp x h.1, DL_val hp h.2⟩
theorem V2.val_den {s : V2} (h : s.plain = true) : s.den ρ σ (s.val ρ) := by
  cases s with
  | one s => exact S.val_den h
  | agg cs => exact ⟨_, DL_val (fun _ => S.val_den) h, rfl⟩
theorem V.val_den {s : V} (h : s.plain = true) : s.den ρ σ (s.val ρ) := by
  cases s with
  | v s => exact V2.val_den h
  | tup cs => exact ⟨_, DL_val (fun _ => V2.val_den) h, rfl⟩
/-- What a plain value's denotation is. -/
theorem S.den_val {s : S} (h : s.plain = true) {v : Value} (hd : s.den ρ σ v) : v = s.val ρ := by
  cases s with
  | z s => cases s <;> first | exact hd | simp [S.plain, S0.plain] at h
  | iface t a cs => simp [S.plain] at h
  | meth n t a cs => simp [S.plain] at h
theorem val_DL {α : Type} {R : α → Value → Prop} {f : α → Value} {p : α → Bool} (hp : ∀ x v, p x = true → R x v → v = f x) : ∀ {l : List α} {vs : List Value}, l.all p = true → DL R l vs → vs = l.map f
  | [], vs, _, hd => DL.nil_inv hd
  | x :: l, vs, h, hd => by
    simp only [List.all_cons, Bool.and_eq_true] at h
    obtain ⟨v, vs', rfl, h1, h2⟩ := DL.cons_inv hd
    rw [hp x v h.1 h1, val_DL hp h.2 h2]
    rfl
theorem V2.den_val {s : V2} (h : s.plain = true) {v : Value} (hd : s.den ρ σ v) : v = s.val ρ := by
  cases s with
  | one s => exact S.den_val h hd
  | agg cs =>
    obtain ⟨vs, h1, rfl⟩ := hd
    rw [val_DL (f := S.val ρ) (fun x v hp hd => S.den_val hp hd) h h1]
    rfl
theorem V.den_val {s : V} (h : s.plain = true) {v : Value} (hd : s.den ρ σ v) : v = s.val ρ := by
  cases s with
  | v s => exact V2.den_val h hd
  | tup cs =>
    obtain ⟨vs, h1, rfl⟩ := hd
    rw [val_DL (f := V2.val ρ) (fun x v hp hd => V2.den_val hp hd) h h1]
    rfl
end

/-! ### Arguments and their data -/
inductive Sh where | one (k : CK) | agg (ks : List CK)
def Sh.rep (w : World) : Sh → Value → List D → Prop
  | .one k, v, ds => ∃ d, ds = [d] ∧ CK.rep w k v d
  | .agg ks, v, ds => ∃ vs, v = .agg vs.toArray ∧ CK.reps w ks vs ds
def repSh (w : World) : List Sh → List Value → List D → Prop
  | [], vs, ds => vs = [] ∧ ds = []
  | s :: sh, vs, ds => ∃ v vs' d ds', vs = v :: vs' ∧ ds = d ++ ds' ∧ s.rep w v d ∧ repSh w sh vs' ds'

/-- Terms for the cells of an argument. -/
def AL.app : AL → AL → AL
  | .nil, q => q
  | .i e r, q => .i e (AL.app r q)
  | .b e r, q => .b e (AL.app r q)
  | .x e r, q => .x e (AL.app r q)
theorem AL.app_ev (ρ : Env) : ∀ a q : AL, (AL.app a q).ev ρ = a.ev ρ ++ q.ev ρ
  | .nil, q => by simp [AL.app, AL.ev]
  | .i e r, q => by simp [AL.app, AL.ev, AL.app_ev ρ r q]
  | .b e r, q => by simp [AL.app, AL.ev, AL.app_ev ρ r q]
  | .x e r, q => by simp [AL.app, AL.ev, AL.app_ev ρ r q]
section
variable (mem : Mem)
/-- A cell's term: (no slices of the call's own) -/
def cellA0 (k : CK) (s : S) : Option AL := match k, s with
  | .int k, .z (.int k' e) => if k = k' then some (.i e .nil) else none
  | .bool, .z (.bool e) => some (.b e .nil)
  | .sl ks, .z (.ext ks' x _) => if CK.sameL ks ks' then some (.x x .nil) else none
  | .sl _, .z (.const (.slice none 0 0)) => some (.x .nil .nil)
  | _, _ => none
def rowA (f : CK → S → Option AL) : List CK → List S → Option AL
  | [], [] => some .nil
  | k :: ks, s :: ss => match f k s, rowA f ks ss with | some a, some b => some (a.app b) | _, _ => none
  | _, _ => none
def rowsA (f : CK → S → Option AL) (ks : List CK) : Nat → List S → Option X
  | 0, _ => some .nil
  | n + 1, cs => match rowA f ks (cs.take ks.length), rowsA f ks n (cs.drop ks.length) with | some a, some x => some (.app (.row a) x) | _, _ => none
/-- .. with slices of the call's own whose cells are known -/
def cellA1 (f : CK → S → Option AL) (k : CK) (s : S) : Option AL := match f k s with
  | some a => some a
  | none => match k, s with
    | .sl ks, .z (.sl id off len (some c)) => match mem.get id with
      | some (.cells _ cs) => if decide (len ≤ c) && decide (len ≤ 1000000) && decide (off + len * ks.length ≤ cs.length) then (rowsA f ks len (cs.drop off)).map fun x => .x x .nil else none
      | _ => none
    | _, _ => none
def cellA (k : CK) (s : S) : Option AL := cellA1 mem (cellA1 mem cellA0) k s
def argA (sh : Sh) (v : V) : Option AL := match sh, v with
  | .one k, .v (.one s) => cellA mem k s
  | .agg ks, .v (.agg cs) => rowA (cellA mem) ks cs
  | _, _ => none
def argsA : List Sh → List V → Option AL
  | [], [] => some .nil
  | s :: sh, v :: vs => match argA mem s v, argsA sh vs with | some a, some b => some (a.app b) | _, _ => none
  | _, _ => none
end

section
variable {ρ : Env} {σ : As} {mem : Mem} {W : World}
/-- What is right of a cell's term. -/
def CellOk (ρ : Env) (σ : As) (W : World) (f : CK → S → Option AL) : Prop := ∀ (k : CK) (s : S) (a : AL), f k s = some a → ∀ v, s.den ρ σ v → ∃ d, a.ev ρ = [d] ∧ CK.rep W k v d
mutual
theorem CK.rep_below {w W : World} (hb : Below w.heap.size w W) : ∀ (k : CK) (v : Value) (d : D), CK.rep w k v d → CK.rep W k v d
  | .int _, v, d, h => by unfold CK.rep at h ⊢; exact h
  | .bool, v, d, h => by unfold CK.rep at h ⊢; exact h
  | .sl ks, v, d, h => by
    unfold CK.rep at h ⊢
    obtain ⟨r, a, n, c, e1, e2, h1, h2, h3, h4, h5⟩ := h
    refine ⟨r, a, n, c, e1, e2, h1, h2, h3, h4, fun b hb' i row hi => ?_⟩
    obtain ⟨vs, g1, g2⟩ := h5 b hb' i row hi
    exact ⟨vs, CK.reps_below hb ks vs row g1, fun j u hj => by
      have := g2 j u hj
      rw [hb.cell (World.block_lt_of_cell? _ _ this)]
      exact this⟩
theorem CK.reps_below {w W : World} (hb : Below w.heap.size w W) : ∀ (ks : List CK) (vs : List Value) (ds : List D), CK.reps w ks vs ds → CK.reps W ks vs ds
  | [], vs, ds, h => by unfold CK.reps at h ⊢; exact h
  | k :: ks, vs, ds, h => by
    unfold CK.reps at h ⊢
    obtain ⟨v, vs', d, ds', e1, e2, h1, h2⟩ := h
    exact ⟨v, vs', d, ds', e1, e2, CK.rep_below hb k v d h1, CK.reps_below hb ks vs' ds' h2⟩
end
theorem Sl.below {w W : World} {ks : List CK} {v : Value} {r : Rows} {f : Bool} (hb : Below w.heap.size w W) (h : Sl w ks v r f) : Sl W ks v r f := by
  obtain ⟨a, n, c, rfl, ⟨h1, h2, h3, h4, h5⟩, h6⟩ := h
  refine ⟨a, n, c, rfl, ⟨h1, h2, h3, h4, fun b hb' i row hi => ?_⟩, h6⟩
  obtain ⟨vs, g1, g2⟩ := h5 b hb' i row hi
  exact ⟨vs, CK.reps_below hb ks vs row g1, fun j u hj => by
    have := g2 j u hj
    rw [hb.cell (World.block_lt_of_cell? _ _ this)]
    exact this⟩
theorem Sl.weak {w : World} {ks : List CK} {v : Value} {r : Rows} {f : Bool} (h : Sl w ks v r f) : Sl w ks v r false := by
  obtain ⟨a, n, c, h1, h2, _⟩ := h
  exact ⟨a, n, c, h1, h2, by simp⟩
theorem nil_sl (w : World) (ks : List CK) : Sl w ks (.slice none 0 0) [] false := ⟨none, 0, 0, rfl, ⟨rfl, Nat.le_refl _, by omega, by omega, fun b h => by simp at h⟩, by simp⟩
theorem cellA0_ok (hb : Below ρ.w.heap.size ρ.w W) : CellOk ρ σ W cellA0 := by
  intro k s a h v hd
  unfold cellA0 at h
  split at h
  · rename_i k k' e
    split at h
    · rename_i hk
      subst hk
      simp only [Option.some.injEq] at h
      subst h
      obtain rfl : v = .int k (e.ev ρ) := hd
      exact ⟨.i (e.ev ρ), by simp [AL.ev], by unfold CK.rep; exact ⟨_, rfl, rfl⟩⟩
    · cases h
  · rename_i e
    simp only [Option.some.injEq] at h
    subst h
    obtain rfl : v = .bool (e.ev ρ) := hd
    exact ⟨.b (e.ev ρ), by simp [AL.ev], by unfold CK.rep; exact ⟨_, rfl, rfl⟩⟩
  · rename_i ks ks' x f
    split at h
    · rename_i hk
      obtain rfl := CK.sameL_eq _ _ hk
      simp only [Option.some.injEq] at h
      subst h
      have hd : Sl ρ.w ks v (x.ev ρ) f := hd
      exact ⟨.l (x.ev ρ), by simp [AL.ev], rep_sl.2 ⟨_, rfl, (hd.below hb).weak⟩⟩
    · cases h
  · rename_i ks
    simp only [Option.some.injEq] at h
    subst h
    obtain rfl : v = .slice none 0 0 := hd
    exact ⟨.l [], by simp [AL.ev, X.ev], rep_sl.2 ⟨_, rfl, nil_sl W ks⟩⟩
  · cases h
theorem rowA_ok {f : CK → S → Option AL} (hf : CellOk ρ σ W f) : ∀ (ks : List CK) (ss : List S) (a : AL), rowA f ks ss = some a → ∀ vs, DL (S.den ρ σ) ss vs → CK.reps W ks vs (a.ev ρ)
  | [], [], a, h, vs, hd => by
    simp only [rowA, Option.some.injEq] at h
    subst h
    rw [DL.nil_inv hd]
    unfold CK.reps
    simp [AL.ev]
  | k :: ks, s :: ss, a, h, vs, hd => by
    simp only [rowA] at h
    split at h
    · rename_i a1 a2 h1 h2
      simp only [Option.some.injEq] at h
      subst h
      obtain ⟨v, vs', rfl, e1, e2⟩ := DL.cons_inv hd
      obtain ⟨d, e3, e4⟩ := hf k s a1 h1 v e1
      unfold CK.reps
      exact ⟨v, vs', d, a2.ev ρ, rfl, by rw [AL.app_ev, e3]; rfl, e4, rowA_ok hf ks ss a2 h2 vs' e2⟩
    · cases h
  | [], _ :: _, a, h, _, _ => by simp [rowA] at h
  | _ :: _, [], a, h, _, _ => by simp [rowA] at h
theorem rowsA_ok {f : CK → S → Option AL} (hf : CellOk ρ σ W f) (ks : List CK) : ∀ (n : Nat) (ss : List S) (x : X), rowsA f ks n ss = some x → ∀ vs, DL (S.den ρ σ) ss vs → n * ks.length ≤ ss.length →
    (x.ev ρ).length = n ∧ ∀ (i : Nat) (row : List D), (x.ev ρ)[i]? = some row → CK.reps W ks ((vs.drop (i * ks.length)).take ks.length) row
  | 0, ss, x, h, vs, _, _ => by
    simp only [rowsA, Option.some.injEq] at h
    subst h
    simp [X.ev]
  | n + 1, ss, x, h, vs, hd, hl => by
    simp only [rowsA] at h
    split at h
    · rename_i a y h1 h2
      simp only [Option.some.injEq] at h
      subst h
      have e1 := rowA_ok hf ks _ a h1 _ (hd.take ks.length)
      obtain ⟨e2, e3⟩ := rowsA_ok hf ks n _ y h2 _ (hd.drop ks.length) (by rw [List.length_drop]; rw [Nat.succ_mul] at hl; omega)
      simp only [X.ev]
      refine ⟨by simp [e2], fun i row hi => ?_⟩
      cases i with
      | zero =>
        simp only [List.cons_append, List.nil_append, List.getElem?_cons_zero, Option.some.injEq] at hi
        subst hi
        simpa using e1
      | succ i =>
        simp only [List.cons_append, List.nil_append, List.getElem?_cons_succ] at hi
        have := e3 i row hi
        rw [List.drop_drop] at this
        rw [show (i + 1) * ks.length = ks.length + i * ks.length by rw [Nat.succ_mul]; omega]
        exact this
    · cases h
theorem cellA1_ok (hr : RelM ρ σ mem W) {f : CK → S → Option AL} (hf : CellOk ρ σ W f) : CellOk ρ σ W (cellA1 mem f) := by
  intro k s a h v hd
  unfold cellA1 at h
  split at h
  · rename_i a' h1
    simp only [Option.some.injEq] at h
    subst h
    exact hf k s _ h1 v hd
  · split at h
    · rename_i ks id off len c _
      split at h
      · rename_i t cs hm
        split at h
        · rename_i hc
          simp only [Bool.and_eq_true, decide_eq_true_eq] at hc
          obtain ⟨⟨c1, c2⟩, c3⟩ := hc
          simp only [Option.map_eq_some_iff] at h
          obtain ⟨x, hx, rfl⟩ := h
          obtain ⟨b, h1, rfl⟩ := hd
          obtain ⟨b', h2, vs, h3, h4⟩ := hr.blk _ _ hm
          rw [h1] at h2
          simp only [Option.some.injEq] at h2
          subst h2
          obtain ⟨e1, e2⟩ := rowsA_ok hf ks len _ x hx _ (h3.drop off) (by rw [List.length_drop]; omega)
          refine ⟨.l (x.ev ρ), by simp [AL.ev], rep_sl.2 ⟨_, rfl, some ⟨b, off, none⟩, len, c, rfl, ⟨e1, c1, by omega, fun _ => rfl, fun q hq => ?_⟩, by simp⟩⟩
          simp only [Option.some.injEq] at hq
          subst hq
          intro i row hi
          refine ⟨_, e2 i row hi, fun j u hj => ?_⟩
          rw [add_none, cell_at h4]
          have hj' : j < ks.length := by
            rcases Nat.lt_or_ge j ks.length with q | q
            · exact q
            · rw [List.getElem?_eq_none (by simp; omega)] at hj; simp at hj
          rw [List.getElem?_take_of_lt hj', List.getElem?_drop, List.getElem?_drop] at hj
          simp only [List.getElem?_toArray]
          rw [← hj]

        · cases h
      · cases h
    · cases h
theorem cellA_ok (hr : RelM ρ σ mem W) : CellOk ρ σ W (cellA mem) := cellA1_ok hr (cellA1_ok hr (cellA0_ok hr.base))
theorem argsA_ok (hr : RelM ρ σ mem W) : ∀ (sh : List Sh) (args : List V) (a : AL), argsA mem sh args = some a → ∀ vals, DL (V.den ρ σ) args vals → repSh W sh vals (a.ev ρ)
  | [], [], a, h, vals, hd => by
    simp only [argsA, Option.some.injEq] at h
    subst h
    exact ⟨DL.nil_inv hd, by simp [AL.ev]⟩
  | s :: sh, v :: vs, a, h, vals, hd => by
    simp only [argsA] at h
    split at h
    · rename_i a1 a2 h1 h2
      simp only [Option.some.injEq] at h
      subst h
      obtain ⟨u, us, rfl, e1, e2⟩ := DL.cons_inv hd
      refine ⟨u, us, a1.ev ρ, a2.ev ρ, rfl, AL.app_ev _ _ _, ?_, argsA_ok hr sh vs a2 h2 us e2⟩
      unfold argA at h1
      split at h1
      · obtain ⟨d, e3, e4⟩ := cellA_ok hr _ _ _ h1 u e1
        exact ⟨d, e3, e4⟩
      · obtain ⟨ws, e3, rfl⟩ := e1
        exact ⟨ws, rfl, rowA_ok (cellA_ok hr) _ _ _ h1 ws e3⟩
      · cases h1
    · cases h
  | [], _ :: _, a, h, _, _ => by simp [argsA] at h
  | _ :: _, [], a, h, _, _ => by simp [argsA] at h
end

/-! ### Contracts of functions that only read -/
def ctD (sh : List Sh) (out : AL → T V) (args : List V) (mem : Mem) (nx : Nat) : T OpR := match argsA mem sh args with
  | some al => (out al).bind fun v => .ret (v, [], nx)
  | none => .stuck "contract"
/-- What a function answers, in plain words. -/
def Gives (P : Program) (f : FuncId) (sh : List Sh) (g : List D → Value) : Prop := ∀ (W : World) (vals : List Value) (ds : List D), repSh W sh vals ds → Calls P f vals.toArray W (fun e W' => e = .returned (g ds) ∧ Below W.heap.size W W')
/-- .. if the data are so -/
def GivesIf (P : Program) (f : FuncId) (sh : List Sh) (ok : List D → Prop) (g : List D → Value) : Prop := ∀ (W : World) (vals : List Value) (ds : List D), repSh W sh vals ds → ok ds → Calls P f vals.toArray W (fun e W' => e = .returned (g ds) ∧ Below W.heap.size W W')
section
variable {P : Program} {ct : Ct} {lt : Lt} {ρ : Env}
theorem CtOk.nil : CtOk P ρ [] := fun f c h => by simp [Ct.find] at h
theorem CtOk.cons {f : FuncId} {c : List V → Mem → Nat → T OpR} (h : CtOne P ρ f c) (hs : CtOk P ρ ct) : CtOk P ρ ((f, c) :: ct) := by
  intro g d hd
  simp only [Ct.find] at hd
  split at hd
  · rename_i e
    simp only [beq_iff_eq] at e
    subst e
    simp only [Option.some.injEq] at hd
    subst hd
    exact h
  · exact hs g d hd
theorem ctD_if {f : FuncId} {sh : List Sh} {out : AL → T V} {ok : List D → Prop} {g : List D → Value} (hg : GivesIf P f sh ok g) (h : ∀ al v, (out al).res ρ v → v.plain = true ∧ ok (al.ev ρ) ∧ v.val ρ = g (al.ev ρ)) : CtOne P ρ f (ctD sh out) := by
  intro args mem nx q hq hle σ W vals hr hfr hd
  unfold ctD at hq
  split at hq
  · rename_i al ha
    obtain ⟨v, h1, h2⟩ := T.res_bind hq
    obtain rfl := res_ret h2
    obtain ⟨h3, h4, h5⟩ := h al v h1
    have hc := hg W vals (al.ev ρ) (argsA_ok hr sh args al ha vals hd) h4
    have hw : CallsIn Fence.wide 0 P f vals.toArray W _ := callsIn_wide.2 hc
    refine CallsIn.mono (F := FR none) hw ?_
    rintro e W' ⟨rfl, hb⟩
    exact ⟨_, σ, rfl, by rw [← h5]; exact V.val_den h3, Step.below hb, New.refl _ _ _⟩
  · exact hq.elim
theorem ctD_ok {f : FuncId} {sh : List Sh} {out : AL → V} {g : List D → Value} (hg : Gives P f sh g) (hp : ∀ al, (out al).plain = true) (h : ∀ al, (out al).val ρ = g (al.ev ρ)) : CtOne P ρ f (ctD sh fun al => .ret (out al)) :=
  ctD_if (ok := fun _ => True) (fun W vals ds hr _ => hg W vals ds hr) (fun al v hv => by obtain rfl := res_ret hv; exact ⟨hp al, trivial, h al⟩)

/-- A function of the program that has a body and is not the one that counts goroutines. -/
def entersB (P : Program) (f : FuncId) : Bool := match P.funcs[f]? with | some fn => !(fn.name == "runtime.NumGoroutine") && fn.body.isSome | none => false
theorem enterable_of {f : FuncId} (h : entersB P f = true) : Enterable P f := by
  unfold entersB at h
  split at h
  · rename_i fn hf
    simp only [Bool.and_eq_true, Bool.not_eq_true'] at h
    obtain ⟨h1, h2⟩ := h
    obtain ⟨c, hc⟩ := Option.isSome_iff_exists.1 h2
    intro args W
    exact run_callFunc hf h1 hc args W
  · simp at h
theorem ctEnter_of (h : ct.all (fun p => entersB P p.1) = true) : CtEnter P ct := by
  induction ct with
  | nil => intro f c hf; simp [Ct.find] at hf
  | cons p ct ih =>
    obtain ⟨g, c⟩ := p
    simp only [List.all_cons, Bool.and_eq_true] at h
    intro f d hf
    simp only [Ct.find] at hf
    split at hf
    · rename_i e
      simp only [beq_iff_eq] at e
      subst e
      exact enterable_of h.1
    · exact ih h.2 f d hf

/-! ### A function run on variables -/
def symCell (j : Nat) : CK → S
  | .int k => .z (.int k (.var j))
  | .bool => .z (.bool (.var j))
  | .sl ks => .z (.ext ks (.var j) false)
def symCells : Nat → List CK → List S
  | _, [] => []
  | j, k :: ks => symCell j k :: symCells (j + 1) ks
def symArgs : Nat → List Sh → List V
  | _, [] => []
  | j, .one k :: r => .v (.one (symCell j k)) :: symArgs (j + 1) r
  | j, .agg ks :: r => .v (.agg (symCells j ks)) :: symArgs (j + ks.length) r
/-- What the symbols stand for. -/
structure Interp where
  fi : Nat → List D → Int
  fb : Nat → List D → Bool
  fd : Nat → List D → Rows
def envOf (I : Interp) (W : World) (ds : List D) : Env := { i := fun k => (ds.getD k (.i 0)).int, b := fun k => (ds.getD k (.i 0)).bool, d := fun k => (ds.getD k (.i 0)).rows, fi := I.fi, fb := I.fb, fd := I.fd, w := W }
def Env.has (ρ : Env) (I : Interp) : Prop := ρ.fi = I.fi ∧ ρ.fb = I.fb ∧ ρ.fd = I.fd
theorem symCell_den {W : World} {ds : List D} {I : Interp} {ρ : Env} {c : Nat} (ha : Agree c (envOf I W ds) ρ) {σ : As} {j : Nat} (hj : j < c) {k : CK} {v : Value} {d : D} (hd : ds[j]? = some d) (h : CK.rep W k v d) : (symCell j k).den ρ σ v := by
  have e : ds.getD j (.i 0) = d := by simp [List.getD_eq_getElem?_getD, hd]
  cases k with
  | int k =>
    unfold CK.rep at h
    obtain ⟨n, rfl, rfl⟩ := h
    show Value.int k n = .int k _
    simp only [E.ev, ← ha.i j hj]
    simp only [envOf, e, D.int]
  | bool =>
    unfold CK.rep at h
    obtain ⟨n, rfl, rfl⟩ := h
    show Value.bool n = .bool _
    simp only [B.ev, ← ha.b j hj]
    simp only [envOf, e, D.bool]
  | sl ks =>
    rw [rep_sl] at h
    obtain ⟨r, rfl, h⟩ := h
    show Sl ρ.w ks v _ false
    simp only [X.ev, ← ha.d j hj, ← ha.w]
    simp only [envOf, e, D.rows]
    exact h
theorem symCells_den {W : World} {ds : List D} {I : Interp} {ρ : Env} {c : Nat} (ha : Agree c (envOf I W ds) ρ) {σ : As} : ∀ (ks : List CK) (j : Nat) (vs : List Value) (pre row post : List D), ds = pre ++ row ++ post → pre.length = j → j + ks.length ≤ c → CK.reps W ks vs row → DL (S.den ρ σ) (symCells j ks) vs
  | [], j, vs, pre, row, post, _, _, _, h => by unfold CK.reps at h; rw [h.1]; trivial
  | k :: ks, j, vs, pre, row, post, hds, hj, hc, h => by
    unfold CK.reps at h
    obtain ⟨v, vs', d, row', rfl, rfl, h1, h2⟩ := h
    simp only [List.length_cons] at hc
    refine ⟨symCell_den ha (by omega) (d := d) ?_ h1, symCells_den ha ks (j + 1) vs' (pre ++ [d]) row' post (by simp [hds]) (by simp [hj]) (by omega) h2⟩
    rw [hds, ← hj]
    simp
def shLen : List Sh → Nat
  | [] => 0
  | .one _ :: r => shLen r + 1
  | .agg ks :: r => ks.length + shLen r
theorem symArgs_den {W : World} {ds : List D} {I : Interp} {ρ : Env} {c : Nat} (ha : Agree c (envOf I W ds) ρ) {σ : As} : ∀ (sh : List Sh) (j : Nat) (vs : List Value) (pre row : List D), ds = pre ++ row → pre.length = j → j + shLen sh ≤ c → repSh W sh vs row → DL (V.den ρ σ) (symArgs j sh) vs
  | [], j, vs, pre, row, _, _, _, h => by rw [h.1]; trivial
  | .one k :: sh, j, vs, pre, row, hds, hj, hc, h => by
    obtain ⟨v, vs', d, row', rfl, rfl, ⟨d0, rfl, h1⟩, h2⟩ := h
    simp only [shLen] at hc
    refine ⟨symCell_den ha (by omega) (d := d0) ?_ h1, symArgs_den ha sh (j + 1) vs' (pre ++ [d0]) row' (by simp [hds]) (by simp [hj]) (by omega) h2⟩
    rw [hds, ← hj]
    simp
  | .agg ks :: sh, j, vs, pre, row, hds, hj, hc, h => by
    obtain ⟨v, vs', d, row', rfl, rfl, ⟨us, rfl, h1⟩, h2⟩ := h
    simp only [shLen] at hc
    have hl := (reps_len h1).2
    refine ⟨⟨us, symCells_den ha ks j us pre d row' (by simp [hds]) hj (by omega) h1, rfl⟩, symArgs_den ha sh (j + ks.length) vs' (pre ++ d) row' (by simp [hds]) (by simp [hj, hl]) (by omega) h2⟩
/-- **What a function answers, by the tree that the executor makes of it.** -/
theorem fn_gives (I : Interp) (hmix : P.follows .mixedOrders = true) (hct : ∀ ρ, ρ.has I → CtOk P ρ ct) (hce : ct.all (fun p => entersB P p.1) = true) {n : Nat} {f : FuncId} {sh : List Sh} {tr : TT OpR} (he : T.norm 0 (call P ct lt n f (symArgs 0 sh) [] 0) TT.ret = tr)
    (hlow : tr.low 1000 = true) (hsh : shLen sh ≤ 1000) {ok : List D → Prop} {g : List D → Value} (hs : ∀ W vals ds, repSh W sh vals ds → ok ds → tr.sat (envOf I W ds) (fun ρ q => q.1.plain = true ∧ q.1.val ρ = g ds) (fun _ _ => False)) : GivesIf P f sh ok g := by
  intro W vals ds hr hok
  obtain ⟨ρ', q, h1, ⟨h2, h3⟩, _, h5⟩ := exec_flat (lt := lt) hmix (fun ρ' ha => hct ρ' ⟨ha.fi.symm, ha.fb.symm, ha.fd.symm⟩) (ctEnter_of hce) he hlow (hs W vals ds hr hok) (σ := fun _ => none) (W := W) (vals := vals)
    (fun ρ' ha => ⟨fun id b h => by simp [Mem.get] at h, fun i j a h => by simp at h, fun i a h => by simp at h, fun i a h => by simp at h, by rw [← ha.w]; exact Below.refl _ _⟩) (fun _ _ => rfl) (fun ρ' ha => symArgs_den ha sh 0 vals [] ds rfl rfl (by omega) hr)
  refine (callsIn_wide (n := 0)).1 ?_
  have h' : CallsIn Fence.wide 0 P f vals.toArray W (RetTo ρ' (fun _ => none) W 0 q) := h5
  refine CallsIn.mono h' ?_
  rintro e W' ⟨u, σ', rfl, e1, e2, e3⟩
  refine ⟨by rw [V.den_val h2 e1, h3], ?_⟩
  exact ⟨e2.os, e2.tape, e2.output, e2.size, fun k hk => e2.frame k hk (fun i b _ e => by simp at e)⟩
theorem GivesIf.all {f : FuncId} {sh : List Sh} {g : List D → Value} (h : GivesIf P f sh (fun _ => True) g) : Gives P f sh g := fun W vals ds hr => h W vals ds hr trivial
end
end Go.Proofs.YtinfmmofcadjgaaGreat
/- What came in, as data: arguments of integers, truth values, slices, structs, arrays. -/
namespace Go.Proofs.YtinfmmofcadjgaaGreat
open Go.RowKit

/-- Types whose cells stand one behind the other, and whose elements take room. -/
def flatFs (P : Program) (f : TypeId → Bool) : Nat → List Field → Option Nat
  | off, [] => some off
  | off, x :: r => if Nat.beq x.offset off && f x.type then flatFs P f (off + P.cellsOf x.type) r else none
def flatB (P : Program) : Nat → TypeId → Bool
  | 0, _ => false
  | n + 1, t => match P.underlying t with
    | some (.int _) => Nat.beq (P.cellsOf t) 1
    | some .bool => Nat.beq (P.cellsOf t) 1
    | some (.slice e) => Nat.beq (P.cellsOf t) 1 && Nat.ble 1 (P.bytesOf e) && flatB P n e
    | some (.struct fs) => match flatFs P (flatB P n) 0 fs.toList with | some m => Nat.beq m (P.cellsOf t) | none => false
    | some (.array m e) => flatB P n e && Nat.beq (m * P.cellsOf e) (P.cellsOf t)
    | _ => false
theorem kinds_len {P : Program} : ∀ (n : Nat) (t : TypeId) (ks : List CK), kinds P n t = some ks → flatB P n t = true → ks.length = P.cellsOf t
  | 0, t, ks, h, _ => by simp [kinds] at h
  | n + 1, t, ks, h, hf => by
    unfold kinds at h
    unfold flatB at hf
    split at h
    · rename_i k hu
      rw [hu] at hf
      simp only at hf
      simp only [Option.some.injEq] at h
      subst h
      exact (natb hf).symm
    · rename_i hu
      rw [hu] at hf
      simp only at hf
      simp only [Option.some.injEq] at h
      subst h
      exact (natb hf).symm
    · rename_i e hu
      rw [hu] at hf
      simp only at hf
      simp only [Bool.and_eq_true] at hf
      simp only [Option.map_eq_some_iff] at h
      obtain ⟨l, _, rfl⟩ := h
      exact (natb hf.1.1).symm
    · rename_i fs hu
      rw [hu] at hf
      simp only at hf
      have key : ∀ (l : List Field) (off m : Nat) (ks : List CK), flatFs P (flatB P n) off l = some m → kindsL (kinds P n) l = some ks → off + ks.length = m := by
        intro l
        induction l with
        | nil => intro off m ks h1 h2; simp only [flatFs, Option.some.injEq] at h1; simp only [kindsL, Option.some.injEq] at h2; subst h1 h2; rfl
        | cons x l ih =>
          intro off m ks h1 h2
          simp only [flatFs] at h1
          simp only [kindsL] at h2
          split at h1
          · rename_i hc
            simp only [Bool.and_eq_true] at hc
            split at h2
            · rename_i a b ha hb
              simp only [Option.some.injEq] at h2
              subst h2
              have e1 := kinds_len n x.type a ha hc.2
              have e2 := ih _ _ _ h1 hb
              rw [List.length_append]
              omega
            · cases h2
          · cases h1
      split at hf
      · rename_i m hm
        have := key _ _ _ _ hm h
        have := natb hf
        omega
      · cases hf
    · rename_i m e hu
      rw [hu] at hf
      simp only at hf
      simp only [Bool.and_eq_true] at hf
      simp only [Option.map_eq_some_iff] at h
      obtain ⟨l, hl, rfl⟩ := h
      have e1 := kinds_len n e l hl hf.1
      have e2 := natb hf.2
      simp only [List.length_flatten, List.map_replicate, List.sum_replicate_nat, e1]
      exact e2
    · cases h
theorem reps_app {w : World} : ∀ {ks ks' : List CK} {vs vs' : List Value} {ds ds' : List D}, CK.reps w ks vs ds → CK.reps w ks' vs' ds' → CK.reps w (ks ++ ks') (vs ++ vs') (ds ++ ds')
  | [], ks', vs, vs', ds, ds', h, h' => by unfold CK.reps at h; rw [h.1, h.2]; exact h'
  | k :: ks, ks', vs, vs', ds, ds', h, h' => by
    unfold CK.reps at h
    obtain ⟨v, us, d, es, rfl, rfl, h1, h2⟩ := h
    show CK.reps w (k :: (ks ++ ks')) _ _
    unfold CK.reps
    exact ⟨v, us ++ vs', d, es ++ ds', rfl, rfl, h1, reps_app h2 h'⟩
theorem cells_of {w : World} {base : Nat} {a : Addr} {n : Nat} {cs : List Value} (h : w.cells? base a n = some cs) : cs.length = n ∧ ∀ (j : Nat) (v : Value), cs[j]? = some v → w.cell? (a.add j) = some v := by
  obtain ⟨_, h1, h2⟩ := World.cells?_some h
  refine ⟨h1, fun j v hj => ?_⟩
  have hj' : j < n := by have := (List.getElem?_eq_some_iff.1 hj).1; omega
  rw [h2 j hj', hj]
section
variable {H : Type} {enc : TypeId × Value → H} {P : Program} {w : World} {spare : Nat → Bool} {held : Bool}
theorem trod_rep : ∀ (n : Nat) (t : TypeId) (ks : List CK), kinds P n t = some ks → flatB P n t = true → ∀ (fuel : Nat) (cs : List Value) (d : DataW H) (ps : List MemPlace), DataW.trod enc P w 0 spare held fuel t cs = some (d, ps) →
    (d.weights P t).all (· ≤ reachBytes) = true → ∃ ds, CK.reps w ks cs ds
  | 0, t, ks, h, _, _, _, _, _, _, _ => by simp [kinds] at h
  | n + 1, t, ks, h, hf, fuel, cs, d, ps, ht, hw => by
    unfold kinds at h
    unfold flatB at hf
    split at h
    · rename_i k hu
      simp only [Option.some.injEq] at h
      subst h
      obtain ⟨m, rfl, _, _⟩ := DataW.trod_int hu ht
      refine ⟨[.i m], ?_⟩
      unfold CK.reps CK.reps CK.rep
      exact ⟨_, _, _, _, rfl, rfl, ⟨m, rfl, rfl⟩, rfl, rfl⟩
    · rename_i hu
      simp only [Option.some.injEq] at h
      subst h
      obtain ⟨m, rfl, _⟩ := DataW.trod_bool hu ht
      refine ⟨[.b m], ?_⟩
      unfold CK.reps CK.reps CK.rep
      exact ⟨_, _, _, _, rfl, rfl, ⟨m, rfl, rfl⟩, rfl, rfl⟩
    · rename_i e hu
      rw [hu] at hf
      simp only at hf
      simp only [Bool.and_eq_true] at hf
      obtain ⟨⟨_, f2⟩, f3⟩ := hf
      simp only [Option.map_eq_some_iff] at h
      obtain ⟨l, hl, rfl⟩ := h
      have one : ∀ (v : Value) (r : Rows), Sl w l v r false → ∃ ds, CK.reps w [.sl l] [v] ds := fun v r hs => ⟨[.l r], by
        unfold CK.reps CK.reps
        exact ⟨_, _, _, _, rfl, rfl, rep_sl.2 ⟨r, rfl, hs⟩, rfl, rfl⟩⟩
      rcases DataW.trod_slice hu ht with ⟨rfl, _⟩ | ⟨a, len, cap, elems, rest, m, _, rfl, hx, _, hlc, _, hlen, hel, _, _⟩
      · exact one _ [] (nil_sl w l)
      · simp only [Prod.mk.injEq] at hx
        obtain ⟨rfl, _⟩ := hx
        simp only [DataW.weights, hu, List.all_cons, Bool.and_eq_true, decide_eq_true_eq, List.all_append] at hw
        obtain ⟨hw1, hw2, _⟩ := hw
        have hkl := kinds_len n e l hl f3
        -- the elements' data
        have each : ∀ i, i < len → ∃ row vs, CK.reps w l vs row ∧ ∀ (j : Nat) (v : Value), vs[j]? = some v → w.cell? (a.add (i * l.length + j)) = some v := by
          intro i hi
          have h1 := hel i hi
          rw [List.getElem?_eq_getElem (by omega)] at h1
          simp only [Option.bind_eq_some_iff] at h1
          obtain ⟨vs, h2, h3⟩ := h1
          obtain ⟨c1, c2⟩ := cells_of h2
          have hwe : ∀ (l : List (DataW H)) (x : DataW H), x ∈ l → (DataW.weightsAll P e l).all (· ≤ reachBytes) = true → (x.weights P e).all (· ≤ reachBytes) = true := by
            intro l x hx hl
            induction l with
            | nil => simp at hx
            | cons y l ih =>
              simp only [DataW.weightsAll, List.all_append, Bool.and_eq_true] at hl
              rcases List.mem_cons.1 hx with e | hx
              · subst e; exact hl.1
              · exact ih hx hl.2
          obtain ⟨row, hrow⟩ := trod_rep n e l hl f3 m vs (elems[i]'(by omega)).1 (elems[i]'(by omega)).2 h3 (hwe _ _ (List.mem_map.2 ⟨_, List.getElem_mem (by omega), rfl⟩) hw2)
          refine ⟨row, vs, hrow, fun j v hj => ?_⟩
          rw [← add_add, hkl]
          exact c2 j v hj
        obtain ⟨rows, hr1, hr2⟩ : ∃ rows : Rows, rows.length = len ∧ ∀ i row, rows[i]? = some row → ∃ vs, CK.reps w l vs row ∧ ∀ (j : Nat) (v : Value), vs[j]? = some v → w.cell? (a.add (i * l.length + j)) = some v := by
          have : ∀ k, k ≤ len → ∃ rows : Rows, rows.length = k ∧ ∀ i row, rows[i]? = some row → ∃ vs, CK.reps w l vs row ∧ ∀ (j : Nat) (v : Value), vs[j]? = some v → w.cell? (a.add (i * l.length + j)) = some v := by
            intro k
            induction k with
            | zero => intro _; exact ⟨[], rfl, fun i row h => by simp at h⟩
            | succ k ih =>
              intro hk
              obtain ⟨rows, e1, e2⟩ := ih (by omega)
              obtain ⟨row, vs, e3, e4⟩ := each k (by omega)
              refine ⟨rows ++ [row], by simp [e1], fun i row' hi => ?_⟩
              rcases Nat.lt_or_ge i k with q | q
              · rw [List.getElem?_append_left (by omega)] at hi
                exact e2 i row' hi
              · rw [List.getElem?_append_right (by omega)] at hi
                have hik : i = k := by
                  rcases Nat.lt_or_ge k i with q2 | q2
                  · rw [List.getElem?_eq_none (by simp; omega)] at hi; simp at hi
                  · omega
                subst hik
                rw [e1, Nat.sub_self] at hi
                simp only [List.getElem?_cons_zero, Option.some.injEq] at hi
                subst hi
                exact ⟨vs, e3, e4⟩
          exact this len (Nat.le_refl _)
        refine one _ rows ⟨some a, len, cap, rfl, ⟨hr1, hlc, ?_, fun _ => rfl, fun b hb => ?_⟩, by simp⟩
        · have f2 := ble_le f2
          simp only [List.length_map] at hw1
          have : elems.length ≤ (elems.length + rest.length) * P.bytesOf e := Nat.le_trans (Nat.le_add_right _ _) (Nat.le_mul_of_pos_right _ f2)
          have hb : reachBytes < 281474976710656 := by decide
          omega
        · simp only [Option.some.injEq] at hb
          subst hb
          exact hr2
    · rename_i fs hu
      rw [hu] at hf
      simp only at hf
      split at hf
      · rename_i mm hm
        have hmm := natb hf
        obtain ⟨xs, m, _, hx, hcl, hxl, hxs⟩ := DataW.trod_struct hu ht
        simp only [Prod.mk.injEq] at hx
        obtain ⟨rfl, _⟩ := hx
        simp only [DataW.weights, hu] at hw
        have key : ∀ (l : List Field) (off mm i : Nat) (ks : List CK) (ys : List (DataW H × List MemPlace)), flatFs P (flatB P n) off l = some mm → kindsL (kinds P n) l = some ks → fs.toList.drop i = l → xs.drop i = ys →
            (DataW.weightsEach P (l.map (·.type)) (ys.map (·.1))).all (· ≤ reachBytes) = true → mm ≤ cs.length → ∃ ds, CK.reps w ks ((cs.drop off).take (mm - off)) ds := by
          intro l
          induction l with
          | nil =>
            intro off mm i ks ys h1 h2 _ _ _ _
            simp only [flatFs, Option.some.injEq] at h1
            simp only [kindsL, Option.some.injEq] at h2
            subst h1 h2
            exact ⟨[], by unfold CK.reps; simp⟩
          | cons x l ih =>
            intro off mm i ks ys h1 h2 h3 h4 h5 h6
            simp only [flatFs] at h1
            simp only [kindsL] at h2
            split at h1
            · rename_i hc
              simp only [Bool.and_eq_true] at hc
              have hoff := natb hc.1
              split at h2
              · rename_i a b ha hb
                simp only [Option.some.injEq] at h2
                subst h2
                have hi : fs[i]? = some x := by
                  have : (fs.toList.drop i)[0]? = some x := by rw [h3]; rfl
                  rw [List.getElem?_drop] at this
                  simpa using this
                have hlen : i < xs.length := by rw [hxl]; exact (Array.getElem?_eq_some_iff.1 hi).1
                have h7 := hxs i x hi
                rw [List.getElem?_eq_getElem hlen, hoff] at h7
                cases ys with
                | nil => exfalso; have := congrArg List.length h4; simp at this; omega
                | cons y ys =>
                  have hy : xs[i] = y := by
                    have : (xs.drop i)[0]? = some y := by rw [h4]; rfl
                    rw [List.getElem?_drop] at this
                    simpa [List.getElem?_eq_getElem hlen] using this
                  simp only [List.map_cons, DataW.weightsEach, List.all_append, Bool.and_eq_true] at h5
                  rw [hy] at h7
                  obtain ⟨d1, e1⟩ := trod_rep n x.type a ha hc.2 m _ y.1 y.2 h7 h5.1
                  have hka := kinds_len n x.type a ha hc.2
                  obtain ⟨d2, e2⟩ := ih (off + P.cellsOf x.type) mm (i + 1) b ys h1 hb (by rw [← List.drop_drop, h3]; rfl) (by rw [← List.drop_drop, h4]; rfl) h5.2 h6
                  have hle : off + P.cellsOf x.type ≤ mm := by
                    have : ∀ (l : List Field) (o m : Nat), flatFs P (flatB P n) o l = some m → o ≤ m := by
                      intro l
                      induction l with
                      | nil => intro o m h; simp only [flatFs, Option.some.injEq] at h; omega
                      | cons z l ihl =>
                        intro o m h
                        simp only [flatFs] at h
                        split at h
                        · have := ihl _ _ h; omega
                        · cases h
                    exact this _ _ _ h1
                  refine ⟨d1 ++ d2, ?_⟩
                  have e3 := reps_app e1 e2
                  have e4 : (cs.drop off).take (P.cellsOf x.type) ++ (cs.drop (off + P.cellsOf x.type)).take (mm - (off + P.cellsOf x.type)) = (cs.drop off).take (mm - off) := by
                    rw [← List.drop_drop, show mm - off = P.cellsOf x.type + (mm - (off + P.cellsOf x.type)) by omega, List.take_add]
                  rw [e4] at e3
                  exact e3
              · cases h2
            · cases h1
        obtain ⟨ds, hd⟩ := key fs.toList 0 mm 0 ks xs hm h rfl rfl hw (by omega)
        refine ⟨ds, ?_⟩
        rw [List.drop_zero, Nat.sub_zero, List.take_of_length_le (by omega)] at hd
        exact hd
      · cases hf
    · rename_i mm e hu
      rw [hu] at hf
      simp only at hf
      simp only [Bool.and_eq_true] at hf
      obtain ⟨f1, f2⟩ := hf
      have f2 := natb f2
      simp only [Option.map_eq_some_iff] at h
      obtain ⟨l, hl, rfl⟩ := h
      obtain ⟨xs, m, _, hx, hcl, hxl, hxs⟩ := DataW.trod_array hu ht
      simp only [Prod.mk.injEq] at hx
      obtain ⟨rfl, _⟩ := hx
      simp only [DataW.weights, hu] at hw
      have hkl := kinds_len n e l hl f1
      have hwe : ∀ (l : List (DataW H)) (x : DataW H), x ∈ l → (DataW.weightsAll P e l).all (· ≤ reachBytes) = true → (x.weights P e).all (· ≤ reachBytes) = true := by
        intro l x hx hl
        induction l with
        | nil => simp at hx
        | cons y l ih =>
          simp only [DataW.weightsAll, List.all_append, Bool.and_eq_true] at hl
          rcases List.mem_cons.1 hx with e | hx
          · subst e; exact hl.1
          · exact ih hx hl.2
      have : ∀ k, k ≤ mm → ∃ ds, CK.reps w (List.replicate k l).flatten (cs.take (k * P.cellsOf e)) ds := by
        intro k
        induction k with
        | zero => intro _; exact ⟨[], by simp [CK.reps]⟩
        | succ k ih =>
          intro hk
          obtain ⟨d1, e1⟩ := ih (by omega)
          have h7 := hxs k (by omega)
          rw [List.getElem?_eq_getElem (by omega)] at h7
          obtain ⟨d2, e2⟩ := trod_rep n e l hl f1 m _ (xs[k]'(by omega)).1 (xs[k]'(by omega)).2 h7 (hwe _ _ (List.mem_map.2 ⟨_, List.getElem_mem (by omega), rfl⟩) hw)
          refine ⟨d1 ++ d2, ?_⟩
          rw [List.replicate_succ', List.flatten_append, Nat.succ_mul, List.take_add]
          have := reps_app e1 e2
          simpa using this
      obtain ⟨ds, hd⟩ := this mm (Nat.le_refl _)
      rw [List.take_of_length_le (by omega)] at hd
      exact ⟨ds, hd⟩
    · cases h
end
end Go.Proofs.YtinfmmofcadjgaaGreat
/- A law's row out of what the law answers: any arguments of integers, truth values, slices, structs, arrays. -/
namespace Go.Proofs.YtinfmmofcadjgaaGreat
open Go.ChangeShapes Go.WideShapes Go.ChangeAt Go.RowKit

theorem Tryz.own : ownKnob Tryz.prog.godebug = none := by kernel_rfl
theorem Tryz.laidOut : laidOutB Tryz.prog = true := by kernel_rfl

section
variable {H : Type} {enc : TypeId × Value → H} {P : Program}
theorem post_of_below {f : Func} {s : ChangeSpec} {apart fresh handsOn again : Bool} {W W' : World} {args : Array Value} {v : Value} {ds gs : List (DataW H)} {before pa pv : List MemPlace}
    (hW : DataW.Whole enc P f.params.toList s.vars apart W args.toList ds gs before)
    (hres : ∀ (b : Nat) (sp : Nat → Bool) (hd : Bool), DataW.TrodAll enc P W' b sp hd f.resultTypes.toList (v.resultList f.resultTypes.size) (s.fn H (ds ++ gs)).results [])
    (hargs : ∀ sp : Nat → Bool, (∀ p ∈ before, sp p.block = true) → DataW.TrodAll enc P W' 0 sp true f.params.toList args.toList (s.fn H (ds ++ gs)).args pa)
    (hvars : ∀ sp : Nat → Bool, (∀ p ∈ before, sp p.block = true) → DataW.TrodVars enc P W' sp s.vars (s.fn H (ds ++ gs)).vars pv)
    (hps : before = pa ++ pv) (hb : Below W.heap.size W W')
    (hok : ∀ (j : Nat) (t : TypeId) (r : Value), f.resultTypes[j]? = some t → (v.resultList f.resultTypes.size)[j]? = some r → Value.okWide P W' .any 0 t r) :
    s.post enc P f apart fresh handsOn again W args v W' := by
  have hlt : ∀ p ∈ before, p.block < W.heap.size := fun p hp => hW.lt p hp
  have hold : ∀ p ∈ before, (fun b => decide (b < W.heap.size)) p.block = true := fun p hp => by simpa using hlt p hp
  refine ⟨ds, gs, before, [], pa, pv, hW, hres _ _ _, hargs _ hold, hvars _ hold, World.keptBut_mono (fun p hp => ⟨hp, ?_⟩) (hb.frame (· ∈ before)), fun _ => ?_⟩
  · rw [hps, List.mem_append] at hp
    exact Or.inr hp
  · obtain ⟨_, _, _, _, _, hz, hn⟩ := hW
    refine ⟨hok, _, _, ([] ++ pa) ++ pv, ⟨[] ++ pa, pv, trodAll_append (hargs _ (fun _ _ => rfl)) (hres _ _ _), hvars _ (fun _ _ => rfl), rfl, ?_, ?_⟩, ?_⟩
    · intro b off hp
      have hin : MemPlace.cell b off ∈ before := by rw [hps]; simpa using hp
      rw [hb.frozen (hlt _ hin)]
      exact hz b off hin
    · intro ha
      have := hn ha
      rw [hps] at this
      simpa using this
    · intro p hp _
      rw [hps]
      simpa using hp

/-- An argument that lies in no memory reads in every later world as it did. -/
theorem trod_later {t : TypeId} (hl : laidOutB P = true) (hr : P.readableRec t = true) (hrow : t < P.types.size) {W W' : World} {v : Value} {d : DataW H} {ps : List MemPlace}
    (h : DataW.Trod enc P W 0 (fun _ => true) true t v d ps) (hb : Below W.heap.size W W') (hlt : ∀ x ∈ ps, x.block < W.heap.size) (sp : Nat → Bool) (hsp : ∀ p ∈ ps, sp p.block = true) :
    DataW.Trod enc P W' 0 sp true t v d ps :=
  WideElems.Trod_stays hl hr hrow h (fun x hx => hb.same (hlt x hx)) (fun x hx => hsp x hx)

theorem trodAll_later (hl : laidOutB P = true) {W W' : World} (hb : Below W.heap.size W W') (sp : Nat → Bool) : ∀ (ts : List TypeId) (vs : List Value) (ds : List (DataW H)) (ps : List MemPlace),
    (ts.all fun t => P.readableRec t && decide (t < P.types.size)) = true → DataW.TrodAll enc P W 0 (fun _ => true) true ts vs ds ps → (∀ x ∈ ps, x.block < W.heap.size) → (∀ p ∈ ps, sp p.block = true) →
    DataW.TrodAll enc P W' 0 sp true ts vs ds ps
  | [], vs, ds, ps, _, h, _, _ => by obtain ⟨rfl, rfl, rfl⟩ := trodAll_nil h; rfl
  | t :: ts, vs, ds, ps, hr, h, hlt, hsp => by
    obtain ⟨v, vs', d, ds', p, q, rfl, rfl, rfl, h0, hs⟩ := trodAll_cons h
    simp only [List.all_cons, Bool.and_eq_true, decide_eq_true_eq] at hr
    exact ⟨p, q, trod_later hl hr.1.1 hr.1.2 h0 hb (fun x hx => hlt x (by simp [hx])) sp (fun x hx => hsp x (by simp [hx])),
      trodAll_later hl hb sp ts vs' ds' q hr.2 hs (fun x hx => hlt x (by simp [hx])) (fun x hx => hsp x (by simp [hx])), rfl⟩


/-- The shapes of arguments. -/
def shT (P : Program) (t : TypeId) : Option Sh := match kinds P 20 t with
  | some ks => if flatB P 20 t then (if isAggT P t then some (.agg ks) else match ks with | [k] => some (.one k) | _ => none) else none
  | none => none
def shTs (P : Program) : List TypeId → Option (List Sh)
  | [] => some []
  | t :: ts => match shT P t, shTs P ts with | some s, some l => some (s :: l) | _, _ => none
theorem okWide_one {w : World} {r : Reach} {base : Nat} {t : TypeId} {v : Value} {ks : List CK} (hk : kinds P 20 t = some ks) (ha : isAggT P t = false) (h : Value.okWide P w r base t v) : v.cells = #[v] := by
  unfold kinds at hk
  unfold isAggT at ha
  unfold Value.okWide at h
  cases hu : P.underlying t with
  | none => rw [hu] at hk; cases hk
  | some d =>
    rw [hu] at hk ha h
    cases d <;> simp at hk ha <;> simp [Cell.okWide, Cell.ok, hu] at h <;> (cases v <;> first | rfl | (simp at h))
theorem args_rep {W : World} {base : Nat} {sp : Nat → Bool} {held : Bool} : ∀ (ts : List TypeId) (sh : List Sh), shTs P ts = some sh → ∀ (vs : List Value) (ds : List (DataW H)) (ps : List MemPlace), DataW.TrodAll enc P W 0 sp held ts vs ds ps →
    (∀ (j : Nat) t v, ts[j]? = some t → vs[j]? = some v → Value.okWide P W .any base t v) → (DataW.weightsEach P ts ds).all (· ≤ reachBytes) = true → ∃ xs, repSh W sh vs xs
  | [], sh, hsh, vs, ds, ps, h, _, _ => by
    simp only [shTs, Option.some.injEq] at hsh
    subst hsh
    obtain ⟨rfl, rfl, rfl⟩ := trodAll_nil h
    exact ⟨[], rfl, rfl⟩
  | t :: ts, sh, hsh, vs, ds, ps, h, hval, hw => by
    simp only [shTs] at hsh
    split at hsh
    · rename_i s l hs hl
      simp only [Option.some.injEq] at hsh
      subst hsh
      obtain ⟨v, vs', d, ds', p, q, rfl, rfl, rfl, h0, hr⟩ := trodAll_cons h
      simp only [DataW.weightsEach, List.all_append, Bool.and_eq_true] at hw
      obtain ⟨xs, hxs⟩ := args_rep ts l hl vs' ds' q hr (fun j t v h1 h2 => hval (j + 1) t v (by simpa using h1) (by simpa using h2)) hw.2
      obtain ⟨fuel, hf⟩ := h0
      have hv := hval 0 t v rfl rfl
      unfold shT at hs
      split at hs
      · rename_i ks hk
        split at hs
        · rename_i hfl
          obtain ⟨x, hx⟩ := trod_rep 20 t ks hk hfl fuel _ d p hf hw.1
          refine ⟨x ++ xs, v, vs', x, xs, rfl, rfl, ?_, hxs⟩
          split at hs
          · rename_i ha
            simp only [Option.some.injEq] at hs
            subst hs
            have : ∃ cs, v = .agg cs := by
              unfold isAggT at ha
              unfold Value.okWide at hv
              split at ha
              · rename_i fs hu; rw [hu] at hv; obtain ⟨cs, e, _⟩ := hv; exact ⟨cs, e⟩
              · rename_i m e hu; rw [hu] at hv; obtain ⟨cs, e, _⟩ := hv; exact ⟨cs, e⟩
              · cases ha
            obtain ⟨cs, rfl⟩ := this
            exact ⟨cs.toList, by simp, hx⟩
          · rename_i ha
            split at hs
            · rename_i k
              simp only [Option.some.injEq] at hs
              subst hs
              have e := okWide_one hk (by simpa using ha) hv
              rw [e] at hx
              unfold CK.reps at hx
              obtain ⟨v', vs2, d', ds2, e1, rfl, h1, h2⟩ := hx
              have e1 : [v] = v' :: vs2 := e1
              simp only [List.cons.injEq] at e1
              obtain ⟨rfl, rfl⟩ := e1
              unfold CK.reps at h2
              obtain ⟨_, rfl⟩ := h2
              exact ⟨d', rfl, h1⟩
            · cases hs
        · cases hs
      · cases hs
    · cases hsh
end
end Go.Proofs.YtinfmmofcadjgaaGreat
