/- The symbolic executor is right: regions that draw their order. -/
import Derived.Test.YtinfmmofcadjgaaZl
namespace Go.Proofs.Ytinfmmofcadjgaa
open Go.RowKit

/-! ### Values of a key under a chosen set of events -/
def FA {β : Type} (L : Nat → Bool) (u : Nat → Option β) (b : Option β) : Nat → Option β
  | 0 => b
  | n + 1 => if L n then (u n).or (FA L u b n) else FA L u b n
theorem FA_congr {β : Type} {L L' : Nat → Bool} {u : Nat → Option β} {b : Option β} : ∀ (n : Nat), (∀ k, k < n → u k ≠ none → L k = L' k) → FA L u b n = FA L' u b n
  | 0, _ => rfl
  | n + 1, h => by
    have ih := FA_congr n (fun k hk => h k (by omega)) (b := b)
    simp only [FA, ih]
    cases hu : u n with
    | none => simp
    | some x => rw [h n (by omega) (by rw [hu]; simp)]
theorem FA_insert {β : Type} {L : Nat → Bool} {u : Nat → Option β} {b : Option β} {j : Nat} : ∀ (n : Nat), j < n → L j = false → (∀ k, j < k → k < n → u j ≠ none → u k ≠ none → L k = false) →
    FA (fun k => if k = j then true else L k) u b n = (u j).or (FA L u b n)
  | n + 1, hj, hl, h => by
    rcases Nat.lt_or_ge j n with q | q
    · have ih := FA_insert n q hl (fun k h1 h2 => h k h1 (by omega)) (b := b)
      simp only [FA, ih, if_neg (show ¬ n = j by omega)]
      cases hu : u j with
      | none => simp
      | some x =>
        cases hn : u n with
        | none => simp
        | some y => simp [h n q (by omega) (by rw [hu]; simp) (by rw [hn]; simp)]
    · obtain rfl : j = n := by omega
      have e : FA (fun k => if k = j then true else L k) u b j = FA L u b j := FA_congr j (fun k hk _ => by simp [show ¬ k = j by omega])
      simp only [FA, e, if_true, hl, Bool.false_eq_true, if_false]
theorem FA_below {β : Type} {u : Nat → Option β} {b : Option β} {j : Nat} : ∀ (n : Nat), j ≤ n → FA (fun k => decide (k < j)) u b n = FA (fun _ => true) u b j
  | 0, h => by obtain rfl : j = 0 := by omega
               rfl
  | n + 1, h => by
    rcases Nat.lt_or_ge n j with q | q
    · obtain rfl : j = n + 1 := by omega
      exact FA_congr _ (fun k hk _ => by simp [hk])
    · have ih := FA_below n q (u := u) (b := b)
      simp only [FA, ih, show ¬ n < j by omega, decide_false, Bool.false_eq_true, if_false]

structure E1 where
  v : V
  ws : Mem
  nx : Nat
  inf : Info
def dstOf (ops : Array Oper) (k : Nat) : Option Tmp := (ops[k]?).bind (·.dst)
def tmP (ops : Array Oper) (tm : List V) (ev : Nat → E1) (L : Nat → Bool) : Nat → List V
  | 0 => tm
  | n + 1 => if L n then setTm (tmP ops tm ev L n) (dstOf ops n) (ev n).v else tmP ops tm ev L n
def wsP (ev : Nat → E1) (L : Nat → Bool) : Nat → Mem
  | 0 => []
  | n + 1 => if L n then (ev n).ws ++ wsP ev L n else wsP ev L n
def nxP (nx : Nat) (ev : Nat → E1) : Nat → Nat
  | 0 => nx
  | n + 1 => (ev n).nx
def stP (ops : Array Oper) (st : St) (ev : Nat → E1) (n : Nat) : St := { st with tm := tmP ops st.tm ev (fun _ => true) n, mem := wsP ev (fun _ => true) n ++ st.mem, nx := nxP st.nx ev n }

theorem setTm_get (tm : List V) (d : Option Tmp) (v : V) (t : Nat) : (setTm tm d v)[t]? = (if d = some t ∧ t < tm.length then some v else none).or tm[t]? := by
  cases d with
  | none => simp [setTm]
  | some d =>
    simp only [setTm, Option.some.injEq]
    by_cases h : d = t
    · subst h
      by_cases q : d < tm.length
      · simp [q]
      · simp [q]
    · simp [h]
theorem tmP_len (ops : Array Oper) (tm : List V) (ev : Nat → E1) (L : Nat → Bool) : ∀ n, (tmP ops tm ev L n).length = tm.length
  | 0 => rfl
  | n + 1 => by
    have ih := tmP_len ops tm ev L n
    simp only [tmP]
    split
    · cases dstOf ops n <;> simp [setTm, ih]
    · exact ih
def uT (ops : Array Oper) (tm : List V) (ev : Nat → E1) (t : Nat) (k : Nat) : Option V := if dstOf ops k = some t ∧ t < tm.length then some (ev k).v else none
theorem tmP_get (ops : Array Oper) (tm : List V) (ev : Nat → E1) (L : Nat → Bool) (t : Nat) : ∀ n, (tmP ops tm ev L n)[t]? = FA L (uT ops tm ev t) tm[t]? n
  | 0 => rfl
  | n + 1 => by
    have ih := tmP_get ops tm ev L t n
    simp only [tmP, FA]
    split
    · rw [setTm_get, tmP_len, ih, uT]
    · exact ih
theorem wsP_get (ev : Nat → E1) (L : Nat → Bool) (id : Nat) : ∀ n, (wsP ev L n).get id = FA L (fun k => (ev k).ws.get id) none n
  | 0 => rfl
  | n + 1 => by
    have ih := wsP_get ev L id n
    simp only [wsP, FA]
    split
    · rw [Mem.get_append, ih]
    · exact ih
theorem uT_ne {ops : Array Oper} {tm : List V} {ev : Nat → E1} {t k : Nat} (h : uT ops tm ev t k ≠ none) : dstOf ops k = some t := by
  unfold uT at h
  split at h
  · rename_i q; exact q.1
  · exact absurd rfl h
theorem sub_get (m : Mem) (l : List Nat) (id : Nat) (b : Blk) (h : (m.sub l).get id = some b) : id ∈ l ∧ m.get id = some b := by
  have h2 := get_filter (fun i => l.contains i) m id b h
  refine ⟨?_, h2⟩
  have : id ∈ (m.sub l).map (·.1) := get_keys (by rw [h]; simp)
  simp only [Mem.sub, List.mem_map, List.mem_filter] at this
  obtain ⟨p, ⟨_, h3⟩, rfl⟩ := this
  simpa using h3

section
variable {P : Program} {ct : Ct} {lt : Lt} {ρ : Env} {σ : As}

def GoodE (P : Program) (ct : Ct) (lt : Lt) (ρ : Env) (M : Nat) (ops : Array Oper) (st : St) (k : Nat) (e : E1) : Prop :=
  e.inf.wr = e.ws.map (·.1) ∧ ∃ o, ops[k]? = some o ∧ ((wants ops st.tm o = some false ∧ e.v = V.any ∧ e.ws = [] ∧ e.nx = st.nx) ∨
    (wants ops st.tm o = some true ∧ e.inf.rd = sees st.mem (opV st.tm) o ∧ ∃ n, n < M ∧ ∃ q0 : OpR, (oper P ct lt n o (opV st.tm) (st.mem.sub (sees st.mem (opV st.tm) o)) st.nx).res ρ q0 ∧ e.ws = q0.2.1 ∧ e.nx = q0.2.2 ∧ ∀ (σ : As) (u : Value), q0.1.den ρ σ u → e.v.den ρ σ u))

theorem tmP_congr {ops : Array Oper} {tm : List V} {ev ev' : Nat → E1} {L : Nat → Bool} : ∀ n, (∀ k, k < n → ev k = ev' k) → tmP ops tm ev L n = tmP ops tm ev' L n
  | 0, _ => rfl
  | n + 1, h => by simp only [tmP, tmP_congr n (fun k hk => h k (by omega)), h n (by omega)]
theorem wsP_congr {ev ev' : Nat → E1} {L : Nat → Bool} : ∀ n, (∀ k, k < n → ev k = ev' k) → wsP ev L n = wsP ev' L n
  | 0, _ => rfl
  | n + 1, h => by simp only [wsP, wsP_congr n (fun k hk => h k (by omega)), h n (by omega)]
theorem stP_congr {ops : Array Oper} {st : St} {ev ev' : Nat → E1} (n : Nat) (h : ∀ k, k < n → ev k = ev' k) : stP ops st ev n = stP ops st ev' n := by
  unfold stP
  rw [tmP_congr n h, wsP_congr n h]
  cases n with
  | zero => rfl
  | succ n => simp only [nxP, h n (by omega)]

theorem draw_run {r : Option Nat} {ops : Array Oper} {st0 s' : St} {M : Nat} : ∀ (m i : Nat) (st : St) (log : List Info) (ev : Nat → E1), (opsDraw P ct lt m r ops i st log).res ρ s' → i ≤ ops.size → st = stP ops st0 ev i →
    log = (List.range i).map (fun k => (ev k).inf) → (∀ k, k < i → GoodE P ct lt ρ M ops (stP ops st0 ev k) k (ev k)) → m ≤ M →
    ∃ ev', (∀ k, k < ops.size → GoodE P ct lt ρ M ops (stP ops st0 ev' k) k (ev' k)) ∧ s' = stP ops st0 ev' ops.size ∧ drawOk ops ((List.range ops.size).map (fun k => (ev' k).inf)) = true
  | 0, i, st, log, ev, h, _, _, _, _, _ => by simp [opsDraw, T.res] at h
  | m + 1, i, st, log, ev, h, hi, hst, hlog, hg, hm => by
    simp only [opsDraw] at h
    split at h
    · rename_i ho
      have : i = ops.size := by
        rcases Nat.lt_or_ge i ops.size with q | q
        · rw [Array.getElem?_eq_getElem q] at ho; simp at ho
        · omega
      subst this
      split at h
      · rename_i hd
        obtain rfl := res_ret h
        exact ⟨ev, hg, hst, by rw [← hlog]; exact hd⟩
      · exact h.elim
    · rename_i o ho
      have hi' : i < ops.size := (Array.getElem?_eq_some_iff.1 ho).1
      have step : ∀ e : E1, GoodE P ct lt ρ M ops st i e → (opsDraw P ct lt m r ops (i + 1) { st with tm := setTm st.tm o.dst e.v, mem := e.ws ++ st.mem, nx := e.nx } (log ++ [e.inf])).res ρ s' →
          ∃ ev', (∀ k, k < ops.size → GoodE P ct lt ρ M ops (stP ops st0 ev' k) k (ev' k)) ∧ s' = stP ops st0 ev' ops.size ∧ drawOk ops ((List.range ops.size).map (fun k => (ev' k).inf)) = true := by
        intro e he h
        have hc : ∀ k, k < i → ev k = (fun k => if k = i then e else ev k) k := fun k hk => by simp [show ¬ k = i by omega]
        refine draw_run m (i + 1) _ _ (fun k => if k = i then e else ev k) h (by omega) ?_ ?_ ?_ (by omega)
        · have e1 := stP_congr (ops := ops) (st := st0) i hc
          have e2 : st = stP ops st0 (fun k => if k = i then e else ev k) i := by rw [← e1]; exact hst
          have e3 : dstOf ops i = o.dst := by simp [dstOf, ho]
          rw [e2]
          simp [stP, tmP, wsP, nxP, e3]
        · rw [hlog, List.range_succ, List.map_append]
          congr 1
          · exact List.map_congr_left (fun k hk => congrArg E1.inf (hc k (List.mem_range.1 hk)))
          · simp
        · intro k hk
          rcases Nat.lt_or_ge k i with q | q
          · rw [← stP_congr k (fun k' hk' => hc k' (by omega))]
            have := hg k q
            simpa [show ¬ k = i by omega] using this
          · obtain rfl : k = i := by omega
            rw [← stP_congr k hc, ← hst]
            simpa using he
      split at h
      · exact h.elim
      · rename_i hw
        exact step ⟨V.any, [], st.nx, ⟨[], []⟩⟩ ⟨rfl, o, ho, .inl ⟨hw, rfl, rfl, rfl⟩⟩ h
      · rename_i hw
        obtain ⟨q, h1, h2⟩ := T.res_bind h
        obtain ⟨q0, h3, h4, h5⟩ := parted_spec h1
        exact step ⟨q.1, q.2.1, q.2.2, ⟨sees st.mem (opV st.tm) o, q.2.1.map (·.1)⟩⟩ ⟨rfl, o, ho, .inr ⟨hw, rfl, m, by omega, q0, h3, by rw [h4], by rw [h4], h5⟩⟩ h2

/-! ### What the test of a drawn region gives -/
theorem grow_fold {α β : Type} (f : List β → α → β) : ∀ (l : List α) (acc : List β), ∃ t, l.foldl (fun acc o => acc ++ [f acc o]) acc = acc ++ t ∧ t.length = l.length
  | [], acc => ⟨[], by simp, rfl⟩
  | o :: l, acc => by
    obtain ⟨t, h1, h2⟩ := grow_fold f l (acc ++ [f acc o])
    exact ⟨f acc o :: t, by rw [List.foldl_cons, h1]; simp, by simp [h2]⟩
theorem ancs_spec {ops : Array Oper} {j : Nat} {o : Oper} (ho : ops[j]? = some o) : ∃ acc : List (List Nat), acc.length = j ∧ (ancs ops).getD j [] = (o.after.toList.flatMap fun e => if Region.binds .any e then e.on :: acc.getD e.on [] else []) ∧
    ∀ k, k < j → acc.getD k [] = (ancs ops).getD k [] := by
  have hj : j < ops.toList.length := by have := (Array.getElem?_eq_some_iff.1 ho).1; simpa using this
  have hl : ops.toList = ops.toList.take j ++ o :: ops.toList.drop (j + 1) := by
    have e : ops.toList[j] = o := by
      have := (Array.getElem?_eq_some_iff.1 ho).2
      simpa using this
    rw [← e, ← List.drop_eq_getElem_cons hj, List.take_append_drop]
  let f : List (List Nat) → Oper → List Nat := fun acc o => o.after.toList.flatMap fun e => if Region.binds .any e then e.on :: acc.getD e.on [] else []
  obtain ⟨t, h1, h2⟩ := grow_fold f (ops.toList.take j) []
  have hlen : t.length = j := by rw [h2, List.length_take]; omega
  obtain ⟨t2, h3, h4⟩ := grow_fold f (ops.toList.drop (j + 1)) (t ++ [f t o])
  have e : ancs ops = t ++ [f t o] ++ t2 := by
    rw [← h3]
    show List.foldl (fun acc o => acc ++ [f acc o]) [] ops.toList = _
    rw [hl, List.foldl_append, h1, List.foldl_cons]
    simp only [List.nil_append]
    congr 1
    have : (List.take j ops.toList ++ o :: List.drop (j + 1) ops.toList) = ops.toList := hl.symm
    rw [this]
  refine ⟨t, hlen, ?_, fun k hk => ?_⟩
  · rw [e, List.getD_eq_getElem?_getD, List.append_assoc, List.getElem?_append_right (by omega), hlen]
    simp [f]
  · rw [e, List.getD_eq_getElem?_getD, List.getD_eq_getElem?_getD, List.append_assoc, List.getElem?_append_left (by omega)]

structure DrawSpec (ops : Array Oper) (inf : Nat → Info) : Prop where
  on : ∀ (j : Nat) (o : Oper), ops[j]? = some o → ∀ e ∈ o.after, Region.binds .any e = true → e.on < j
  inv : ∀ (j : Nat) (o : Oper), ops[j]? = some o → ∀ x ∈ (ancs ops).getD j [], ∃ e ∈ o.after, Region.binds .any e = true ∧ (x = e.on ∨ x ∈ (ancs ops).getD e.on [])
  apart : ∀ i j, i < j → j < ops.size → i ∉ (ancs ops).getD j [] → ∃ x y, ops[i]? = some x ∧ ops[j]? = some y ∧ x.apart ops y = true ∧ (∀ b ∈ (inf i).wr, b ∉ (inf j).rd) ∧ (∀ b ∈ (inf i).wr, b ∉ (inf j).wr) ∧ (∀ b ∈ (inf j).wr, b ∉ (inf i).rd)
theorem drawOk_spec {ops : Array Oper} {inf : Nat → Info} (h : drawOk ops ((List.range ops.size).map inf) = true) : DrawSpec ops inf := by
  unfold drawOk at h
  simp only [Bool.and_eq_true, List.all_eq_true, List.mem_range, decide_eq_true_eq, Bool.or_eq_true, Bool.not_eq_true', List.contains_eq_mem] at h
  obtain ⟨⟨h1, h2⟩, h3⟩ := h
  have hon : ∀ (j : Nat) (o : Oper), ops[j]? = some o → ∀ e ∈ o.after, Region.binds .any e = true → e.on < j := by
    intro j o ho e he hb
    obtain ⟨acc, a1, a2, a3⟩ := ancs_spec ho
    have hj := (Array.getElem?_eq_some_iff.1 ho).1
    refine (h3 j hj).1 _ ?_
    rw [a2, List.mem_flatMap]
    exact ⟨e, by simpa using he, by simp [hb]⟩
  refine ⟨hon, ?_, ?_⟩
  · intro j o ho x hx
    obtain ⟨acc, a1, a2, a3⟩ := ancs_spec ho
    rw [a2, List.mem_flatMap] at hx
    obtain ⟨e, he, hx⟩ := hx
    have he : e ∈ o.after := by simpa using he
    split at hx
    · rename_i hb
      refine ⟨e, he, hb, ?_⟩
      rw [List.mem_cons, a3 e.on (hon j o ho e he hb)] at hx
      exact hx
    · simp at hx
  · intro i j hij hj hni
    rcases (h3 j hj).2 i hij with hc | hc
    · unfold clash at hc
      simp only [Bool.or_eq_false_iff] at hc
      obtain ⟨c1, c2⟩ := hc
      have e1 : ops[i]? = some ops[i] := Array.getElem?_eq_getElem (by omega)
      have e2 : ops[j]? = some ops[j] := Array.getElem?_eq_getElem hj
      have e3 : ((List.range ops.size).map inf)[i]? = some (inf i) := by simp [show i < ops.size by omega]
      have e4 : ((List.range ops.size).map inf)[j]? = some (inf j) := by simp [hj]
      rw [e1, e2] at c1
      rw [e3, e4] at c2
      simp only [Bool.not_eq_false'] at c1
      simp only [Bool.or_eq_false_iff, meets, List.any_eq_false, List.contains_eq_mem, decide_eq_true_eq, List.mem_append, not_or] at c2
      exact ⟨_, _, e1, e2, c1, fun b hb => (c2.1 b hb).1, fun b hb => (c2.1 b hb).2, fun b hb hr => c2.2 b hr hb⟩
    · exact absurd hc hni
end
end Go.Proofs.Ytinfmmofcadjgaa
