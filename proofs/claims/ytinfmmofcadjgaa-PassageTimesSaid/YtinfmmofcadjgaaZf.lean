/- The symbolic executor is right: slices, literals of structs, builtins; all pure operations together. -/
import Derived.Test.YtinfmmofcadjgaaZe
namespace Go.Proofs.Ytinfmmofcadjgaa
open Go.RowKit

section
variable {P : Program} {ρ : Env} {σ : As}

/-! ### Literals of structs and arrays -/
theorem solid_S0 {s : S0} {v : Value} (h : s.solid = true) (hd : s.den ρ σ v) : scalar v = true := by
  cases s with
  | bool b => obtain rfl : v = .bool _ := hd; rfl
  | int k e => obtain rfl : v = .int k _ := hd; rfl
  | ptr i o => obtain ⟨a, _, rfl⟩ := hd; rfl
  | sl i o l c =>
    cases c with
    | none => obtain ⟨a, c, _, _, rfl⟩ := hd; rfl
    | some c => obtain ⟨a, _, rfl⟩ := hd; rfl
  | ext ks x f => obtain ⟨a, n, c, rfl, _⟩ := hd; rfl
  | eptr ks x i off => obtain ⟨a, n, c, _, _, _, rfl⟩ := hd; rfl
  | clo f c => obtain ⟨vs, _, rfl⟩ := hd; rfl
  | yl i => obtain ⟨a, _, rfl⟩ := hd; rfl
  | const c => obtain rfl : v = c := hd; exact h
  | any => simp [S0.solid] at h
theorem solid_S {s : S} {v : Value} (h : s.solid = true) (hd : s.den ρ σ v) : scalar v = true := by
  cases s with
  | z s => exact solid_S0 h hd
  | iface t a c => obtain ⟨u, rfl⟩ := iface_den hd; rfl
  | meth n t a c => obtain ⟨u, _, rfl⟩ := meth_den.1 hd; rfl
theorem cells_scalar {v : Value} (h : scalar v = true) : v.cells = #[v] := by cases v <;> simp [scalar] at h <;> rfl
/-- The cells of a value. -/
theorem cells_den {x : V2} {v : Value} (h : x.solid = true) (hd : x.den ρ σ v) : DL (S.den ρ σ) x.cells v.cells.toList := by
  cases x with
  | one s =>
    rw [cells_scalar (solid_S h hd)]
    exact ⟨hd, trivial⟩
  | agg cs =>
    obtain ⟨vs, h1, rfl⟩ := hd
    simpa [Value.cells, V2.cells] using h1
theorem cells_cV2 (z : Value) : DL (S.den ρ σ) (cV2 z).cells z.cells.toList := by
  unfold cV2
  split
  · rename_i cs
    show DL _ (cs.toList.map _) cs.toList
    generalize cs.toList = l
    induction l with
    | nil => trivial
    | cons a l ih => exact ⟨cS0_den a, ih⟩
  · rename_i h
    have : z.cells = #[z] := by cases z <;> first | rfl | exact absurd rfl (h _)
    rw [this]
    exact ⟨cS0_den z, trivial⟩

theorem foldl_set (off : Nat) : ∀ (vs : List Value) (k : Nat) (us : List Value), off + k + vs.length ≤ us.length →
    ((vs.zipIdx k).foldl (fun (c : Array Value) (p : Value × Nat) => c.setIfInBounds (off + p.2) p.1) us.toArray).toList = us.take (off + k) ++ vs ++ us.drop (off + k + vs.length)
  | [], k, us, _ => by simp
  | v :: vs, k, us, h => by
    simp only [List.zipIdx_cons, List.foldl_cons, List.length_cons] at h ⊢
    have hk : off + k < us.length := by omega
    rw [show us.toArray.setIfInBounds (off + k) v = (us.set (off + k) v).toArray by simp]
    have ih := foldl_set off vs (k + 1) (us.set (off + k) v) (by simp; omega)
    rw [ih]
    have e1 : (us.set (off + k) v).take (off + (k + 1)) = us.take (off + k) ++ [v] := by
      rw [show off + (k + 1) = (off + k) + 1 by omega, List.take_succ_eq_append_getElem (by simp; omega), List.take_set_of_le (Nat.le_refl _)]
      simp
    have e2 : (us.set (off + k) v).drop (off + (k + 1) + vs.length) = us.drop (off + k + (vs.length + 1)) := by
      rw [List.drop_set_of_lt (by omega)]
      congr 1; omega
    rw [e1, e2]
    simp
theorem setRange_den {cs new : List S} {us vs : List Value} {off : Nat} (h1 : DL (S.den ρ σ) cs us) (h2 : DL (S.den ρ σ) new vs) :
    DL (S.den ρ σ) (setRange cs off new) (us.take off ++ vs ++ us.drop (off + vs.length)) := by
  unfold setRange
  rw [← h2.length]
  exact ((h1.take _).append h2).append (h1.drop _)

/-- The parts of a literal. -/
def PD (ρ : Env) (σ : As) : List (Nat × V2) → List (Nat × Value) → Prop
  | [], [] => True
  | (i, x) :: l, (j, v) :: r => i = j ∧ x.den ρ σ v ∧ PD ρ σ l r
  | _, _ => False
theorem fillS_sound (place : Nat → Option (Nat × Nat)) : ∀ (parts : List (Nat × V2)) (vparts : List (Nat × Value)) (cells : List S) (us : List Value) (cs : List S),
    fillS place cells parts = some cs → PD ρ σ parts vparts → DL (S.den ρ σ) cells us → ∃ ws, Instr.fill place us.toArray vparts = some ws.toArray ∧ DL (S.den ρ σ) cs ws
  | [], [], cells, us, cs, h, _, hd => by
    simp only [fillS, Option.some.injEq] at h
    subst h
    exact ⟨us, rfl, hd⟩
  | (i, x) :: l, (j, v) :: r, cells, us, cs, h, ⟨hij, hx, hp⟩, hd => by
    subst hij
    simp only [fillS] at h
    split at h
    · simp at h
    · rename_i off size hpl
      split at h
      · simp at h
      · rename_i hc
        simp only [Bool.or_eq_true, decide_eq_true_eq, Bool.not_eq_true', not_or, Bool.not_eq_false] at hc
        obtain ⟨⟨hc1, hc2⟩, hc3⟩ := hc
        have hv := cells_den hc3 hx
        have hlen := hv.length
        have hlen2 := hd.length
        simp only [ne_eq, Decidable.not_not] at hc1
        have e := foldl_set off v.cells.toList 0 us (by simp only [Nat.add_zero]; omega)
        simp only [Nat.add_zero] at e
        have e' : (v.cells.zipIdx.foldl (fun (cs : Array Value) (p : Value × Nat) => cs.setIfInBounds (off + p.2) p.1) us.toArray) = (us.take off ++ v.cells.toList ++ us.drop (off + v.cells.toList.length)).toArray := by
          rw [← e, Array.toArray_toList, ← Array.foldl_toList, Array.toList_zipIdx]
        obtain ⟨ws, h1, h2⟩ := fillS_sound place l r _ _ cs h hp (setRange_den (off := off) hd hv)
        refine ⟨ws, ?_, h2⟩
        simp only [Instr.fill, hpl]
        rw [if_neg (by
          simp only [Bool.or_eq_true, decide_eq_true_eq, not_or, ne_eq, Decidable.not_not]
          have : v.cells.size = v.cells.toList.length := by simp
          constructor
          · omega
          · simp only [List.size_toArray]; omega)]
        rw [← h1]
        congr 1

theorem toV2s_den : ∀ {l : List (Nat × V)} {r : List (Nat × V2)} {vs : List (Nat × Value)}, toV2s l = some r →
    l.length = vs.length → (∀ (k : Nat) p q, l[k]? = some p → vs[k]? = some q → p.1 = q.1 ∧ p.2.den ρ σ q.2) → PD ρ σ r vs
  | [], r, [], h, _, _ => by simp only [toV2s, Option.some.injEq] at h; subst h; trivial
  | (i, .v x) :: l, r, (j, v) :: vs, h, hlen, hd => by
    simp only [toV2s, Option.map_eq_some_iff] at h
    obtain ⟨r', hr, rfl⟩ := h
    have h0 := hd 0 _ _ rfl rfl
    exact ⟨h0.1, h0.2, toV2s_den hr (by simpa using hlen) (fun k p q h1 h2 => hd (k + 1) p q (by simpa using h1) (by simpa using h2))⟩
  | (i, .tup x) :: l, r, vs, h, _, _ => by simp [toV2s] at h

theorem builtS_sound {t : TypeId} {parts : List (Nat × V2)} {cs : List S} (h : builtS P t parts = some cs) {vparts : List (Nat × Value)} (hp : PD ρ σ parts vparts) :
    ∃ ws, P.built t vparts = some ws.toArray ∧ DL (S.den ρ σ) cs ws := by
  unfold builtS at h
  split at h
  · rename_i it n e hi hu
    split at h
    · rename_i z ie hz hie
      obtain ⟨ws, h1, h2⟩ := fillS_sound _ parts vparts _ _ cs h hp (cells_cV2 z)
      refine ⟨ws, ?_, h2⟩
      simp only [Program.built, hi, hu, hz, hie]
      simpa using h1
    · simp at h
  · rename_i it fields hi hu
    split at h
    · rename_i z places hz hpl
      obtain ⟨ws, h1, h2⟩ := fillS_sound _ parts vparts _ _ cs h hp (cells_cV2 z)
      refine ⟨ws, ?_, h2⟩
      simp only [Program.built, hi, hu, hz, hpl]
      simpa using h1
    · simp at h
  · simp at h

/-! ### Slices, builtins -/
theorem nilAhead_false {t : TypeId} {name : String} {f : FuncId} (h : methodS P t name = some f) (n : Nat) (v : Value) (W : World) : (nilAhead (n + 1) t v name).run P W = .ok (some false) W := by
  unfold methodS at h
  split at h
  · rename_i i d hi hu
    split at h
    · rename_i m hm
      split at h
      · rename_i hp
        simp only [Array.isEmpty_iff] at hp
        have hti : (typeInfo t).run P W = .ok i W := by simp [typeInfo, hi]
        split at h
        · rename_i f' pr hf
          split at h
          · rename_i hpr
            subst hpr
            cases d <;> simp [nilAhead, hti, hm, hp, followBlind, hf, isPtrT, run_underlying hu]
          · simp at h
        · simp at h
      · simp at h
    · simp at h
  · simp at h
theorem nilCheckM_sound {p v : V} (h : nilCheckM P p = some v) {a : Value} (ha : p.den ρ σ a) :
    v.den ρ σ a ∧ ∃ nm t u, a = .func (.method nm) #[.iface t u] #[] ∧ ∀ n W, (nilAhead (n + 1) t u nm).run P W = .ok (some false) W := by
  unfold nilCheckM at h
  split at h
  · rename_i nm t b c
    split at h
    · rename_i hm
      simp only [Option.some.injEq] at h
      subst h
      obtain ⟨f, hf⟩ := Option.isSome_iff_exists.1 hm
      refine ⟨ha, ?_⟩
      obtain ⟨u, h1, rfl⟩ := meth_den.1 ha
      obtain ⟨x, rfl⟩ := iface_den h1
      exact ⟨nm, t, x, rfl, fun n W => nilAhead_false hf n x W⟩
    · simp at h
  · simp at h
theorem nilCheckS_sound {p : V} {obs : List Ob} {v : V} (h : nilCheckS p = some (obs, v)) {a : Value} (ha : p.den ρ σ a) :
    v.den ρ σ a ∧ ((∃ x, a = .pointer (some x)) ∨ (∃ f c, a = .func (.func f) #[] c) ∨ ∃ t u, a = .iface t u) := by
  unfold nilCheckS at h
  split at h <;> simp only [okV, Option.some.injEq, Prod.mk.injEq, reduceCtorEq] at h <;> obtain ⟨rfl, rfl⟩ := h
  · have ha' := ha
    obtain ⟨x, _, rfl⟩ := ha
    exact ⟨ha', .inl ⟨_, rfl⟩⟩
  · have ha' := ha
    obtain ⟨x, n, c, _, _, _, rfl⟩ := ha
    exact ⟨ha', .inl ⟨_, rfl⟩⟩
  · have ha' := ha
    obtain ⟨x, _, rfl⟩ := ha
    exact ⟨ha', .inr (.inl ⟨_, _, rfl⟩)⟩
  · have ha' := ha
    obtain ⟨u, rfl⟩ := iface_den ha
    exact ⟨ha', .inr (.inr ⟨_, _, rfl⟩)⟩

theorem sl_den {id off len : Nat} {cap : Option Nat} {a : Value} (h : (S0.sl id off len cap).den ρ σ a) : ∃ x c, σ id = some x ∧ a = .slice (some ⟨x, off, none⟩) len c ∧ (∀ n, cap = some n → n = c) := by
  cases cap with
  | none => obtain ⟨x, c, h1, h2, rfl⟩ := h; exact ⟨x, c, h1, rfl, fun n hn => by simp at hn⟩
  | some n => obtain ⟨x, h1, rfl⟩ := h; exact ⟨x, n, h1, rfl, fun m hm => by simpa using hm.symm⟩

theorem lenS_sound {t : TypeId} {p : V} {obs : List Ob} {v : V} (h : lenS P t p = some (obs, v)) {a : Value} (ha : p.den ρ σ a) (ts : Array TypeId) (ht : ts[0]? = some t) (ty : TypeId) (W : World) :
    ∃ u, (Builtin.len_ ts ty #[a]).run P W = .ok u W ∧ v.den ρ σ u := by
  unfold lenS at h
  split at h
  · rename_i e id off len cap hu
    simp only [okV, Option.some.injEq, Prod.mk.injEq] at h
    obtain ⟨rfl, rfl⟩ := h
    obtain ⟨x, c, h1, rfl, _⟩ := sl_den ha
    exact ⟨.int .i64 len, by simp [Builtin.len_, ht, run_underlying hu, goInt], iV_den rfl⟩
  · rename_i e b n c hu
    simp only [okV, Option.some.injEq, Prod.mk.injEq] at h
    obtain ⟨rfl, rfl⟩ := h
    obtain rfl : a = .slice b n c := ha
    exact ⟨.int .i64 n, by simp [Builtin.len_, ht, run_underlying hu, goInt], iV_den rfl⟩
  · rename_i e ks x f hu
    simp only [okV, Option.some.injEq, Prod.mk.injEq] at h
    obtain ⟨rfl, rfl⟩ := h
    obtain ⟨b, n, c, rfl, hs, _⟩ := ha
    exact ⟨.int .i64 n, by simp [Builtin.len_, ht, run_underlying hu, goInt], iV_den (by simp only [E.ev]; rw [hs.len])⟩
  · rename_i n e hu
    simp only [okV, Option.some.injEq, Prod.mk.injEq] at h
    obtain ⟨rfl, rfl⟩ := h
    exact ⟨.int .i64 n, by simp [Builtin.len_, ht, run_underlying hu, goInt], iV_den rfl⟩
  · simp at h
theorem capS_sound {t : TypeId} {p : V} {obs : List Ob} {v : V} (h : capS P t p = some (obs, v)) {a : Value} (ha : p.den ρ σ a) (ts : Array TypeId) (ht : ts[0]? = some t) (ty : TypeId) (W : World) :
    ∃ u, (Builtin.cap_ ts ty #[a]).run P W = .ok u W ∧ v.den ρ σ u := by
  unfold capS at h
  split at h
  · rename_i e id off len cap hu
    simp only [okV, Option.some.injEq, Prod.mk.injEq] at h
    obtain ⟨rfl, rfl⟩ := h
    obtain ⟨x, h1, rfl⟩ := ha
    exact ⟨.int .i64 cap, by simp [Builtin.cap_, ht, run_underlying hu, goInt], iV_den rfl⟩
  · rename_i e b n c hu
    simp only [okV, Option.some.injEq, Prod.mk.injEq] at h
    obtain ⟨rfl, rfl⟩ := h
    obtain rfl : a = .slice b n c := ha
    exact ⟨.int .i64 c, by simp [Builtin.cap_, ht, run_underlying hu, goInt], iV_den rfl⟩
  · rename_i e ks x hu
    simp only [okV, Option.some.injEq, Prod.mk.injEq] at h
    obtain ⟨rfl, rfl⟩ := h
    obtain ⟨b, n, c, rfl, hs, hf⟩ := ha
    obtain rfl := hf rfl
    exact ⟨.int .i64 c, by simp [Builtin.cap_, ht, run_underlying hu, goInt], iV_den (by simp only [E.ev]; rw [hs.len])⟩
  · simp at h

theorem foldE_sound (f : E → E → E) (g : Value → Value → Sem Value) (hg : ∀ (k : IntKind) (a b : E) (W : World), (g (.int k (a.ev ρ)) (.int k (b.ev ρ))).run P W = .ok (.int k ((f a b).ev ρ)) W) (k : IntKind) (W : World) :
    ∀ (r : List V) (a : E) (vs : List Value) (obs : List Ob) (v : V), foldE f k a r = some (obs, v) → DL (V.den ρ σ) r vs → ∃ u, (vs.foldlM g (.int k (a.ev ρ))).run P W = .ok u W ∧ v.den ρ σ u
  | [], a, [], obs, v, h, _ => by
    simp only [foldE, okV, Option.some.injEq, Prod.mk.injEq] at h
    obtain ⟨_, rfl⟩ := h
    exact ⟨.int k (a.ev ρ), by simp, iV_den rfl⟩
  | x :: r, a, y :: vs, obs, v, h, ⟨hx, hr⟩ => by
    unfold foldE at h
    split at h
    · rename_i e; simp at e
    · rename_i k' b r' e
      simp only [List.cons.injEq] at e
      obtain ⟨rfl, rfl⟩ := e
      split at h
      · rename_i hk
        subst hk
        obtain rfl : y = .int k (b.ev ρ) := hx
        obtain ⟨u, h1, h2⟩ := foldE_sound f g hg k W r (f _ b) vs obs v h hr
        exact ⟨u, by simp [List.foldlM_cons, hg, h1], h2⟩
      · simp at h
    · simp at h

theorem builtinS_sound {b : Builtin} {ts : Array TypeId} {l : List V} {obs : List Ob} {v : V} (h : builtinS P b ts l = some (obs, v)) {vs : List Value} (hd : DL (V.den ρ σ) l vs) (ty : TypeId) (cs : Array Bool) (W : World) :
    ∃ u, (builtin b ts ty cs vs.toArray).run P W = .ok (.value u) W ∧ v.den ρ σ u := by
  unfold builtinS at h
  split at h
  · rename_i p
    simp only [Option.bind_eq_some_iff] at h
    obtain ⟨t, ht, h⟩ := h
    obtain ⟨a, vs', rfl, h1, h2⟩ := DL.cons_inv hd
    rw [DL.nil_inv h2]
    obtain ⟨u, h3, h4⟩ := lenS_sound h h1 ts ht ty W
    exact ⟨u, by simp [builtin, h3], h4⟩
  · rename_i p
    simp only [Option.bind_eq_some_iff] at h
    obtain ⟨t, ht, h⟩ := h
    obtain ⟨a, vs', rfl, h1, h2⟩ := DL.cons_inv hd
    rw [DL.nil_inv h2]
    obtain ⟨u, h3, h4⟩ := capS_sound h h1 ts ht ty W
    exact ⟨u, by simp [builtin, h3], h4⟩
  · rename_i k a r
    obtain ⟨y, vs', rfl, h1, h2⟩ := DL.cons_inv hd
    obtain rfl : y = .int k (a.ev ρ) := h1
    obtain ⟨u, h3, h4⟩ := foldE_sound (P := P) E.mxS Builtin.max2 (fun k a b W => by
      rw [E.mxS_ev]
      simp only [Builtin.max2, Sem.run_pure]
      congr 2; split <;> omega) k W r a vs' obs v h h2
    exact ⟨u, by simp [builtin, Builtin.max_, h3], h4⟩
  · rename_i k a r
    obtain ⟨y, vs', rfl, h1, h2⟩ := DL.cons_inv hd
    obtain rfl : y = .int k (a.ev ρ) := h1
    obtain ⟨u, h3, h4⟩ := foldE_sound (P := P) E.mnS Builtin.min2 (fun k a b W => by
      rw [E.mnS_ev]
      simp only [Builtin.min2, Sem.run_pure]
      congr 2; split <;> omega) k W r a vs' obs v h h2
    exact ⟨u, by simp [builtin, Builtin.min_, h3], h4⟩
  · simp at h
end
end Go.Proofs.Ytinfmmofcadjgaa
