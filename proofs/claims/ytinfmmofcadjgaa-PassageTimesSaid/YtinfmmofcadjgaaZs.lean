/- The symbolic executor is right: states that fit a pattern; loops. -/
import Derived.Test.YtinfmmofcadjgaaZk
namespace Go.Proofs.Ytinfmmofcadjgaa
open Go.RowKit

theorem get_keys : ∀ {ws : Mem} {id : Nat}, ws.get id ≠ none → id ∈ ws.map (·.1)
  | [], _, h => absurd rfl h
  | (j, b) :: ws, id, h => by
    simp only [Mem.get] at h
    split at h
    · rename_i e; simp only [beq_iff_eq] at e; simp [e]
    · simp only [List.map_cons, List.mem_cons]; exact .inr (get_keys h)
section
variable {ρ : Env} {σ σ1 : As} {N nx : Nat} {m : Asg} {v : LV}
theorem put_low (ρ : Env) (N : Nat) (v : LV) : Agree N (ρ.put N v) ρ := Env.put_agree ρ N v
theorem ble_le {a b : Nat} (h : Nat.ble a b = true) : a ≤ b := Nat.le_of_ble_eq_true h
theorem okE_ev (hf : m.fits ρ v) {p e : E} (h : okE N m p e = true) : p.ev (ρ.put N v) = e.ev ρ := by
  unfold okE at h
  split at h
  · rename_i j
    split at h
    · rename_i hj
      have hj := ble_le hj
      split at h
      · rename_i e' he
        rw [← E.same_eq _ _ h]
        simp only [E.ev, Env.put, if_neg (Nat.not_lt.2 hj)]
        exact hf.i _ _ he
      · cases h
    · rename_i hj
      rw [← E.same_eq _ _ h]
      have : j < N := by
        rcases Nat.lt_or_ge j N with q | q
        · exact q
        · exact absurd (Nat.ble_eq_true_of_le q) hj
      simp [E.ev, Env.put, this]
  · simp only [Bool.and_eq_true] at h
    rw [← E.same_eq _ _ h.2, E.low_ev (put_low ρ N v) _ h.1]
theorem okB_ev (hf : m.fits ρ v) {p e : B} (h : okB N m p e = true) : p.ev (ρ.put N v) = e.ev ρ := by
  unfold okB at h
  split at h
  · rename_i j
    split at h
    · rename_i hj
      have hj := ble_le hj
      split at h
      · rename_i e' he
        rw [← B.same_eq _ _ h]
        simp only [B.ev, Env.put, if_neg (Nat.not_lt.2 hj)]
        exact hf.b _ _ he
      · cases h
    · rename_i hj
      rw [← B.same_eq _ _ h]
      have : j < N := by
        rcases Nat.lt_or_ge j N with q | q
        · exact q
        · exact absurd (Nat.ble_eq_true_of_le q) hj
      simp [B.ev, Env.put, this]
  · simp only [Bool.and_eq_true] at h
    rw [← B.same_eq _ _ h.2, B.low_ev (put_low ρ N v) _ h.1]
theorem okX_ev (hf : m.fits ρ v) {p e : X} (h : okX N m p e = true) : p.ev (ρ.put N v) = e.ev ρ := by
  unfold okX at h
  split at h
  · rename_i j
    split at h
    · rename_i hj
      have hj := ble_le hj
      split at h
      · rename_i e' he
        rw [← X.same_eq _ _ h]
        simp only [X.ev, Env.put, if_neg (Nat.not_lt.2 hj)]
        exact hf.d _ _ he
      · cases h
    · rename_i hj
      rw [← X.same_eq _ _ h]
      have : j < N := by
        rcases Nat.lt_or_ge j N with q | q
        · exact q
        · exact absurd (Nat.ble_eq_true_of_le q) hj
      simp [X.ev, Env.put, this]
  · simp only [Bool.and_eq_true] at h
    rw [← X.same_eq _ _ h.2, X.low_ev (put_low ρ N v) _ h.1]
theorem sameC_eq {c c' : Value} (h : sameC c c' = true) : c = c' := by
  unfold sameC at h
  split at h <;> first | rfl | cases h
theorem sameCap_den (hσ : ∀ i a, i < nx → σ1 i = some a → σ i = some a) : ∀ {l l' : List (Nat × Nat)}, sameCap nx l l' = true → ∀ {vs : List Value}, DL (capDen σ1) l' vs → DL (capDen σ) l vs
  | [], [], _, vs, hd => by rw [DL.nil_inv hd]; trivial
  | (i, o) :: l, (i', o') :: l', h, vs, hd => by
    simp only [sameCap, Bool.and_eq_true] at h
    obtain ⟨⟨⟨h1, h2⟩, h3⟩, h4⟩ := h
    obtain ⟨w, ws, rfl, ⟨a, e1, e2⟩, e3⟩ := DL.cons_inv hd
    obtain rfl := natb h1
    obtain rfl := natb h2
    exact ⟨⟨a, hσ _ _ (blt_lt h3) e1, e2⟩, sameCap_den hσ h4 e3⟩
  | [], _ :: _, h, _, _ => by simp [sameCap] at h
  | _ :: _, [], h, _, _ => by simp [sameCap] at h
theorem okS0_den (hf : m.fits ρ v) (hσ : ∀ i a, i < nx → σ1 i = some a → σ i = some a) {p s : S0} (h : okS0 N nx m p s = true) {u : Value} (hd : s.den ρ σ1 u) : p.den (ρ.put N v) σ u := by
  unfold okS0 at h
  split at h
  · trivial
  · simp only [Bool.and_eq_true, decide_eq_true_eq] at h
    obtain ⟨rfl, h⟩ := h
    show u = .int _ _
    rw [okE_ev hf h]
    exact hd
  · show u = .bool _
    rw [okB_ev hf h]
    exact hd
  · rename_i K x f K' y f'
    simp only [Bool.and_eq_true, Bool.or_eq_true, Bool.not_eq_true'] at h
    obtain ⟨⟨h1, h2⟩, h3⟩ := h
    obtain rfl := CK.sameL_eq _ _ h1
    obtain ⟨a, n, c, e1, e2, e3⟩ := hd
    refine ⟨a, n, c, e1, ?_, fun hff => e3 ?_⟩
    · rw [okX_ev hf h2]; exact e2
    · rcases h3 with h3 | h3
      · rw [h3] at hff; cases hff
      · exact h3
  · rename_i K x i o K' x' i' o'
    simp only [Bool.and_eq_true] at h
    obtain ⟨⟨⟨h1, h2⟩, h3⟩, h4⟩ := h
    obtain rfl := CK.sameL_eq _ _ h1
    obtain rfl := natb h4
    obtain ⟨b, n, c, e1, e2, e3, e4⟩ := hd
    refine ⟨b, n, c, ?_, ?_, ?_, ?_⟩
    · rw [okX_ev hf h2]; exact e1
    · rw [okE_ev hf h3]; exact e2
    · rw [okE_ev hf h3]; exact e3
    · rw [okE_ev hf h3]; exact e4
  · simp only [Bool.and_eq_true] at h
    obtain ⟨⟨h1, h2⟩, h3⟩ := h
    obtain rfl := natb h1
    obtain rfl := natb h2
    obtain ⟨a, h4, h5⟩ := hd
    exact ⟨a, hσ _ _ (blt_lt h3) h4, h5⟩
  · rename_i i o l c i' o' l' c'
    simp only [Bool.and_eq_true, decide_eq_true_eq] at h
    obtain ⟨⟨⟨⟨h1, h2⟩, h3⟩, h4⟩, h5⟩ := h
    obtain rfl := natb h1
    obtain rfl := natb h2
    obtain rfl := natb h3
    subst h4
    cases c with
    | none => obtain ⟨a, c, e1, e2, e3⟩ := hd; exact ⟨a, c, hσ _ _ (blt_lt h5) e1, e2, e3⟩
    | some c => obtain ⟨a, e1, e2⟩ := hd; exact ⟨a, hσ _ _ (blt_lt h5) e1, e2⟩
  · simp only [Bool.and_eq_true] at h
    obtain ⟨h1, h2⟩ := h
    obtain rfl := natb h1
    obtain ⟨vs, e1, e2⟩ := hd
    exact ⟨vs, sameCap_den hσ h2 e1, e2⟩
  · simp only [Bool.and_eq_true] at h
    obtain ⟨h1, h3⟩ := h
    obtain rfl := natb h1
    obtain ⟨a, h4, h5⟩ := hd
    exact ⟨a, hσ _ _ (blt_lt h3) h4, h5⟩
  · show u = _
    rw [sameC_eq h]
    exact hd
  · cases h
theorem okS0s_den (hf : m.fits ρ v) (hσ : ∀ i a, i < nx → σ1 i = some a → σ i = some a) : ∀ {ps ss : List S0}, okS0s N nx m ps ss = true → ∀ {us : List Value}, DL (S0.den ρ σ1) ss us → DL (S0.den (ρ.put N v) σ) ps us
  | [], [], _, us, hd => by rw [DL.nil_inv hd]; trivial
  | p :: ps, s :: ss, h, us, hd => by
    simp only [okS0s, Bool.and_eq_true] at h
    obtain ⟨w, ws, rfl, h1, h2⟩ := DL.cons_inv hd
    exact ⟨okS0_den hf hσ h.1 h1, okS0s_den hf hσ h.2 h2⟩
  | [], _ :: _, h, _, _ => by simp [okS0s] at h
  | _ :: _, [], h, _, _ => by simp [okS0s] at h
theorem okS_den (hf : m.fits ρ v) (hσ : ∀ i a, i < nx → σ1 i = some a → σ i = some a) {p s : S} (h : okS N nx m p s = true) {u : Value} (hd : s.den ρ σ1 u) : p.den (ρ.put N v) σ u := by
  unfold okS at h
  split at h
  · trivial
  · exact okS0_den hf hσ h hd
  · rename_i t a cs t' a' cs'
    simp only [Bool.and_eq_true, beq_iff_eq] at h
    obtain ⟨⟨h1, rfl⟩, h2⟩ := h
    obtain rfl := natb h1
    cases a with
    | true => obtain ⟨vs, e1, e2⟩ := hd; exact ⟨vs, okS0s_den hf hσ h2 e1, e2⟩
    | false => obtain ⟨w, e1, e2⟩ := hd; exact ⟨w, okS0s_den hf hσ h2 e1, e2⟩
  · cases h
theorem okSs_den (hf : m.fits ρ v) (hσ : ∀ i a, i < nx → σ1 i = some a → σ i = some a) : ∀ {ps ss : List S}, okSs N nx m ps ss = true → ∀ {us : List Value}, DL (S.den ρ σ1) ss us → DL (S.den (ρ.put N v) σ) ps us
  | [], [], _, us, hd => by rw [DL.nil_inv hd]; trivial
  | p :: ps, s :: ss, h, us, hd => by
    simp only [okSs, Bool.and_eq_true] at h
    obtain ⟨w, ws, rfl, h1, h2⟩ := DL.cons_inv hd
    exact ⟨okS_den hf hσ h.1 h1, okSs_den hf hσ h.2 h2⟩
  | [], _ :: _, h, _, _ => by simp [okSs] at h
  | _ :: _, [], h, _, _ => by simp [okSs] at h
theorem fitV_den (hf : m.fits ρ v) (hσ : ∀ i a, i < nx → σ1 i = some a → σ i = some a) {p s : V} (h : fitV N nx m p s = true) {u : Value} (hd : s.den ρ σ1 u) : p.den (ρ.put N v) σ u := by
  unfold fitV at h
  rw [Bool.or_eq_true] at h
  rcases h with h | h
  · unfold isAny at h
    split at h
    · trivial
    · cases h
  · split at h
    · rename_i p s
      unfold okV2 at h
      split at h
      · exact okS_den hf hσ h hd
      · obtain ⟨us, h1, h2⟩ := hd
        exact ⟨us, okSs_den hf hσ h h1, h2⟩
      · cases h
    · cases h
theorem fitVs_den (hf : m.fits ρ v) (hσ : ∀ i a, i < nx → σ1 i = some a → σ i = some a) : ∀ {ps ss : List V}, fitVs N nx m ps ss = true → ∀ {us : List Value}, DL (V.den ρ σ1) ss us → DL (V.den (ρ.put N v) σ) ps us
  | [], [], _, us, hd => by rw [DL.nil_inv hd]; trivial
  | p :: ps, s :: ss, h, us, hd => by
    simp only [fitVs, Bool.and_eq_true] at h
    obtain ⟨w, ws, rfl, h1, h2⟩ := DL.cons_inv hd
    exact ⟨fitV_den hf hσ h.1 h1, fitVs_den hf hσ h.2 h2⟩
  | [], _ :: _, h, _, _ => by simp [fitVs] at h
  | _ :: _, [], h, _, _ => by simp [fitVs] at h
theorem okBlk_den (hf : m.fits ρ v) (hσ : ∀ i a, i < nx → σ1 i = some a → σ i = some a) {p b : Blk} (h : okBlk N nx m p b = true) {o : Option Obj} (hd : BDen ρ σ1 b o)
    (hk : ∀ s pe tm ps asg body df, p = .loop s pe tm ps asg body df → ∀ L, o = some (.loop L) → L.params = ps.toArray ∧ L.assign = asg ∧ L.body = body) : BDen (ρ.put N v) σ p o := by
  unfold okBlk at h
  split at h
  · simp only [Bool.and_eq_true] at h
    obtain ⟨h1, h2⟩ := h
    obtain rfl := natb h1
    obtain ⟨vs, e1, e2⟩ := hd
    exact ⟨vs, okSs_den hf hσ h2 e1, e2⟩
  · simp only [Bool.and_eq_true] at h
    obtain ⟨h1, h2⟩ := h
    obtain rfl := natb h1
    obtain ⟨vs, ex, e1, e2⟩ := hd
    exact ⟨vs, ex, okSs_den hf hσ h2 e1, e2⟩
  · rename_i s pe tm ps asg body df s' pe' tm' ps' asg' body' df'
    simp only [Bool.and_eq_true, decide_eq_true_eq, Option.isNone_iff_eq_none] at h
    obtain ⟨⟨⟨⟨⟨rfl, rfl⟩, rfl⟩, h2⟩, h3⟩, h4⟩ := h
    obtain rfl := natb h3
    obtain ⟨fn, tv, d, e1, e2, e3⟩ := hd
    obtain ⟨k1, k2, k3⟩ := hk _ _ _ _ _ _ _ rfl _ e3
    refine ⟨fn, tv, d, fitVs_den hf hσ h2 e1, hσ _ _ (blt_lt h4) e2, ?_⟩
    rw [e3]
    simp only at k1 k2 k3
    rw [k1, k2, k3]
  · rename_i s s'
    simp only [beq_iff_eq] at h
    subst h
    exact hd
  · show o.isSome = true
    cases b with
    | cells t cs => obtain ⟨vs, e1, rfl⟩ := hd; rfl
    | row t cs => obtain ⟨vs, ex, e1, rfl⟩ := hd; rfl
    | loop s pe tm ps asg body df => obtain ⟨fn, tv, d, _, _, rfl⟩ := hd; rfl
    | dfd s => obtain rfl : o = _ := hd; rfl
    | gone => exact hd
  · cases h
theorem okMem_get : ∀ {pm mm : Mem}, okMem N nx m pm mm = true → ∀ {i : Nat} {b : Blk}, pm.get i = some b → i < nx ∧ ∃ b', mm.get i = some b' ∧ okBlk N nx m b b' = true
  | (j, c) :: l, mm, h, i, b, hb => by
    simp only [okMem, Bool.and_eq_true] at h
    obtain ⟨⟨h1, h2⟩, h3⟩ := h
    simp only [Mem.get] at hb
    split at hb
    · rename_i e
      simp only [beq_iff_eq] at e
      subst e
      simp only [Option.some.injEq] at hb
      subst hb
      split at h2
      · rename_i b' hb'
        exact ⟨blt_lt h1, b', hb', h2⟩
      · cases h2
    · exact okMem_get h3 hb
theorem fixMem_get : ∀ {l mm : Mem} {i : Nat} {s pe tm ps asg body df}, (fixMem l mm).get i = some (.loop s pe tm ps asg body df) → ∃ s' pe' tm' df', mm.get i = some (.loop s' pe' tm' ps asg body df')
  | (j, b) :: l, mm, i, s, pe, tm, ps, asg, body, df, h => by
    simp only [fixMem, List.map_cons, Mem.get] at h
    split at h
    · rename_i e
      simp only [beq_iff_eq] at e
      subst e
      simp only [Option.some.injEq] at h
      unfold fixBlk at h
      split at h
      · split at h
        · rename_i s' pe' tm' ps' asg' body' df' hm
          simp only [Blk.loop.injEq] at h
          obtain ⟨_, _, _, rfl, rfl, rfl, _⟩ := h
          exact ⟨_, _, _, _, hm⟩
        · simp at h
      · rename_i hne
        exact absurd h (hne _ _ _ _ _ _ _)
    · exact fixMem_get (l := l) h
theorem matchSt_spec {pat st : St} (h : matchSt N pat st = some m) : fitVs N pat.nx m pat.tm st.tm = true ∧ okMem N pat.nx m pat.mem st.mem = true ∧ pat.df = st.df ∧ ∀ i, st.mem.get i ≠ none → (pat.mem.get i).isSome = true ∨ (pat.nx ≤ i ∧ i < st.nx) := by
  unfold matchSt at h
  simp only at h
  split at h
  · rename_i hc
    simp only [Option.some.injEq] at h
    subst h
    simp only [Bool.and_eq_true, List.all_eq_true, Bool.or_eq_true] at hc
    obtain ⟨⟨⟨h1, h2⟩, h3⟩, h4⟩ := hc
    refine ⟨h1, h2, eqNats_eq h3, fun i hi => ?_⟩
    have hk := get_keys hi
    simp only [List.mem_map] at hk
    obtain ⟨q, hq, rfl⟩ := hk
    rcases h4 q hq with h | h
    · exact .inl h
    · exact .inr ⟨ble_le h.1, blt_lt h.2⟩
  · cases h
theorem Dfr.back {σ σ' : As} (hx : Ext σ σ') : ∀ {l : List Nat} {ds ds' : List Deferred}, Dfr σ l ds → Dfr σ' l ds' → Dfr σ l ds'
  | [], _, _, _, h => h
  | d :: l, ds, ds', ⟨r, t, h1, h2, h3⟩, ⟨r', t', k1, k2, k3⟩ => by
    have := hx _ _ h1
    rw [this] at k1
    simp only [Option.some.injEq] at k1
    subst k1
    exact ⟨r, t', h1, k2, Dfr.back hx h3 k3⟩
end
section
variable {P : Program} {ct : Ct} {lt : Lt} {ρ : Env} {σ : As}
theorem RelM.put {N : Nat} {v : LV} {W : World} {m : Mem} (h : RelM ρ σ m W) : RelM (ρ.put N v) σ [] W := ⟨fun id b hb => by simp [Mem.get] at hb, h.inj, h.lt, h.above, h.base⟩
/-- What holds at the begin of each round. -/
structure LInv (ρ : Env) (N : Nat) (pat : St) (σ : As) (W0 : World) (v : LV) (a : Act) (W : World) : Prop where
  step : Step (ρ.put N v) σ W0 pat.mem σ W
  tm : DL (V.den (ρ.put N v) σ) pat.tm a.tmps.toList
  df : Dfr σ pat.df a.defers

theorem loopT_ok (n : Nat) (hcode : ∀ N v, CodeOk P (ρ.put N v) ct lt n) {w : Where} {r : Option Nat} {b : Code} {st : St} {p : Ex × St} (h : (loopT (code P ct lt n w r b) st).res ρ p) :
    ∃ k, ∀ σ a W, Beg ρ st σ a W → Fr st.nx p.2.nx σ → (∀ id, r = some id → ∃ l, σ id = some l) → ∀ Q : Exit → Act → World → Prop, (∀ a' W' σ', Fin ρ σ W st.mem st.nx p.2 σ' a' W' → Q p.1.toExit a' W') →
      Code.roundsIn (FR (r.bind σ)) 0 P b Q k a W := by
  obtain ⟨N, m, v0, q, hN, hm, hfit, hr, rfl⟩ := loopT_res h
  generalize hpat : patOf (code P ct lt n w r b) st = pat at hm hr ⊢
  have hpnx : pat.nx = st.nx + 1 := by rw [← hpat]; rfl
  have hpdf : pat.df = st.df := by rw [← hpat]; rfl
  have hpm : ∀ {i s pe tm ps asg body df}, pat.mem.get i = some (.loop s pe tm ps asg body df) → ∃ s' pe' tm' df', st.mem.get i = some (.loop s' pe' tm' ps asg body df') := by
    intro i s pe tm ps asg body df hi
    rw [← hpat] at hi
    exact fixMem_get hi
  generalize hM : topNx (code P ct lt n w r b pat) = M
  -- records of ranges
  have hrec : ∀ {σ a W W'}, Beg ρ st σ a W → Keep W W' → ∀ {i x}, σ i = some x → ∀ s pe tm ps asg body df, pat.mem.get i = some (.loop s pe tm ps asg body df) → ∀ L, W'.heap[x]? = some (.loop L) → L.params = ps.toArray ∧ L.assign = asg ∧ L.body = body := by
    intro σ a W W' hbeg hkeep i x hx s pe tm ps asg body df hi L hL
    obtain ⟨s', pe', tm', df', h1⟩ := hpm hi
    obtain ⟨y, h2, fn, tv, d, _, _, h3⟩ := hbeg.rel.blk _ _ h1
    rw [hx] at h2
    simp only [Option.some.injEq] at h2
    subst h2
    obtain ⟨L', h4, e1, e2, e3, _⟩ := hkeep _ _ h3
    rw [hL] at h4
    simp only [Option.some.injEq, Obj.loop.injEq] at h4
    subst h4
    exact ⟨e1, e2, e3⟩
  have key : ∀ (v : LV) (q : Ex × St), Rounds N pat (fun ρ' p => (code P ct lt n w r b pat).res ρ' p) ρ v q → ∃ k, ∀ σ a0 W0, Beg ρ st σ a0 W0 → Fr st.nx M σ → (∀ id, r = some id → ∃ l, σ id = some l) →
      ∀ Q : Exit → Act → World → Prop, (∀ a' W' σ', Step ρ σ W0 q.2.mem σ' W' → New pat.nx q.2.nx σ σ' → DL (V.den ρ σ') q.2.tm a'.tmps.toList → Dfr σ' q.2.df a'.defers → Q q.1.toExit a' W') →
      ∀ a1 W1, LInv ρ N pat σ W0 v a1 W1 → Code.roundsIn (FR (r.bind σ)) 0 P b Q k a1 W1 := by
    intro v q hr
    -- one round
    have round : ∀ (v : LV) (p : Ex × St), (code P ct lt n w r b pat).res (ρ.put N v) p → ∀ σ a0 W0, Beg ρ st σ a0 W0 → Fr st.nx M σ → (∀ id, r = some id → ∃ l, σ id = some l) → ∀ a1 W1, LInv ρ N pat σ W0 v a1 W1 →
        ∀ R : Exit → Act → World → Prop, (∀ a' W' σ', Step (ρ.put N v) σ W0 p.2.mem σ' W' → New pat.nx p.2.nx σ σ' → DL (V.den (ρ.put N v) σ') p.2.tm a'.tmps.toList → Dfr σ' p.2.df a'.defers → RelM (ρ.put N v) σ' p.2.mem W' → R p.1.toExit a' W') → b.wpIn (FR (r.bind σ)) 0 P R a1 W1 := by
      intro v p hp σ a0 W0 hbeg hfr hrr a1 W1 hinv R hR
      have hrel0 : RelM (ρ.put N v) σ [] W0 := hbeg.rel.put
      have hrel1 : RelM (ρ.put N v) σ pat.mem W1 := by have := hrel0.step hinv.step; simpa using this
      have htop : p.2.nx ≤ M := by rw [← hM]; exact res_top hp
      have hle : pat.nx ≤ p.2.nx := (mono_all n (ρ.put N v)).code _ _ _ _ _ hp
      refine hcode N v w r b pat p hp σ a1 W1 ⟨hrel1, hinv.tm, hinv.df⟩ (fun i h1 h2 => hfr i (by omega) (by omega)) hrr R (fun a' W' σ' hf => ?_)
      obtain ⟨ws, e1, s1⟩ := hf.step
      refine hR a' W' σ' ?_ hf.new hf.tm hf.df (hf.beg hrel1).rel
      rw [e1]
      exact Step.trans (fun i k hi => hrel0.lt i k hi) hrel0.inj hinv.step s1
    induction hr with
    | @last v p hv hp hne =>
      refine ⟨1, fun σ a0 W0 hbeg hfr hrr Q hQ a1 W1 hinv => ?_⟩
      rw [roundsIn_succ]
      rw [← hv] at hp
      refine round v p hp σ a0 W0 hbeg hfr hrr a1 W1 hinv _ (fun a' W' σ' s1 s2 s3 s4 _ => ?_)
      rw [hv] at s1 s3
      have := hQ a' W' σ' s1 s2 s3 s4
      revert this
      cases hpe : p.1 with
      | normal => exact absurd hpe hne
      | _ => exact fun h => h
    | @next v p m' v' q hp hno hm' hfit' _ ih =>
      obtain ⟨k, hk⟩ := ih
      refine ⟨k + 1, fun σ a0 W0 hbeg hfr hrr Q hQ a1 W1 hinv => ?_⟩
      rw [roundsIn_succ]
      refine round v p hp σ a0 W0 hbeg hfr hrr a1 W1 hinv _ (fun a' W' σ' s1 s2 s3 s4 s5 => ?_)
      rw [hno]
      refine hk σ a0 W0 hbeg hfr hrr Q hQ a' W' ?_
      obtain ⟨f1, f2, f3, f4⟩ := matchSt_spec hm'
      have hσ : ∀ i x, i < pat.nx → σ' i = some x → σ i = some x := fun i x hi hx => by
        rcases s2 i x hx with h | ⟨h, _⟩
        · exact h
        · omega
      have htop : p.2.nx ≤ M := by rw [← hM]; exact res_top hp
      refine ⟨⟨Ext.refl _, s1.os, s1.tape, s1.output, s1.size, fun j hj hne => s1.frame j hj (fun i c hi he => ?_), fun i x hi => .inl hi, fun e => e, fun i c hi => ?_, s1.keep⟩, ?_, ?_⟩
      · rcases f4 i (by rw [hi]; simp) with g | ⟨g1, g2⟩
        · obtain ⟨c', hc'⟩ := Option.isSome_iff_exists.1 g
          exact hne i c' hc' he
        · rw [hfr i (by omega) (by omega)] at he; cases he
      · obtain ⟨g1, c', g2, g3⟩ := okMem_get f2 hi
        obtain ⟨x, g4, g5⟩ := s5.blk _ _ g2
        have g6 := hσ _ _ g1 g4
        refine ⟨x, g6, ?_⟩
        have := okBlk_den (σ := σ) hfit' hσ g3 g5 (fun s pe tm ps asg body df e L hL => hrec hbeg s1.keep g6 s pe tm ps asg body df (by rw [← e]; exact hi) L hL)
        rw [Env.put_put] at this
        exact this
      · have := fitVs_den (σ := σ) hfit' hσ f1 s3
        rw [Env.put_put] at this
        exact this
      · have hd0 : Dfr σ pat.df a0.defers := by rw [hpdf]; exact hbeg.df
        rw [← f3] at s4
        exact Dfr.back s1.ext hd0 s4
  obtain ⟨k, hk⟩ := key v0 q hr
  refine ⟨k, fun σ a W hbeg hfr hrr Q hQ => ?_⟩
  have hfr : Fr st.nx M σ := hfr
  obtain ⟨f1, f2, f3, f4⟩ := matchSt_spec hm
  have hq := hr.last_res
  have htop : q.2.nx ≤ M := by rw [← hM]; exact res_top hq
  have hle : pat.nx ≤ q.2.nx := (mono_all n ρ).code _ _ _ _ _ hq
  refine hk σ a W hbeg hfr hrr Q (fun a' W' σ' s1 s2 s3 s4 => hQ a' W' σ' ⟨⟨q.2.mem, rfl, s1⟩, fun i x hi => ?_, by show st.nx ≤ M; omega, s3, s4⟩) a W ?_
  · rcases s2 i x hi with h | ⟨h1, h2⟩
    · exact .inl h
    · exact .inr ⟨by omega, by show i < M; omega⟩
  · refine ⟨⟨Ext.refl _, rfl, rfl, rfl, Nat.le_refl _, fun _ _ _ => rfl, fun i x hi => .inl hi, fun e => e, fun i c hi => ?_, Keep.refl _⟩, fitVs_den hfit (fun i x _ h => h) f1 hbeg.tm, by rw [hpdf]; exact hbeg.df⟩
    obtain ⟨g1, c', g2, g3⟩ := okMem_get f2 hi
    obtain ⟨x, g4, g5⟩ := hbeg.rel.blk _ _ g2
    exact ⟨x, g4, okBlk_den hfit (fun i x _ h => h) g3 g5 (fun s pe tm ps asg body df e L hL => hrec hbeg (Keep.refl _) g4 s pe tm ps asg body df (by rw [← e]; exact hi) L hL)⟩
end
end Go.Proofs.Ytinfmmofcadjgaa
