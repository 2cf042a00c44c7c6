/- The symbolic executor is right: operations that neither look at memory nor turn it. -/
import Derived.Test.YtinfmmofcadjgaaZc
namespace Go.Proofs.Ytinfmmofcadjgaa
open Go.RowKit

section
variable {P : Program} {ρ : Env} {σ : As}

theorem iV_den {k : IntKind} {e : E} {n : Int} (h : e.ev ρ = n) : (iV k e).den ρ σ (.int k n) := by
  show Value.int k n = .int k (e.ev ρ); rw [h]
theorem bV_den {b : B} {c : Bool} (h : b.ev ρ = c) : (bV b).den ρ σ (.bool c) := by
  show Value.bool c = .bool (b.ev ρ); rw [h]

theorem info_of_underlying {t : TypeId} {d : TypeDesc} (h : P.underlying t = some d) : ∃ i, P.info? t = some i := by
  unfold Program.underlying at h
  cases hi : P.info? t with
  | none => rw [hi] at h; simp at h
  | some i => exact ⟨i, rfl⟩
theorem run_isAgg {t : TypeId} {d : TypeDesc} (h : P.underlying t = some d) (W : World) : (isAgg t).run P W = .ok (isAggT P t) W := by
  unfold isAggT
  rw [h]
  cases d <;> simp [isAgg, run_underlying h]
theorem run_sizeOf {t : TypeId} {i : TypeInfo} (h : P.info? t = some i) (W : World) : (sizeOf t).run P W = .ok (P.cellsOf t) W := by
  simp [sizeOf, typeInfo, h, Program.cellsOf]

theorem part_sound {t : TypeId} {cs : List S} {off : Nat} {x : V2} {vs : List Value} (h : partS P t cs off = some x) (hd : DL (S.den ρ σ) cs vs) (W : World) :
    ∃ u, (part t vs.toArray off).run P W = .ok u W ∧ x.den ρ σ u := by
  unfold partS at h
  split at h
  · simp at h
  · rename_i d hu
    obtain ⟨i, hi⟩ := info_of_underlying hu
    by_cases ha : isAggT P t = true
    · rw [if_pos ha] at h
      split at h
      · simp only [Option.some.injEq] at h
        subst h
        refine ⟨_, by simp [part, run_isAgg hu, ha, run_sizeOf hi]; rfl, (vs.drop off).take (P.cellsOf t), (hd.drop _).take _, ?_⟩
        simp [List.take_drop, Nat.add_comm]
      · simp at h
    · rw [if_neg ha] at h
      simp only [Option.map_eq_some_iff] at h
      obtain ⟨a, h1, rfl⟩ := h
      obtain ⟨v, h2, h3⟩ := hd.get h1
      refine ⟨v, ?_, h3⟩
      simp only [Bool.not_eq_true] at ha
      simp [part, run_isAgg hu, ha, h2]

theorem eqFs_sound {f : TypeId → V2 → V2 → Option B} (d : Nat) (W : World)
    (hf : ∀ t x y b u v, f t x y = some b → x.den ρ σ u → y.den ρ σ v → (Op.equalIn d t u v).run P W = .ok (b.ev ρ) W)
    {xs ys : List S} {us vs : List Value} (h1 : DL (S.den ρ σ) xs us) (h2 : DL (S.den ρ σ) ys vs) : ∀ (fs : List Field) (b : B), eqFs P f xs ys fs = some b →
    (Op.eqFields d us.toArray vs.toArray fs).run P W = .ok (b.ev ρ) W
  | [], b, h => by
    simp only [eqFs, Option.some.injEq] at h
    subst h
    simp [Op.eqFields, B.ev]
  | fd :: r, b, h => by
    simp only [eqFs] at h
    split at h
    · simp at h
    · rename_i hn
      split at h
      · rename_i p q hp hq
        split at h
        · rename_i a c ha hc
          simp only [Option.some.injEq] at h
          subst h
          obtain ⟨u, hu1, hu2⟩ := part_sound hp h1 W
          obtain ⟨v, hv1, hv2⟩ := part_sound hq h2 W
          have e := hf _ _ _ _ _ _ ha hu2 hv2
          have ih := eqFs_sound d W hf h1 h2 r c hc
          rw [B.andS_ev]
          simp only [Op.eqFields, ne_eq, hn, not_false_eq_true, if_true, Sem.run_bind, hu1, hv1, e, Result.andThen_ok]
          cases a.ev ρ <;> simp [ih]
        · simp at h
      · simp at h

theorem eqV2_sound (W : World) : ∀ (n d : Nat), n ≤ d → ∀ (t : TypeId) (x y : V2) (b : B) (u v : Value), eqV2 P n t x y = some b → x.den ρ σ u → y.den ρ σ v →
    (Op.equalIn d t u v).run P W = .ok (b.ev ρ) W
  | 0, _, _, _, _, _, _, _, _, h, _, _ => by simp [eqV2] at h
  | n + 1, 0, hd, _, _, _, _, _, _, _, _, _ => by omega
  | n + 1, d + 1, hd, t, x, y, b, u, v, h, hx, hy => by
    simp only [eqV2] at h
    split at h
    · rename_i hu
      split at h
      · rename_i hk
        subst hk
        simp only [Option.some.injEq] at h
        subst h
        rename_i k0 j p q
        have e1 : u = .int j (p.ev ρ) := hx
        have e2 : v = .int j (q.ev ρ) := hy
        subst e1; subst e2
        rw [B.cmpS_ev, run_equalIn_int W d t _ _ _ _ hu]
        rfl
      · simp at h
    · rename_i hu
      simp only [Option.some.injEq] at h
      subst h
      rename_i p q
      have e1 : u = .bool (p.ev ρ) := hx
      have e2 : v = .bool (q.ev ρ) := hy
      subst e1; subst e2
      rw [B.eqS_ev, run_equalIn_bool' W d t _ _ hu]
    · rename_i fs xs ys hu
      split at h
      · simp at h
      · rename_i hs
        simp only [Bool.not_eq_true] at hs
        obtain ⟨us, h1, rfl⟩ := hx
        obtain ⟨vs, h2, rfl⟩ := hy
        have hfs : P.fieldsOf t = fs := by simp [Program.fieldsOf, hu]
        rw [run_equalIn_struct W d t _ _ (by rw [hfs]; exact hu) hs, hfs]
        exact eqFs_sound d W (fun t x y b u v hf hx hy => eqV2_sound W n d (by omega) t x y b u v hf hx hy) h1 h2 fs.toList b h
    · simp at h

theorem div_bin {o : BinOp} (hq : o = .quo ∨ o = .rem) {t : TypeId} {k : IntKind} {a b : E} {obs : List Ob} {v : V}
    (h : (match B.cmpS .neq b (.lit 0) with | .lit true => some ([], V.v (.one (.z (.int k (.arS o k a b))))) | .lit false => none | c => some ([.tru c], V.v (.one (.z (.int k (.arS o k a b)))))) = some (obs, v))
    (ho : ∀ o ∈ obs, o.ok ρ) (x y : Operand) (W : World) :
    ∃ u, (eqGuard o t x y (.int k (a.ev ρ)) (.int k (b.ev ρ)) >>= fun _ => binOp o t (.int k (a.ev ρ)) (.int k (b.ev ρ))).run P W = .ok u W ∧ v.den ρ σ u := by
  have hne : b.ev ρ ≠ 0 := by
    have hc := B.cmpS_ev ρ .neq b (.lit 0)
    simp only [cmpEv, E.ev] at hc
    split at h
    · rename_i e; rw [e] at hc; simpa [B.ev] using hc.symm
    · simp at h
    · simp only [Option.some.injEq, Prod.mk.injEq] at h
      obtain ⟨rfl, _⟩ := h
      have := ho _ (List.mem_singleton.2 rfl)
      simp only [Ob.ok] at this
      rw [this] at hc
      simpa using hc.symm
  have hv : v = iV k (.arS o k a b) := by
    split at h
    · simp only [Option.some.injEq, Prod.mk.injEq] at h; exact h.2.symm
    · simp at h
    · simp only [Option.some.injEq, Prod.mk.injEq] at h; exact h.2.symm
  subst hv
  rcases hq with rfl | rfl
  · exact ⟨_, by simp [eqGuard, binOp, Op.intDiv, hne]; rfl, iV_den (E.arS_ev _ _ _ _ _)⟩
  · exact ⟨_, by simp [eqGuard, binOp, Op.intDiv, hne]; rfl, iV_den (E.arS_ev _ _ _ _ _)⟩
theorem shr_bin {t : TypeId} {k k' : IntKind} {a b : E} {obs : List Ob} {v : V} (h : shrS k a b = some (obs, v)) (x y : Operand) (W : World) :
    ∃ u, (eqGuard .shr t x y (.int k (a.ev ρ)) (.int k' (b.ev ρ)) >>= fun _ => binOp .shr t (.int k (a.ev ρ)) (.int k' (b.ev ρ))).run P W = .ok u W ∧ v.den ρ σ u := by
  unfold shrS at h
  split at h
  · rename_i n
    split at h
    · rename_i hn
      simp only [okV, Option.some.injEq, Prod.mk.injEq] at h
      obtain ⟨_, rfl⟩ := h
      have hn' : ¬ n < 0 := by omega
      refine ⟨.int k ((a.ev ρ).fdiv (2 ^ min n.toNat k.bits)), by simp [eqGuard, binOp, Op.shift, E.ev, hn'], iV_den ?_⟩
      rw [E.arS_ev]
      simp [arEv, E.ev]
    · simp at h
  · simp at h
theorem int_bin {o : BinOp} {t : TypeId} {k : IntKind} {a b : E} {obs : List Ob} {v : V} (h : binS P o t (iV k a) (iV k b) = some (obs, v)) (ho : ∀ o ∈ obs, o.ok ρ) (x y : Operand) (W : World) :
    ∃ u, (eqGuard o t x y (.int k (a.ev ρ)) (.int k (b.ev ρ)) >>= fun _ => binOp o t (.int k (a.ev ρ)) (.int k (b.ev ρ))).run P W = .ok u W ∧ v.den ρ σ u := by
  have hb : binS P o t (iV k a) (iV k b) = some (obs, v) := h
  cases o <;> simp [binS, iV, V.s0, okV] at h
  case add => obtain ⟨rfl, rfl⟩ := h; exact ⟨_, by simp [eqGuard, binOp, Op.intArith]; rfl, iV_den (E.arS_ev _ _ _ _ _)⟩
  case sub => obtain ⟨rfl, rfl⟩ := h; exact ⟨_, by simp [eqGuard, binOp, Op.intArith]; rfl, iV_den (E.arS_ev _ _ _ _ _)⟩
  case mul => obtain ⟨rfl, rfl⟩ := h; exact ⟨_, by simp [eqGuard, binOp, Op.intArith]; rfl, iV_den (E.arS_ev _ _ _ _ _)⟩
  case eql => obtain ⟨rfl, rfl⟩ := h; exact ⟨_, by simp [eqGuard, binOp, Op.intCmp]; rfl, bV_den (B.cmpS_ev _ _ _ _)⟩
  case neq => obtain ⟨rfl, rfl⟩ := h; exact ⟨_, by simp [eqGuard, binOp, Op.intCmp]; rfl, bV_den (B.cmpS_ev _ _ _ _)⟩
  case lss => obtain ⟨rfl, rfl⟩ := h; exact ⟨_, by simp [eqGuard, binOp, Op.intCmp]; rfl, bV_den (B.cmpS_ev _ _ _ _)⟩
  case leq => obtain ⟨rfl, rfl⟩ := h; exact ⟨_, by simp [eqGuard, binOp, Op.intCmp]; rfl, bV_den (B.cmpS_ev _ _ _ _)⟩
  case gtr => obtain ⟨rfl, rfl⟩ := h; exact ⟨_, by simp [eqGuard, binOp, Op.intCmp]; rfl, bV_den (B.cmpS_ev _ _ _ _)⟩
  case geq => obtain ⟨rfl, rfl⟩ := h; exact ⟨_, by simp [eqGuard, binOp, Op.intCmp]; rfl, bV_den (B.cmpS_ev _ _ _ _)⟩
  case quo => exact div_bin (.inl rfl) h ho x y W
  case rem => exact div_bin (.inr rfl) h ho x y W
  case shr => exact shr_bin h x y W

theorem bool_bin {o : BinOp} {t : TypeId} {a b : B} {obs : List Ob} {v : V} (h : binS P o t (bV a) (bV b) = some (obs, v)) (x y : Operand) (W : World) :
    ∃ u, (eqGuard o t x y (.bool (a.ev ρ)) (.bool (b.ev ρ)) >>= fun _ => binOp o t (.bool (a.ev ρ)) (.bool (b.ev ρ))).run P W = .ok u W ∧ v.den ρ σ u := by
  simp only [binS, bV, V.s0, okV] at h
  split at h
  · rename_i hu
    simp only [Option.some.injEq, Prod.mk.injEq] at h
    obtain ⟨rfl, rfl⟩ := h
    exact ⟨.bool (a.ev ρ == b.ev ρ), by simp [eqGuard, run_eql_bool W t _ _ hu], bV_den (B.eqS_ev _ _ _)⟩
  · rename_i hu
    simp only [Option.some.injEq, Prod.mk.injEq] at h
    obtain ⟨rfl, rfl⟩ := h
    exact ⟨.bool (!(a.ev ρ == b.ev ρ)), by simp [eqGuard, run_neq_bool W t _ _ hu], bV_den (by rw [B.notS_ev, B.eqS_ev])⟩
  · simp at h

theorem agg_bin {o : BinOp} {t : TypeId} {xs ys : List S} {obs : List Ob} {v : V} (h : binS P o t (.v (.agg xs)) (.v (.agg ys)) = some (obs, v)) {us vs : List Value} (h1 : DL (S.den ρ σ) xs us) (h2 : DL (S.den ρ σ) ys vs) (x y : Operand) (W : World) :
    ∃ u, (eqGuard o t x y (.agg us.toArray) (.agg vs.toArray) >>= fun _ => binOp o t (.agg us.toArray) (.agg vs.toArray)).run P W = .ok u W ∧ v.den ρ σ u := by
  simp only [binS] at h
  split at h
  · rename_i hg
    simp only [Bool.not_eq_true'] at hg
    split at h
    · simp only [Option.map_eq_some_iff, Prod.mk.injEq] at h
      obtain ⟨b, hb, rfl, rfl⟩ := h
      have e := eqV2_sound (ρ := ρ) (σ := σ) W 20 10000 (by omega) t _ _ b _ _ hb ⟨us, h1, rfl⟩ ⟨vs, h2, rfl⟩
      exact ⟨.bool (b.ev ρ), by simp [run_eqGuard_agg W _ _ _ _ _ _ hg, run_eql_struct, e], bV_den rfl⟩
    · simp only [Option.map_eq_some_iff, Prod.mk.injEq] at h
      obtain ⟨b, hb, rfl, rfl⟩ := h
      have e := eqV2_sound (ρ := ρ) (σ := σ) W 20 10000 (by omega) t _ _ b _ _ hb ⟨us, h1, rfl⟩ ⟨vs, h2, rfl⟩
      exact ⟨.bool (!b.ev ρ), by simp [run_eqGuard_agg W _ _ _ _ _ _ hg, run_neq_struct, e], bV_den (B.notS_ev _ _)⟩
    · simp at h
  · simp at h

theorem binS_sound {o : BinOp} {t : TypeId} {p q : V} {obs : List Ob} {v : V} (h : binS P o t p q = some (obs, v)) (ho : ∀ o ∈ obs, o.ok ρ) {a b : Value} (ha : p.den ρ σ a) (hb : q.den ρ σ b) (x y : Operand) (W : World) :
    ∃ u, (eqGuard o t x y a b >>= fun _ => binOp o t a b).run P W = .ok u W ∧ v.den ρ σ u := by
  have h0 := h
  unfold binS at h
  split at h
  · rename_i k a' k' b'
    split at h
    · rename_i ho
      subst ho
      obtain rfl : a = .int k (a'.ev ρ) := ha
      obtain rfl : b = .int k' (b'.ev ρ) := hb
      exact shr_bin h x y W
    · split at h
      · rename_i hk
        subst hk
        obtain rfl : a = .int k (a'.ev ρ) := ha
        obtain rfl : b = .int k (b'.ev ρ) := hb
        exact int_bin h0 ho x y W
      · simp at h
  · rename_i a' b'
    obtain rfl : a = .bool (a'.ev ρ) := ha
    obtain rfl : b = .bool (b'.ev ρ) := hb
    exact bool_bin h0 x y W
  · obtain ⟨us, h1, rfl⟩ := ha
    obtain ⟨vs, h2, rfl⟩ := hb
    exact agg_bin h0 h1 h2 x y W
  · simp at h
end
end Go.Proofs.Ytinfmmofcadjgaa
