/- The symbolic executor is right: the other operations that neither look at memory nor turn it. -/
import Derived.Test.YtinfmmofcadjgaaZd
namespace Go.Proofs.Ytinfmmofcadjgaa
open Go.RowKit

section
variable {P : Program} {ρ : Env} {σ : As}

theorem cS0_den (v : Value) : (cS0 v).den ρ σ v := by cases v <;> simp [cS0, S0.den, B.ev, E.ev]
theorem cV2_den (v : Value) : (cV2 v).den ρ σ v := by
  unfold cV2
  split
  · rename_i cs
    refine ⟨cs.toList, ?_, by simp⟩
    generalize cs.toList = l
    induction l with
    | nil => trivial
    | cons a l ih => exact ⟨cS0_den a, ih⟩
  · exact cS0_den v

theorem unS_sound {o : UnOp} {p : V} {obs : List Ob} {v : V} (h : unS o p = some (obs, v)) {a : Value} (ha : p.den ρ σ a) (W : World) :
    ∃ u, (Op.unary o a).run P W = .ok u W ∧ v.den ρ σ u := by
  unfold unS at h
  split at h
  · rename_i k a'
    obtain rfl : a = .int k (a'.ev ρ) := ha
    split at h
    · simp only [okV, Option.some.injEq, Prod.mk.injEq] at h
      obtain ⟨rfl, rfl⟩ := h
      exact ⟨.int k (k.wrap (0 - a'.ev ρ)), by simp [Op.unary, Op.intArith], iV_den (by rw [E.arS_ev]; rfl)⟩
    · simp at h
  · rename_i b'
    obtain rfl : a = .bool (b'.ev ρ) := ha
    split at h
    · simp only [okV, Option.some.injEq, Prod.mk.injEq] at h
      obtain ⟨rfl, rfl⟩ := h
      exact ⟨.bool (!b'.ev ρ), by simp [Op.unary], bV_den (B.notS_ev _ _)⟩
    · simp at h
  · simp at h

theorem convS_sound {src dst : TypeId} {p : V} {obs : List Ob} {v : V} (h : convS P src dst p = some (obs, v)) {a : Value} (ha : p.den ρ σ a) (W : World) :
    ∃ u, (convert src dst a).run P W = .ok u W ∧ v.den ρ σ u := by
  unfold convS at h
  split at h
  · rename_i k a'
    obtain rfl : a = .int k (a'.ev ρ) := ha
    split at h
    · rename_i k' h1 h2
      simp only [okV, Option.some.injEq, Prod.mk.injEq] at h
      obtain ⟨rfl, rfl⟩ := h
      exact ⟨.int k' (k'.wrap (a'.ev ρ)), by simp [convert, run_underlying h1, run_underlying h2, Conv.intToInt], iV_den (E.wrS_ev _ _ _)⟩
    · simp at h
  · simp at h

theorem add_none (a off n : Nat) : (Addr.mk a off none).add n = ⟨a, off + n, none⟩ := by
  unfold Addr.add; split
  · subst n; rfl
  · rfl
theorem add_add (a : Addr) (m n : Nat) : (a.add m).add n = a.add (m + n) := by
  by_cases h1 : m = 0 <;> by_cases h2 : n = 0 <;> simp [Addr.add, h1, h2, Nat.add_assoc]

theorem fieldAddrS_sound {t : TypeId} {f : Nat} {p : V} {obs : List Ob} {v : V} (h : fieldAddrS P t f p = some (obs, v)) {a : Value} (ha : p.den ρ σ a) (W : World) :
    ∃ u, (Instr.fieldAt t a f).run P W = .ok u W ∧ v.den ρ σ u := by
  unfold fieldAddrS at h
  split at h
  · rename_i fs hu
    split at h
    · rename_i fd hf
      split at h
      · simp at h
      · rename_i hz
        split at h
        · rename_i i id off hi
          simp only [okV, Option.some.injEq, Prod.mk.injEq] at h
          obtain ⟨rfl, rfl⟩ := h
          obtain ⟨b, h1, rfl⟩ := ha
          exact ⟨.pointer (some ⟨b, off + fd.offset, none⟩), by simp [Instr.fieldAt, run_underlying hu, hf, Instr.sureAddr, fieldPlace, run_sizeOf hi, hz, add_none], b, h1, rfl⟩
        · rename_i i ks x e off hi
          simp only [okV, Option.some.injEq, Prod.mk.injEq] at h
          obtain ⟨rfl, rfl⟩ := h
          obtain ⟨q, n, c, h1, h2, h3, rfl⟩ := ha
          exact ⟨.pointer (some ((q.add ((e.ev ρ).toNat * ks.length + off)).add fd.offset)), by simp [Instr.fieldAt, run_underlying hu, hf, Instr.sureAddr, fieldPlace, run_sizeOf hi, hz], q, n, c, h1, h2, h3, by rw [add_add]; simp only [Nat.add_assoc]⟩
        · simp at h
    · simp at h
  · simp at h

theorem fieldS_sound {t : TypeId} {f : Nat} {p : V} {obs : List Ob} {v : V} (h : fieldS P t f p = some (obs, v)) {a : Value} (ha : p.den ρ σ a) (W : World) :
    ∃ u, (Instr.field t a f).run P W = .ok u W ∧ v.den ρ σ u := by
  unfold fieldS at h
  split at h
  · rename_i fs hu
    split at h
    · rename_i fd cs hf
      simp only [Option.map_eq_some_iff, Prod.mk.injEq] at h
      obtain ⟨x, hx, rfl, rfl⟩ := h
      obtain ⟨vs, h1, rfl⟩ := ha
      obtain ⟨u, h2, h3⟩ := part_sound hx h1 W
      exact ⟨u, by simp [Instr.field, run_underlying hu, hf, asAgg, h2], h3⟩
    · simp at h
  · simp at h

theorem indexAddrS_sound {t : TypeId} {p q : V} {obs : List Ob} {v : V} (h : indexAddrS P t p q = some (obs, v)) (ho : ∀ o ∈ obs, o.ok ρ) {a b : Value} (ha : p.den ρ σ a) (hb : q.den ρ σ b) (W : World) :
    ∃ u, (Instr.indexAt t a b).run P W = .ok u W ∧ v.den ρ σ u := by
  unfold indexAddrS at h
  split at h
  · rename_i e id off len cap k n hu
    split at h
    · rename_i hc
      simp only [Bool.and_eq_true, decide_eq_true_eq] at hc
      obtain ⟨⟨hc1, hc2⟩, hc3⟩ := hc
      obtain ⟨i, hi⟩ := Option.isSome_iff_exists.1 hc1
      simp only [okV, Option.some.injEq, Prod.mk.injEq] at h
      obtain ⟨rfl, rfl⟩ := h
      obtain rfl : b = .int k n := hb
      have key : ∀ (x c : Nat), (Instr.indexAt t (.slice (some ⟨x, off, none⟩) len c) (.int k n)).run P W = .ok (.pointer (some ⟨x, off + n.toNat * P.cellsOf e, none⟩)) W := by
        intro x c
        simp [Instr.indexAt, asIntOf, run_underlying hu, hc2, hc3, run_sizeOf hi, add_none]
      cases cap with
      | some c => obtain ⟨x, h1, rfl⟩ := ha; exact ⟨_, key x c, x, h1, rfl⟩
      | none => obtain ⟨x, c, h1, _, rfl⟩ := ha; exact ⟨_, key x c, x, h1, rfl⟩
    · simp at h
  · rename_i e ks x f k n hu
    split at h
    · rename_i hc1
      simp only [Bool.and_eq_true] at hc1
      obtain ⟨hc1, hc2⟩ := hc1
      have hc2 := natb hc2
      obtain ⟨i, hi⟩ := Option.isSome_iff_exists.1 hc1
      simp only [Option.some.injEq, Prod.mk.injEq] at h
      obtain ⟨rfl, rfl⟩ := h
      obtain rfl : b = .int k (n.ev ρ) := hb
      obtain ⟨a', m, c, rfl, hs, _⟩ := ha
      have o1 : (0 : Int) ≤ n.ev ρ := of_decide_eq_true (by have := ho _ (List.mem_cons_self ..); simp only [Ob.ok, B.cmpS_ev] at this; exact this)
      have o2 : n.ev ρ < ((x.ev ρ).length : Nat) := of_decide_eq_true (by have := ho _ (List.mem_cons_of_mem _ (List.mem_cons_self ..)); simp only [Ob.ok, B.cmpS_ev] at this; exact this)
      rw [hs.len] at o2
      obtain ⟨y, rfl⟩ := Option.isSome_iff_exists.1 (hs.there (by omega))
      refine ⟨.pointer (some (y.add ((n.ev ρ).toNat * P.cellsOf e))), ?_, y, m, c, hs, o1, o2, by rw [hc2]; rfl⟩
      simp [Instr.indexAt, asIntOf, run_underlying hu, o1, o2, run_sizeOf hi]
    · simp at h
  · rename_i m e id off k n hu
    split at h
    · rename_i hc
      simp only [Bool.and_eq_true, decide_eq_true_eq] at hc
      obtain ⟨⟨hc1, hc2⟩, hc3⟩ := hc
      obtain ⟨i, hi⟩ := Option.isSome_iff_exists.1 hc1
      simp only [okV, Option.some.injEq, Prod.mk.injEq] at h
      obtain ⟨rfl, rfl⟩ := h
      obtain rfl : b = .int k n := hb
      obtain ⟨x, h1, rfl⟩ := ha
      exact ⟨.pointer (some ⟨x, off + n.toNat * P.cellsOf e, none⟩), by simp [Instr.indexAt, asIntOf, run_underlying hu, Instr.sureAddr, hc2, hc3, run_sizeOf hi, add_none], x, h1, rfl⟩
    · simp at h
  · simp at h

theorem indexS_sound {t : TypeId} {p q : V} {obs : List Ob} {v : V} (h : indexS P t p q = some (obs, v)) {a b : Value} (ha : p.den ρ σ a) (hb : q.den ρ σ b) (W : World) :
    ∃ u, (Instr.index t a b).run P W = .ok u W ∧ v.den ρ σ u := by
  unfold indexS at h
  split at h
  · rename_i m e cs k n hu
    split at h
    · rename_i hc
      simp only [Bool.and_eq_true, decide_eq_true_eq] at hc
      obtain ⟨⟨hc1, hc2⟩, hc3⟩ := hc
      obtain ⟨i, hi⟩ := Option.isSome_iff_exists.1 hc1
      simp only [Option.map_eq_some_iff, Prod.mk.injEq] at h
      obtain ⟨x, hx, rfl, rfl⟩ := h
      obtain rfl : b = .int k n := hb
      obtain ⟨vs, h1, rfl⟩ := ha
      obtain ⟨u, h2, h3⟩ := part_sound hx h1 W
      exact ⟨u, by simp [Instr.index, asIntOf, run_underlying hu, hc2, hc3, run_sizeOf hi, h2], h3⟩
    · simp at h
  · simp at h

theorem S0s_den : ∀ {cs : List S} {l : List S0} {vs : List Value}, S0s cs = some l → DL (S.den ρ σ) cs vs → DL (S0.den ρ σ) l vs
  | [], l, [], h, _ => by simp only [S0s, Option.some.injEq] at h; subst h; trivial
  | .z s :: cs, l, v :: vs, h, ⟨h1, h2⟩ => by
    simp only [S0s, Option.map_eq_some_iff] at h
    obtain ⟨r, hr, rfl⟩ := h
    exact ⟨h1, S0s_den hr h2⟩
  | .iface t a c :: cs, l, vs, h, _ => by simp [S0s] at h
  | .meth n t a c :: cs, l, vs, h, _ => by simp [S0s] at h
theorem DL_z : ∀ {cs : List S0} {vs : List Value}, DL (S0.den ρ σ) cs vs → DL (S.den ρ σ) (cs.map .z) vs
  | [], [], _ => trivial
  | _ :: _, _ :: _, ⟨h1, h2⟩ => ⟨h1, DL_z h2⟩

theorem makeIfaceS_sound {t : TypeId} {p : V} {obs : List Ob} {v : V} (h : makeIfaceS P t p = some (obs, v)) {a : Value} (ha : p.den ρ σ a) (W : World) :
    ∃ u, (Instr.makeInterface t a).run P W = .ok u W ∧ v.den ρ σ u := by
  unfold makeIfaceS at h
  split at h
  · simp at h
  · rename_i d s hd hu
    simp only [okV, Option.some.injEq, Prod.mk.injEq] at h
    obtain ⟨rfl, rfl⟩ := h
    refine ⟨.iface t a, ?_, a, ⟨ha, trivial⟩, rfl⟩
    cases d <;> first | (simp [Instr.makeInterface, run_underlying hu]; done) | exact absurd rfl (hd _)
  · rename_i d cs hd hu
    simp only [Option.map_eq_some_iff, Prod.mk.injEq] at h
    obtain ⟨l, hl, rfl, rfl⟩ := h
    obtain ⟨vs, h1, rfl⟩ := ha
    refine ⟨.iface t (.agg vs.toArray), ?_, vs, S0s_den hl h1, rfl⟩
    cases d <;> first | (simp [Instr.makeInterface, run_underlying hu]; done) | exact absurd rfl (hd _)
  · simp at h

theorem unface_den {t : TypeId} {agg : Bool} {cs : List S0} {x : V2} (h : unface agg cs = some x) {a : Value} (ha : (S.iface t agg cs).den ρ σ a) : ∃ u, a = .iface t u ∧ x.den ρ σ u := by
  unfold unface at h
  cases agg with
  | true =>
    simp only [if_true, Option.some.injEq] at h
    subst h
    obtain ⟨vs, h1, rfl⟩ := ha
    exact ⟨_, rfl, vs, DL_z h1, rfl⟩
  | false =>
    simp only [Bool.false_eq_true, if_false] at h
    split at h
    · simp only [Option.some.injEq] at h
      subst h
      obtain ⟨u, h1, rfl⟩ := ha
      exact ⟨u, rfl, h1.1⟩
    · simp at h
theorem meth_den {nm : String} {t : TypeId} {agg : Bool} {cs : List S0} {a : Value} : (S.meth nm t agg cs).den ρ σ a ↔ ∃ u, (S.iface t agg cs).den ρ σ u ∧ a = .func (.method nm) #[u] #[] := by
  cases agg
  · exact ⟨fun ⟨u, h1, h2⟩ => ⟨_, ⟨u, h1, rfl⟩, h2⟩, fun ⟨_, ⟨u, h1, h2⟩, h3⟩ => ⟨u, h1, by rw [h3, h2]⟩⟩
  · exact ⟨fun ⟨u, h1, h2⟩ => ⟨_, ⟨u, h1, rfl⟩, h2⟩, fun ⟨_, ⟨u, h1, h2⟩, h3⟩ => ⟨u, h1, by rw [h3, h2]⟩⟩
theorem iface_den {t : TypeId} {agg : Bool} {cs : List S0} {a : Value} (ha : (S.iface t agg cs).den ρ σ a) : ∃ u, a = .iface t u := by
  cases agg with
  | true => obtain ⟨vs, _, rfl⟩ := ha; exact ⟨_, rfl⟩
  | false => obtain ⟨u, _, rfl⟩ := ha; exact ⟨_, rfl⟩

theorem typeAssertS_sound {xt t : TypeId} {ok : Bool} {p : V} {obs : List Ob} {v : V} (h : typeAssertS P t ok p = some (obs, v)) {a : Value} (ha : p.den ρ σ a) (W : World) :
    ∃ u, (Instr.typeAssert a xt t ok).run P W = .ok u W ∧ v.den ρ σ u := by
  unfold typeAssertS at h
  split at h
  · simp at h
  · rename_i d dt agg cs hd hu
    obtain ⟨i, hi⟩ := info_of_underlying hu
    split at h
    · rename_i he
      simp only [Option.map_eq_some_iff, Prod.mk.injEq] at h
      obtain ⟨x, hx, rfl, rfl⟩ := h
      obtain ⟨u, rfl, h2⟩ := unface_den hx ha
      subst he
      cases ok with
      | true =>
        refine ⟨.tuple #[u, .bool true], ?_, [u, .bool true], ⟨h2, rfl, trivial⟩, rfl⟩
        cases d <;> first | (simp [Instr.typeAssert, run_underlying hu]; done) | exact absurd rfl (hd _)
      | false =>
        refine ⟨u, ?_, h2⟩
        cases d <;> first | (simp [Instr.typeAssert, run_underlying hu]; done) | exact absurd rfl (hd _)
    · rename_i he
      split at h
      · rename_i hok
        subst hok
        split at h
        · rename_i i' hi'
          simp only [Option.map_eq_some_iff, Prod.mk.injEq] at h
          obtain ⟨z, hz, rfl, rfl⟩ := h
          obtain ⟨u, rfl⟩ := iface_den ha
          refine ⟨.tuple #[z, .bool false], ?_, [z, .bool false], ⟨cV2_den z, rfl, trivial⟩, rfl⟩
          cases d <;> first | (simp [Instr.typeAssert, run_underlying hu, he, zeroValue, typeInfo, hi', hz]; done) | exact absurd rfl (hd _)
        · simp at h
      · simp at h
  · simp at h
end
end Go.Proofs.Ytinfmmofcadjgaa
