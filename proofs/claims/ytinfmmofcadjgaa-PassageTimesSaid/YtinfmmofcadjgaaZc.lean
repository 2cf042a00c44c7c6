/- The symbolic executor is right: what its values and its memory stand for; steps from world to world. -/
import Derived.Test.YtinfmmofcadjgaaZb
namespace Go.Proofs.Ytinfmmofcadjgaa
open Go.RowKit

/-- Which block an id names. -/
abbrev As := Nat → Option Nat
def DL {α : Type} (R : α → Value → Prop) : List α → List Value → Prop
  | [], [] => True
  | a :: l, v :: vs => R a v ∧ DL R l vs
  | _, _ => False
/-! ### What data stands for in memory -/
mutual
def CK.rep (w : World) : CK → Value → D → Prop
  | .int k, v, d => ∃ n, v = .int k n ∧ d = .i n
  | .bool, v, d => ∃ b, v = .bool b ∧ d = .b b
  | .sl ks, v, d => ∃ r a n c, d = .l r ∧ v = .slice a n c ∧ r.length = n ∧ n ≤ c ∧ n ≤ 281474976710656 ∧ (0 < n → a.isSome = true) ∧ ∀ b, a = some b →
      ∀ (i : Nat) (row : List D), r[i]? = some row → ∃ vs, CK.reps w ks vs row ∧ ∀ (j : Nat) (v : Value), vs[j]? = some v → w.cell? (b.add (i * ks.length + j)) = some v
def CK.reps (w : World) : List CK → List Value → List D → Prop
  | [], vs, ds => vs = [] ∧ ds = []
  | k :: ks, vs, ds => ∃ v vs' d ds', vs = v :: vs' ∧ ds = d :: ds' ∧ CK.rep w k v d ∧ CK.reps w ks vs' ds'
end
/-- A slice whose elements are rows of data. -/
structure SlAt (w : World) (ks : List CK) (a : Option Addr) (n c : Nat) (r : Rows) : Prop where
  len : r.length = n
  cap : n ≤ c
  big : n ≤ 281474976710656
  there : 0 < n → a.isSome = true
  cell : ∀ b, a = some b → ∀ (i : Nat) (row : List D), r[i]? = some row → ∃ vs, CK.reps w ks vs row ∧ ∀ (j : Nat) (v : Value), vs[j]? = some v → w.cell? (b.add (i * ks.length + j)) = some v
def Sl (w : World) (ks : List CK) (v : Value) (r : Rows) (full : Bool) : Prop := ∃ a n c, v = .slice a n c ∧ SlAt w ks a n c r ∧ (full = true → c = n)
theorem rep_sl {w : World} {ks : List CK} {v : Value} {d : D} : CK.rep w (.sl ks) v d ↔ ∃ r, d = .l r ∧ Sl w ks v r false := by
  unfold CK.rep
  constructor
  · rintro ⟨r, a, n, c, rfl, rfl, h1, h2, h3, h4, h5⟩
    exact ⟨r, rfl, a, n, c, rfl, ⟨h1, h2, h3, h4, h5⟩, by simp⟩
  · rintro ⟨r, rfl, a, n, c, rfl, ⟨h1, h2, h3, h4, h5⟩, _⟩
    exact ⟨r, a, n, c, rfl, rfl, h1, h2, h3, h4, h5⟩
theorem reps_len {w : World} : ∀ {ks : List CK} {vs : List Value} {ds : List D}, CK.reps w ks vs ds → vs.length = ks.length ∧ ds.length = ks.length
  | [], vs, ds, h => by unfold CK.reps at h; obtain ⟨rfl, rfl⟩ := h; exact ⟨rfl, rfl⟩
  | k :: ks, vs, ds, h => by
    unfold CK.reps at h
    obtain ⟨v, vs', d, ds', rfl, rfl, _, h⟩ := h
    obtain ⟨h1, h2⟩ := reps_len h
    simp [h1, h2]
theorem reps_get {w : World} : ∀ {ks : List CK} {vs : List Value} {ds : List D} {j : Nat} {k : CK}, CK.reps w ks vs ds → ks[j]? = some k → ∃ v d, vs[j]? = some v ∧ ds[j]? = some d ∧ CK.rep w k v d
  | [], vs, ds, j, k, _, hj => by simp at hj
  | k0 :: ks, vs, ds, j, k, h, hj => by
    unfold CK.reps at h
    obtain ⟨v, vs', d, ds', rfl, rfl, h0, h⟩ := h
    cases j with
    | zero => simp at hj; subst hj; exact ⟨v, d, rfl, rfl, h0⟩
    | succ j => simpa using reps_get h (by simpa using hj)
def capDen (σ : As) (p : Nat × Nat) (v : Value) : Prop := ∃ a, σ p.1 = some a ∧ v = .pointer (some ⟨a, p.2, none⟩)
def S0.den (ρ : Env) (σ : As) : S0 → Value → Prop
  | .bool b, v => v = .bool (b.ev ρ)
  | .int k e, v => v = .int k (e.ev ρ)
  | .ptr id off, v => ∃ a, σ id = some a ∧ v = .pointer (some ⟨a, off, none⟩)
  | .sl id off len (some c), v => ∃ a, σ id = some a ∧ v = .slice (some ⟨a, off, none⟩) len c
  | .sl id off len none, v => ∃ a c, σ id = some a ∧ len ≤ c ∧ v = .slice (some ⟨a, off, none⟩) len c
  | .ext ks x f, v => Sl ρ.w ks v (x.ev ρ) f
  | .eptr ks x i off, v => ∃ b n c, SlAt ρ.w ks (some b) n c (x.ev ρ) ∧ 0 ≤ i.ev ρ ∧ i.ev ρ < (n : Int) ∧ v = .pointer (some (b.add ((i.ev ρ).toNat * ks.length + off)))
  | .clo f cap, v => ∃ vs, DL (capDen σ) cap vs ∧ v = .func (.func f) #[] vs.toArray
  | .yl id, v => ∃ a, σ id = some a ∧ v = .func (.yield a) #[] #[]
  | .const c, v => v = c
  | .any, _ => True
def S.den (ρ : Env) (σ : As) : S → Value → Prop
  | .z s, v => s.den ρ σ v
  | .iface t true cs, v => ∃ vs, DL (S0.den ρ σ) cs vs ∧ v = .iface t (.agg vs.toArray)
  | .iface t false cs, v => ∃ u, DL (S0.den ρ σ) cs [u] ∧ v = .iface t u
  | .meth nm t true cs, v => ∃ vs, DL (S0.den ρ σ) cs vs ∧ v = .func (.method nm) #[.iface t (.agg vs.toArray)] #[]
  | .meth nm t false cs, v => ∃ u, DL (S0.den ρ σ) cs [u] ∧ v = .func (.method nm) #[.iface t u] #[]
def V2.den (ρ : Env) (σ : As) : V2 → Value → Prop
  | .one s, v => s.den ρ σ v
  | .agg cs, v => ∃ vs, DL (S.den ρ σ) cs vs ∧ v = .agg vs.toArray
def V.den (ρ : Env) (σ : As) : V → Value → Prop
  | .v x, u => x.den ρ σ u
  | .tup l, u => ∃ vs, DL (V2.den ρ σ) l vs ∧ u = .tuple vs.toArray
def BDen (ρ : Env) (σ : As) : Blk → Option Obj → Prop
  | .cells t cs, o => ∃ vs, DL (S.den ρ σ) cs vs ∧ o = some (.cells vs.toArray t (0, 0))
  | .row t cs, o => ∃ vs ex, DL (S.den ρ σ) cs vs ∧ o = some (.cells (vs ++ ex).toArray t (0, 0))
  | .loop st pend tm ps asg body df, o => ∃ fn tv d, DL (V.den ρ σ) tm tv ∧ σ df = some d ∧
      o = some (.loop { state := st, pending := pend, fn := fn, tmps := tv.toArray, params := ps.toArray, assign := asg, body := body, defers := d })
  | .dfd shut, o => o = some (.deferred (if shut then none else some []))
  | .gone, o => o.isSome = true

/-! Lists -/
section
variable {α : Type} {R R' : α → Value → Prop}
theorem DL.mono (h : ∀ a v, R a v → R' a v) : ∀ {l : List α} {vs : List Value}, DL R l vs → DL R' l vs
  | [], [], _ => trivial
  | _ :: _, _ :: _, ⟨h1, h2⟩ => ⟨h _ _ h1, DL.mono h h2⟩
theorem DL.length : ∀ {l : List α} {vs : List Value}, DL R l vs → l.length = vs.length
  | [], [], _ => rfl
  | _ :: _, _ :: _, ⟨_, h⟩ => by simp [DL.length h]
theorem DL.get : ∀ {l : List α} {vs : List Value} {i : Nat} {a : α}, DL R l vs → l[i]? = some a → ∃ v, vs[i]? = some v ∧ R a v
  | [], [], i, a, _, h => by simp at h
  | x :: l, v :: vs, 0, a, h, h' => by simp at h'; subst h'; exact ⟨v, rfl, h.1⟩
  | x :: l, v :: vs, i + 1, a, h, h' => by
    simp only [List.getElem?_cons_succ] at h' ⊢
    exact DL.get h.2 h'
theorem DL.append : ∀ {l l' : List α} {vs vs' : List Value}, DL R l vs → DL R l' vs' → DL R (l ++ l') (vs ++ vs')
  | [], _, [], _, _, h => h
  | _ :: _, _, _ :: _, _, ⟨h1, h2⟩, h => ⟨h1, DL.append h2 h⟩
theorem DL.take : ∀ {l : List α} {vs : List Value} (n : Nat), DL R l vs → DL R (l.take n) (vs.take n)
  | _, _, 0, _ => by simp [DL]
  | [], [], _ + 1, _ => by simp [DL]
  | _ :: _, _ :: _, n + 1, ⟨h1, h2⟩ => ⟨h1, DL.take n h2⟩
theorem DL.drop : ∀ {l : List α} {vs : List Value} (n : Nat), DL R l vs → DL R (l.drop n) (vs.drop n)
  | _, _, 0, h => h
  | [], [], _ + 1, _ => by simp [DL]
  | _ :: _, _ :: _, n + 1, ⟨_, h2⟩ => DL.drop n h2
theorem DL.set : ∀ {l : List α} {vs : List Value} (i : Nat) {a : α} {v : Value}, DL R l vs → R a v → DL R (l.set i a) (vs.set i v)
  | [], [], _, _, _, _, _ => by simp [DL]
  | _ :: _, _ :: _, 0, _, _, ⟨_, h2⟩, h => ⟨h, h2⟩
  | _ :: _, _ :: _, i + 1, _, _, ⟨h1, h2⟩, h => ⟨h1, DL.set i h2 h⟩
theorem DL.replicate (n : Nat) {a : α} {v : Value} (h : R a v) : DL R (List.replicate n a) (List.replicate n v) := by
  induction n with
  | zero => simp [DL]
  | succ n ih => exact ⟨h, ih⟩
theorem DL.map {β : Type} {S : β → Value → Prop} (f : α → β) (h : ∀ a v, R a v → S (f a) v) : ∀ {l : List α} {vs : List Value}, DL R l vs → DL S (l.map f) vs
  | [], [], _ => trivial
  | _ :: _, _ :: _, ⟨h1, h2⟩ => ⟨h _ _ h1, DL.map f h h2⟩
theorem DL.cons_inv {a : α} {l : List α} {vs : List Value} (h : DL R (a :: l) vs) : ∃ v vs', vs = v :: vs' ∧ R a v ∧ DL R l vs' := by
  cases vs with
  | nil => exact h.elim
  | cons v vs' => exact ⟨v, vs', rfl, h.1, h.2⟩
theorem DL.nil_inv {vs : List Value} (h : DL R ([] : List α) vs) : vs = [] := by
  cases vs with
  | nil => rfl
  | cons v vs' => exact h.elim
theorem DL.append_inv : ∀ {l l' : List α} {vs : List Value}, DL R (l ++ l') vs → ∃ us us', vs = us ++ us' ∧ DL R l us ∧ DL R l' us'
  | [], l', vs, h => ⟨[], vs, rfl, trivial, h⟩
  | a :: l, l', vs, h => by
    obtain ⟨v, vs', rfl, h1, h2⟩ := DL.cons_inv h
    obtain ⟨us, us', rfl, h3, h4⟩ := DL.append_inv h2
    exact ⟨v :: us, us', rfl, ⟨h1, h3⟩, h4⟩
end

/-! More ids -/
def Ext (σ σ' : As) : Prop := ∀ i a, σ i = some a → σ' i = some a
theorem Ext.refl (σ : As) : Ext σ σ := fun _ _ h => h
theorem Ext.trans {a b c : As} (h : Ext a b) (k : Ext b c) : Ext a c := fun _ _ e => k _ _ (h _ _ e)
section
variable {ρ : Env} {σ σ' : As} (hx : Ext σ σ')
include hx
theorem capDen.ext {p : Nat × Nat} {v : Value} : capDen σ p v → capDen σ' p v := fun ⟨a, h1, h2⟩ => ⟨a, hx _ _ h1, h2⟩
theorem S0.den_ext : ∀ (s : S0) (v : Value), s.den ρ σ v → s.den ρ σ' v
  | .bool _, _, h => h
  | .int _ _, _, h => h
  | .ptr _ _, _, ⟨a, h1, h2⟩ => ⟨a, hx _ _ h1, h2⟩
  | .sl _ _ _ (some _), _, ⟨a, h1, h2⟩ => ⟨a, hx _ _ h1, h2⟩
  | .sl _ _ _ none, _, ⟨a, c, h1, h2⟩ => ⟨a, c, hx _ _ h1, h2⟩
  | .ext _ _ _, _, h => h
  | .eptr _ _ _ _, _, h => h
  | .clo _ _, _, ⟨vs, h1, h2⟩ => ⟨vs, h1.mono (fun _ _ => capDen.ext hx), h2⟩
  | .yl _, _, ⟨a, h1, h2⟩ => ⟨a, hx _ _ h1, h2⟩
  | .const _, _, h => h
  | .any, _, _ => trivial
theorem S.den_ext : ∀ (s : S) (v : Value), s.den ρ σ v → s.den ρ σ' v
  | .z s, v, h => S0.den_ext hx s v h
  | .iface _ true _, _, ⟨vs, h1, h2⟩ => ⟨vs, h1.mono (S0.den_ext hx), h2⟩
  | .iface _ false _, _, ⟨u, h1, h2⟩ => ⟨u, h1.mono (S0.den_ext hx), h2⟩
  | .meth _ _ true _, _, ⟨vs, h1, h2⟩ => ⟨vs, h1.mono (S0.den_ext hx), h2⟩
  | .meth _ _ false _, _, ⟨u, h1, h2⟩ => ⟨u, h1.mono (S0.den_ext hx), h2⟩
theorem V2.den_ext : ∀ (s : V2) (v : Value), s.den ρ σ v → s.den ρ σ' v
  | .one s, v, h => S.den_ext hx s v h
  | .agg _, _, ⟨vs, h1, h2⟩ => ⟨vs, h1.mono (S.den_ext hx), h2⟩
theorem V.den_ext : ∀ (s : V) (v : Value), s.den ρ σ v → s.den ρ σ' v
  | .v s, u, h => V2.den_ext hx s u h
  | .tup _, _, ⟨vs, h1, h2⟩ => ⟨vs, h1.mono (V2.den_ext hx), h2⟩
theorem BDen.ext : ∀ (b : Blk) (o : Option Obj), BDen ρ σ b o → BDen ρ σ' b o
  | .cells _ _, _, ⟨vs, h1, h2⟩ => ⟨vs, h1.mono (S.den_ext hx), h2⟩
  | .row _ _, _, ⟨vs, ex, h1, h2⟩ => ⟨vs, ex, h1.mono (S.den_ext hx), h2⟩
  | .loop .., _, ⟨fn, tv, d, h1, h2, h3⟩ => ⟨fn, tv, d, h1.mono (V.den_ext hx), hx _ _ h2, h3⟩
  | .dfd _, _, h => h
  | .gone, _, h => h
end

theorem Mem.get_append (ws m : Mem) (id : Nat) : (ws ++ m).get id = (ws.get id).or (m.get id) := by
  induction ws with
  | nil => rfl
  | cons p ws ih =>
    obtain ⟨i, b⟩ := p
    show Mem.get ((i, b) :: (ws ++ m)) id = _
    simp only [Mem.get]
    split
    · rfl
    · exact ih

/-- The executor's memory stands for the world's. -/
structure RelM (ρ : Env) (σ : As) (m : Mem) (W : World) : Prop where
  blk : ∀ id b, m.get id = some b → ∃ a, σ id = some a ∧ BDen ρ σ b W.heap[a]?
  inj : ∀ i j a, σ i = some a → σ j = some a → i = j
  lt : ∀ i a, σ i = some a → a < W.heap.size
  above : ∀ i a, σ i = some a → ρ.w.heap.size ≤ a
  base : Below ρ.w.heap.size ρ.w W

/-- Records of ranges over functions keep what they are about. -/
def Keep (W W' : World) : Prop := ∀ (k : Nat) (L : Loop), W.heap[k]? = some (.loop L) → ∃ L', W'.heap[k]? = some (.loop L') ∧ L'.params = L.params ∧ L'.assign = L.assign ∧ L'.body = L.body ∧ L'.defers = L.defers
theorem Keep.refl (W : World) : Keep W W := fun _ L h => ⟨L, h, rfl, rfl, rfl, rfl⟩
theorem Keep.trans {W W1 W2 : World} (h : Keep W W1) (k : Keep W1 W2) : Keep W W2 := fun i L e => by
  obtain ⟨L1, e1, a1, a2, a3, a4⟩ := h i L e
  obtain ⟨L2, e2, b1, b2, b3, b4⟩ := k i L1 e1
  exact ⟨L2, e2, b1.trans a1, b2.trans a2, b3.trans a3, b4.trans a4⟩
theorem lt_of_heap {W : World} {k : Nat} {o : Obj} (h : W.heap[k]? = some o) : k < W.heap.size := (Array.getElem?_eq_some_iff.1 h).1
theorem Keep.of_eq {W W' : World} (h : ∀ k, k < W.heap.size → W'.heap[k]? = W.heap[k]?) : Keep W W' := fun k L e => ⟨L, by rw [h k (lt_of_heap e)]; exact e, rfl, rfl, rfl, rfl⟩
/-- From W to W' the blocks of ws were written or made; all others are σ they were. -/
structure Step (ρ : Env) (σ : As) (W : World) (ws : Mem) (σ' : As) (W' : World) : Prop where
  ext : Ext σ σ'
  os : W'.os = W.os
  tape : W'.tape = W.tape
  output : W'.output = W.output
  size : W.heap.size ≤ W'.heap.size
  frame : ∀ k, k < W.heap.size → (∀ i b, ws.get i = some b → σ i ≠ some k) → W'.heap[k]? = W.heap[k]?
  new : ∀ i a, σ' i = some a → σ i = some a ∨ (W.heap.size ≤ a ∧ a < W'.heap.size)
  inj : (∀ i j a, σ i = some a → σ j = some a → i = j) → ∀ i j a, σ' i = some a → σ' j = some a → i = j
  blk : ∀ i b, ws.get i = some b → ∃ a, σ' i = some a ∧ BDen ρ σ' b W'.heap[a]?
  keep : Keep W W'

theorem RelM.step {ρ : Env} {σ σ' : As} {m ws : Mem} {W W' : World} (h : RelM ρ σ m W) (s : Step ρ σ W ws σ' W') : RelM ρ σ' (ws ++ m) W' where
  blk := by
    intro id b hb
    rw [Mem.get_append] at hb
    cases hw : ws.get id with
    | some b' =>
      rw [hw] at hb
      simp at hb
      subst hb
      exact s.blk id b' hw
    | none =>
      rw [hw] at hb
      simp at hb
      obtain ⟨a, h1, h2⟩ := h.blk id b hb
      refine ⟨a, s.ext _ _ h1, ?_⟩
      rw [s.frame a (h.lt _ _ h1) (fun i b' hi he => by
        have := h.inj i id a he h1
        subst this
        rw [hw] at hi; cases hi)]
      exact BDen.ext s.ext _ _ h2
  inj := s.inj h.inj
  lt := by
    intro i a hi
    rcases s.new i a hi with h1 | ⟨_, h2⟩
    · exact Nat.lt_of_lt_of_le (h.lt _ _ h1) s.size
    · exact h2
  above := by
    intro i a hi
    rcases s.new i a hi with h1 | ⟨h1, _⟩
    · exact h.above _ _ h1
    · exact Nat.le_trans h.base.size h1
  base := h.base.trans ⟨s.os, s.tape, s.output, s.size, fun k hk => s.frame k (Nat.lt_of_lt_of_le hk h.base.size) (fun i b _ he => by
    have := h.above i k he; omega)⟩

theorem Step.refl (ρ : Env) (σ : As) (W : World) : Step ρ σ W [] σ W :=
  ⟨Ext.refl _, rfl, rfl, rfl, Nat.le_refl _, fun _ _ _ => rfl, fun _ _ h => .inl h, fun h => h, fun _ _ h => by simp [Mem.get] at h, Keep.refl _⟩
theorem Step.below {ρ : Env} {σ : As} {W W' : World} (h : Below W.heap.size W W') : Step ρ σ W [] σ W' :=
  ⟨Ext.refl _, h.os, h.tape, h.output, h.size, fun k hk _ => h.block k hk, fun _ _ h => .inl h, fun h => h, fun _ _ h => by simp [Mem.get] at h, Keep.of_eq (fun k hk => h.block k hk)⟩
theorem Step.drew (ρ : Env) (σ : As) (W : World) : Step ρ σ W [] σ W.drew := Step.below (Below.refl _ _).drew

theorem Step.trans {ρ : Env} {a b c : As} {W W1 W2 : World} {ws ws' : Mem} (hlt : ∀ i k, a i = some k → k < W.heap.size)
    (hinj : ∀ i j k, a i = some k → a j = some k → i = j) (h : Step ρ a W ws b W1) (k : Step ρ b W1 ws' c W2) : Step ρ a W (ws' ++ ws) c W2 where
  ext := h.ext.trans k.ext
  os := k.os.trans h.os
  tape := k.tape.trans h.tape
  output := k.output.trans h.output
  size := Nat.le_trans h.size k.size
  frame := by
    intro j hj hn
    have h1 : W1.heap[j]? = W.heap[j]? := h.frame j hj (fun i b' hi he => by
      cases hw : ws'.get i with
      | none => exact hn i b' (by rw [Mem.get_append, hw, hi]; rfl) he
      | some b2 => exact hn i b2 (by rw [Mem.get_append, hw]; rfl) he)
    rw [← h1]
    refine k.frame j (Nat.lt_of_lt_of_le hj h.size) (fun i b' hi he => ?_)
    rcases h.new i j he with h2 | ⟨h2, _⟩
    · exact hn i b' (by rw [Mem.get_append, hi]; rfl) h2
    · omega
  new := by
    intro i x hi
    rcases k.new i x hi with h1 | ⟨h1, h2⟩
    · rcases h.new i x h1 with h3 | ⟨h3, h4⟩
      · exact .inl h3
      · exact .inr ⟨h3, Nat.lt_of_lt_of_le h4 k.size⟩
    · exact .inr ⟨Nat.le_trans h.size h1, h2⟩
  inj := fun e => k.inj (h.inj e)
  blk := by
    intro i b' hi
    rw [Mem.get_append] at hi
    cases hw : ws'.get i with
    | some b2 =>
      rw [hw] at hi; simp at hi; subst hi
      exact k.blk i b2 hw
    | none =>
      rw [hw] at hi; simp at hi
      obtain ⟨x, h1, h2⟩ := h.blk i b' hi
      refine ⟨x, k.ext _ _ h1, ?_⟩
      have hx : x < W1.heap.size := by
        rcases h.new i x h1 with h3 | ⟨_, h4⟩
        · exact Nat.lt_of_lt_of_le (hlt _ _ h3) h.size
        · exact h4
      rw [k.frame x hx (fun j b2 hj he => by
        have := h.inj hinj i j x h1 he
        subst this
        rw [hw] at hj; cases hj)]
      exact BDen.ext k.ext _ _ h2
  keep := h.keep.trans k.keep
end Go.Proofs.Ytinfmmofcadjgaa
