/- The symbolic executor's trees made flat: loops with their ways on and out; what has to be shown of them. -/
import Derived.Test.YtinfmmofcadjgaaZb
namespace Go.Proofs.Ytinfmmofcadjgaa
open Go.RowKit

inductive TT (α : Type) where
  | ret (a : α)
  | ite (b : B) (t e : TT α)
  | ob (o : Ob) (t : TT α)
  | stuck (why : String)
  | loop (d N : Nat) (init : Asg) (body : TT α)      -- d: how many loops stand around it; variables from N on
  | next (d : Nat) (m : Asg)                          -- on to the next round of the loop with number d
def T.norm {β α : Type} (d : Nat) (t : T β) (k : β → TT α) : TT α :=
  match t with
  | .ret a => k a
  | .ite b t e => .ite b (T.norm d t k) (T.norm d e k)
  | .ob o t => .ob o (T.norm d t k)
  | .stuck s => .stuck s
  | .loop N pat init body kk => .loop d N init (T.norm (d + 1) body (fun p => match p.1 with
      | .normal => match matchSt N pat p.2 with | some m => .next d m | none => .stuck "loop: slots"
      | _ => T.norm (d + 1) (kk p) k))
/-- The numbers of an assignment's variables are small. -/
def Asg.small (m : Asg) : Bool := (m.i.all fun p => Nat.blt p.1 1000) && (m.b.all fun p => Nat.blt p.1 1000) && (m.d.all fun p => Nat.blt p.1 1000)
/-- The variables are numbered upwards on each way. -/
def TT.low {α : Type} (c : Nat) : TT α → Bool
  | .ret _ => true
  | .ite b t e => B.low c b && TT.low c t && TT.low c e
  | .ob (.tru b) t => B.low c b && TT.low c t
  | .stuck _ => true
  | .loop _ N init body => Nat.ble c N && (init.i.all fun p => Nat.blt p.1 1000 && E.low c p.2) && (init.b.all fun p => Nat.blt p.1 1000 && B.low c p.2) && (init.d.all fun p => Nat.blt p.1 1000 && X.low c p.2) && TT.low (N + 1000) body
  | .next _ m => m.small
/-- Wherever the run comes to, K holds; at the begin of a next round, J. -/
def TT.sat {α : Type} (t : TT α) (ρ : Env) (K : Env → α → Prop) (J : Nat → LV → Prop) : Prop :=
  match t with
  | .ret a => K ρ a
  | .ite b t e => (b.ev ρ = true → TT.sat t ρ K J) ∧ (b.ev ρ = false → TT.sat e ρ K J)
  | .ob o t => o.ok ρ ∧ TT.sat t ρ K J
  | .stuck _ => False
  | .loop d N init body => ∃ n, Nat.rec (motive := fun _ => LV → Prop) (fun _ => False) (fun _ I v => TT.sat body (ρ.put N v) K (fun d' v' => if d' = d then I v' else J d' v')) n (init.val ρ)
  | .next d m => J d (m.val ρ)
section
variable {α : Type} {K : Env → α → Prop} {J : Nat → LV → Prop} {ρ : Env}
theorem TT.sat_ret {a : α} : (TT.ret a).sat ρ K J = K ρ a := rfl
theorem TT.sat_ite {b : B} {t e : TT α} : (TT.ite b t e).sat ρ K J = ((b.ev ρ = true → t.sat ρ K J) ∧ (b.ev ρ = false → e.sat ρ K J)) := rfl
theorem TT.sat_ob {o : Ob} {t : TT α} : (TT.ob o t).sat ρ K J = (o.ok ρ ∧ t.sat ρ K J) := rfl
theorem TT.sat_stuck {s : String} : (TT.stuck s : TT α).sat ρ K J = False := rfl
theorem TT.sat_next {d : Nat} {m : Asg} : (TT.next d m : TT α).sat ρ K J = J d (m.val ρ) := rfl
theorem put_i (N : Nat) (v : LV) (k : Nat) : (ρ.put N v).i k = if k < N then ρ.i k else v.i (k - N) := rfl
theorem put_b (N : Nat) (v : LV) (k : Nat) : (ρ.put N v).b k = if k < N then ρ.b k else v.b (k - N) := rfl
theorem put_d (N : Nat) (v : LV) (k : Nat) : (ρ.put N v).d k = if k < N then ρ.d k else v.d (k - N) := rfl
theorem put_fi (N : Nat) (v : LV) : (ρ.put N v).fi = ρ.fi := rfl
theorem put_fb (N : Nat) (v : LV) : (ρ.put N v).fb = ρ.fb := rfl
theorem put_fd (N : Nat) (v : LV) : (ρ.put N v).fd = ρ.fd := rfl
theorem val_i (m : Asg) (j : Nat) : (m.val ρ).i j = match aget m.i j with | some e => e.ev ρ | none => 0 := rfl
theorem val_b (m : Asg) (j : Nat) : (m.val ρ).b j = match aget m.b j with | some e => e.ev ρ | none => false := rfl
theorem val_d (m : Asg) (j : Nat) : (m.val ρ).d j = match aget m.d j with | some e => e.ev ρ | none => [] := rfl
end
/-- A loop: what holds at the begin of each round, and what falls. -/
theorem TT.sat_mono {α : Type} {K : Env → α → Prop} {t : TT α} : ∀ {ρ : Env} {J J' : Nat → LV → Prop}, (∀ d v, J d v → J' d v) → t.sat ρ K J → t.sat ρ K J' := by
  induction t with
  | ret a => intro ρ J J' _ h; exact h
  | ite b t e i1 i2 => intro ρ J J' hj h; exact ⟨fun q => i1 hj (h.1 q), fun q => i2 hj (h.2 q)⟩
  | ob o t ih => intro ρ J J' hj h; exact ⟨h.1, ih hj h.2⟩
  | stuck s => intro ρ J J' _ h; exact h
  | next d m => intro ρ J J' hj h; exact hj _ _ h
  | loop d N init body ih =>
    intro ρ J J' hj h
    obtain ⟨n, h⟩ := h
    refine ⟨n, ?_⟩
    revert h
    generalize init.val ρ = v
    induction n generalizing v with
    | zero => exact fun h => h
    | succ n ihn =>
      intro h
      refine ih (fun d' v' => ?_) h
      by_cases e : d' = d
      · simp only [e, if_true]; exact ihn v'
      · simp only [e, if_false]; exact hj d' v'
theorem TT.sat_loop {α : Type} {d N : Nat} {init : Asg} {body : TT α} {ρ : Env} {K : Env → α → Prop} {J : Nat → LV → Prop} (I : LV → Prop) (μ : LV → Nat) (h0 : I (init.val ρ))
    (hs : ∀ v, I v → body.sat (ρ.put N v) K (fun d' v' => if d' = d then I v' ∧ μ v' < μ v else J d' v')) : (TT.loop d N init body).sat ρ K J := by
  refine ⟨μ (init.val ρ) + 1, ?_⟩
  have key : ∀ n v, I v → μ v < n → Nat.rec (motive := fun _ => LV → Prop) (fun _ => False) (fun _ I v => TT.sat body (ρ.put N v) K (fun d' v' => if d' = d then I v' else J d' v')) n v := by
    intro n
    induction n with
    | zero => intro v _ h; omega
    | succ n ih =>
      intro v hv hn
      refine TT.sat_mono (fun d' v' h => ?_) (hs v hv)
      by_cases e : d' = d
      · simp only [e, if_true] at h ⊢; exact ih v' h.1 (by omega)
      · simp only [e, if_false] at h ⊢; exact h
  exact key _ _ h0 (Nat.lt_succ_self _)

theorem aget_all {α : Type} {p : Nat × α → Bool} : ∀ {l : List (Nat × α)} {j : Nat} {e : α}, l.all p = true → aget l j = some e → p (j, e) = true
  | (k, x) :: l, j, e, h, q => by
    simp only [List.all_cons, Bool.and_eq_true] at h
    simp only [aget] at q
    split at q
    · rename_i hk
      simp only [beq_iff_eq] at hk
      simp only [Option.some.injEq] at q
      subst hk q
      exact h.1
    · exact aget_all h.2 q

/-! ### What a flat tree comes to, in an environment that knows how its loops end -/
inductive Out (α : Type) where | val (a : α) | nxt (d : Nat) (m : Asg) (ρ : Env)
theorem Asg.fits_of {m : Asg} {ρ : Env} {v : LV} (h : m.small = true) (hi : ∀ j, j < 1000 → v.i j = (m.val ρ).i j) (hb : ∀ j, j < 1000 → v.b j = (m.val ρ).b j) (hd : ∀ j, j < 1000 → v.d j = (m.val ρ).d j) : m.fits ρ v := by
  simp only [Asg.small, Bool.and_eq_true] at h
  refine ⟨fun j e q => ?_, fun j e q => ?_, fun j e q => ?_⟩
  · rw [hi j (blt_lt (aget_all h.1.1 q))]; simp [Asg.val, q]
  · rw [hb j (blt_lt (aget_all h.1.2 q))]; simp [Asg.val, q]
  · rw [hd j (blt_lt (aget_all h.2 q))]; simp [Asg.val, q]
inductive TRounds {α : Type} (N d : Nat) (R : Env → Out α → Prop) (ρ : Env) : LV → Out α → Prop
  | last {v o} : ρ.put N v = ρ → R ρ o → (∀ m ρ', o ≠ .nxt d m ρ') → TRounds N d R ρ v o
  | next {v m ρ1 v' o} : R (ρ.put N v) (.nxt d m ρ1) → m.fits ρ1 v' → TRounds N d R ρ v' o → TRounds N d R ρ v o
def TT.res {α : Type} (t : TT α) (ρ : Env) (x : Out α) : Prop :=
  match t with
  | .ret a => x = .val a
  | .ite b t e => if b.ev ρ then TT.res t ρ x else TT.res e ρ x
  | .ob o t => o.ok ρ ∧ TT.res t ρ x
  | .stuck _ => False
  | .next d m => x = .nxt d m ρ
  | .loop d N init body => ∃ v, init.fits ρ v ∧ TRounds N d (fun ρ' o => TT.res body ρ' o) ρ v x

theorem Agree.refl (N : Nat) (ρ : Env) : Agree N ρ ρ := ⟨fun _ _ => rfl, fun _ _ => rfl, fun _ _ => rfl, rfl, rfl, rfl, rfl⟩
theorem Agree.symm {N : Nat} {ρ ρ' : Env} (h : Agree N ρ ρ') : Agree N ρ' ρ := ⟨fun k q => (h.i k q).symm, fun k q => (h.b k q).symm, fun k q => (h.d k q).symm, h.fi.symm, h.fb.symm, h.fd.symm, h.w.symm⟩
theorem Agree.trans {N : Nat} {a b c : Env} (h : Agree N a b) (k : Agree N b c) : Agree N a c := ⟨fun j q => (h.i j q).trans (k.i j q), fun j q => (h.b j q).trans (k.b j q), fun j q => (h.d j q).trans (k.d j q), h.fi.trans k.fi, h.fb.trans k.fb, h.fd.trans k.fd, h.w.trans k.w⟩
theorem Agree.less {N M : Nat} {ρ ρ' : Env} (h : Agree N ρ ρ') (q : M ≤ N) : Agree M ρ ρ' := ⟨fun k e => h.i k (by omega), fun k e => h.b k (by omega), fun k e => h.d k (by omega), h.fi, h.fb, h.fd, h.w⟩
/-- If all ways are as is wished, there is an environment that knows how the loops end. -/
theorem TT.res_of_sat {α : Type} {K : Env → α → Prop} {t : TT α} : ∀ {c : Nat} {ρ : Env} {J : Nat → LV → Prop}, t.low c = true → t.sat ρ K J →
    ∃ ρ' o, Agree c ρ ρ' ∧ t.res ρ' o ∧ (∀ a, o = .val a → K ρ' a) ∧ ∀ d m ρ1, o = .nxt d m ρ1 → m.small = true ∧ J d (m.val ρ1) := by
  induction t with
  | ret a => intro c ρ J _ h; exact ⟨ρ, .val a, Agree.refl _ _, rfl, fun x e => by simp only [Out.val.injEq] at e; subst e; exact h, fun d m ρ1 e => by cases e⟩
  | next d m => intro c ρ J hl h; exact ⟨ρ, .nxt d m ρ, Agree.refl _ _, rfl, (fun x e => by cases e), fun d m ρ1 e => by simp only [Out.nxt.injEq] at e; obtain ⟨rfl, rfl, rfl⟩ := e; exact ⟨hl, h⟩⟩
  | stuck s => intro c ρ J _ h; exact h.elim
  | ite b t e i1 i2 =>
    intro c ρ J hl h
    simp only [TT.low, Bool.and_eq_true] at hl
    cases hb : b.ev ρ with
    | true =>
      obtain ⟨ρ', o, h1, h2, h3⟩ := i1 hl.1.2 (h.1 hb)
      refine ⟨ρ', o, h1, ?_, h3⟩
      simp only [TT.res, ← B.low_ev h1 b hl.1.1, hb, if_true]
      exact h2
    | false =>
      obtain ⟨ρ', o, h1, h2, h3⟩ := i2 hl.2 (h.2 hb)
      refine ⟨ρ', o, h1, ?_, h3⟩
      simp only [TT.res, ← B.low_ev h1 b hl.1.1, hb, Bool.false_eq_true, if_false]
      exact h2
  | ob o t ih =>
    intro c ρ J hl h
    cases o with
    | tru b =>
      simp only [TT.low, Bool.and_eq_true] at hl
      obtain ⟨ρ', o, h1, h2, h3⟩ := ih hl.2 h.2
      refine ⟨ρ', o, h1, ⟨?_, h2⟩, h3⟩
      show b.ev ρ' = true
      rw [← B.low_ev h1 b hl.1]
      exact h.1
  | loop d N init body ih =>
    intro c ρ J hl h
    simp only [TT.low, Bool.and_eq_true] at hl
    obtain ⟨⟨⟨⟨l1, l2⟩, l3⟩, l4⟩, l5⟩ := hl
    have l1 : c ≤ N := Nat.le_of_ble_eq_true l1
    obtain ⟨n, h⟩ := h
    -- the rounds
    have key : ∀ n (w : LV), Nat.rec (motive := fun _ => LV → Prop) (fun _ => False) (fun _ I v => TT.sat body (ρ.put N v) K (fun d' v' => if d' = d then I v' else J d' v')) n w →
        ∃ ρ' o v, Agree N ρ ρ' ∧ (∀ j, j < 1000 → v.i j = w.i j) ∧ (∀ j, j < 1000 → v.b j = w.b j) ∧ (∀ j, j < 1000 → v.d j = w.d j) ∧ TRounds N d (fun ρ' o => TT.res body ρ' o) ρ' v o ∧ (∀ a, o = .val a → K ρ' a) ∧ ∀ d m ρ1, o = .nxt d m ρ1 → m.small = true ∧ J d (m.val ρ1) := by
      intro n
      induction n with
      | zero => intro w h; exact h.elim
      | succ n ihn =>
        intro w h
        obtain ⟨ρ1, o, a1, r1, k1, j1⟩ := ih l5 h
        have a0 : Agree N ρ ρ1 := ((Env.put_agree ρ N w).symm).trans (a1.less (by omega))
        have hv : ρ.put N (ρ1.from N) = ρ1 := Env.put_from a0
        have e1 : ∀ j, j < 1000 → (ρ1.from N).i j = w.i j := fun j hj => by have := a1.i (N + j) (by omega); simp only [Env.put, show ¬ N + j < N by omega, if_false, Nat.add_sub_cancel_left] at this; exact this.symm
        have e2 : ∀ j, j < 1000 → (ρ1.from N).b j = w.b j := fun j hj => by have := a1.b (N + j) (by omega); simp only [Env.put, show ¬ N + j < N by omega, if_false, Nat.add_sub_cancel_left] at this; exact this.symm
        have e3 : ∀ j, j < 1000 → (ρ1.from N).d j = w.d j := fun j hj => by have := a1.d (N + j) (by omega); simp only [Env.put, show ¬ N + j < N by omega, if_false, Nat.add_sub_cancel_left] at this; exact this.symm
        by_cases hn : ∃ m ρ2, o = .nxt d m ρ2
        · obtain ⟨m, ρm, rfl⟩ := hn
          obtain ⟨hm, hu⟩ := j1 d m ρm rfl
          simp only [if_true] at hu
          obtain ⟨ρ2, o2, v2, b1, b2, b3, b4, b5, b6, b7⟩ := ihn _ hu
          refine ⟨ρ2, o2, ρ1.from N, b1, e1, e2, e3, .next (m := m) (ρ1 := ρm) ?_ (Asg.fits_of hm b2 b3 b4) b5, b6, b7⟩
          rw [Env.put_congr b1.symm, hv]
          exact r1
        · refine ⟨ρ1, o, ρ1.from N, a0, e1, e2, e3, .last ?_ r1 (fun m ρ' e => hn ⟨m, ρ', e⟩), k1, fun d' m ρm e => ?_⟩
          · rw [Env.put_congr a0.symm]; exact hv
          · obtain ⟨hm, this⟩ := j1 d' m ρm e
            have hd : ¬ d' = d := fun q => hn ⟨m, ρm, by rw [e, q]⟩
            exact ⟨hm, by simpa only [hd, if_false] using this⟩
    obtain ⟨ρ', o, v, a1, e1, e2, e3, r, k1, j1⟩ := key n _ h
    refine ⟨ρ', o, a1.less l1, ⟨v, ?_, r⟩, k1, j1⟩
    have a2 := a1.less l1
    refine ⟨fun j e q => ?_, fun j e q => ?_, fun j e q => ?_⟩
    · have := aget_all l2 q
      simp only [Bool.and_eq_true] at this
      rw [e1 j (blt_lt this.1), ← E.low_ev a2 e this.2]
      simp [Asg.val, q]
    · have := aget_all l3 q
      simp only [Bool.and_eq_true] at this
      rw [e2 j (blt_lt this.1), ← B.low_ev a2 e this.2]
      simp [Asg.val, q]
    · have := aget_all l4 q
      simp only [Bool.and_eq_true] at this
      rw [e3 j (blt_lt this.1), ← X.low_ev a2 e this.2]
      simp [Asg.val, q]

/-- What a flat tree comes to, the tree comes to. -/
theorem norm_nxt {β α : Type} {t : T β} : ∀ {d : Nat} {k : β → TT α} {ρ : Env} {l : Nat} {m : Asg} {ρ1 : Env}, (T.norm d t k).res ρ (.nxt l m ρ1) → l < d → ∃ x ρ', (k x).res ρ' (.nxt l m ρ1) := by
  induction t with
  | ret a => intro d k ρ l m ρ1 h _; exact ⟨a, ρ, h⟩
  | ite b t e i1 i2 =>
    intro d k ρ l m ρ1 h hl
    simp only [T.norm, TT.res] at h
    split at h
    · exact i1 h hl
    · exact i2 h hl
  | ob o t ih => intro d k ρ l m ρ1 h hl; exact ih h.2 hl
  | stuck s => intro d k ρ l m ρ1 h _; exact h.elim
  | loop N pat init body kk ih1 ih2 =>
    intro d k ρ l m ρ1 h hl
    obtain ⟨v0, hf, hr⟩ := h
    clear hf
    generalize ho : Out.nxt l m ρ1 = o at hr
    induction hr with
    | last _ hr _ =>
      subst ho
      obtain ⟨p, ρ', hp⟩ := ih1 hr (by omega)
      have : ∀ q : Ex × St, (match q.1 with | .normal => (match matchSt N pat q.2 with | some m => TT.next d m | none => TT.stuck "loop: slots") | _ => T.norm (d + 1) (kk q) k).res ρ' (.nxt l m ρ1) → ∃ x ρ', (k x).res ρ' (.nxt l m ρ1) := by
        intro q hq
        split at hq
        · split at hq
          · simp only [TT.res, Out.nxt.injEq] at hq; omega
          · exact hq.elim
        · exact ih2 q hq (by omega)
      exact this p hp
    | next _ _ _ ih => exact ih ho
theorem res_of_norm {β α : Type} {t : T β} : ∀ {d : Nat} {k : β → TT α} {ρ : Env} {o : Out α}, (∀ x ρ l m ρ1, (k x).res ρ (.nxt l m ρ1) → l < d) → (T.norm d t k).res ρ o → ∃ x, t.res ρ x ∧ (k x).res ρ o := by
  induction t with
  | ret a => intro d k ρ o _ h; exact ⟨a, rfl, h⟩
  | ite b t e i1 i2 =>
    intro d k ρ o hk h
    simp only [T.norm, TT.res] at h
    split at h
    · rename_i hb
      obtain ⟨x, h1, h2⟩ := i1 hk h
      exact ⟨x, by simp only [T.res, hb, if_true]; exact h1, h2⟩
    · rename_i hb
      obtain ⟨x, h1, h2⟩ := i2 hk h
      exact ⟨x, by simp only [T.res, if_neg hb]; exact h1, h2⟩
  | ob o t ih =>
    intro d k ρ o hk h
    obtain ⟨x, h1, h2⟩ := ih hk h.2
    exact ⟨x, ⟨h.1, h1⟩, h2⟩
  | stuck s => intro d k ρ o _ h; exact h.elim
  | loop N pat init body kk ih1 ih2 =>
    intro d k ρ o hk h
    obtain ⟨v0, hf, hr⟩ := h
    have hfree : ∀ (q : Ex × St) ρ l m ρ1, (T.norm (d + 1) (kk q) k).res ρ (.nxt l m ρ1) → l < d := by
      intro q ρ l m ρ1 hq
      obtain ⟨x, _, hx⟩ := ih2 q (fun x ρ l m ρ1 hx => Nat.lt_succ_of_lt (hk x ρ l m ρ1 hx)) hq
      exact hk x ρ l m ρ1 hx
    have hround : ∀ (ρ' : Env) (o' : Out α), (T.norm (d + 1) body (fun p => match p.1 with | .normal => (match matchSt N pat p.2 with | some m => TT.next d m | none => TT.stuck "loop: slots") | _ => T.norm (d + 1) (kk p) k)).res ρ' o' →
        ∃ p, body.res ρ' p ∧ ((p.1 = .normal ∧ ∃ m, matchSt N pat p.2 = some m ∧ o' = .nxt d m ρ') ∨ (p.1 ≠ .normal ∧ (T.norm (d + 1) (kk p) k).res ρ' o')) := by
      intro ρ' o' h
      obtain ⟨p, h1, h2⟩ := ih1 (fun q ρ l m ρ1 hq => by
        split at hq
        · split at hq
          · simp only [TT.res, Out.nxt.injEq] at hq; omega
          · exact hq.elim
        · exact Nat.lt_succ_of_lt (hfree q ρ l m ρ1 hq)) h
      refine ⟨p, h1, ?_⟩
      cases hp : p.1 with
      | normal =>
        rw [hp] at h2
        simp only at h2
        split at h2
        · rename_i m hm
          exact .inl ⟨rfl, m, hm, h2⟩
        · exact h2.elim
      | exit id => rw [hp] at h2; exact .inr ⟨by simp, h2⟩
      | goto id => rw [hp] at h2; exact .inr ⟨by simp, h2⟩
      | ret => rw [hp] at h2; exact .inr ⟨by simp, h2⟩
    have key : ∃ p, Rounds N pat (fun ρ' p => T.res body ρ' p) ρ v0 p ∧ (T.norm (d + 1) (kk p) k).res ρ o := by
      clear hf
      induction hr with
      | last hv hr hne =>
        obtain ⟨p, h1, h2⟩ := hround _ _ hr
        rcases h2 with ⟨_, m, _, e⟩ | ⟨h2, h3⟩
        · exact absurd e (hne _ _)
        · exact ⟨p, .last hv h1 h2, h3⟩
      | next hr hfit _ ih =>
        obtain ⟨p, h1, h2⟩ := ih
        obtain ⟨q, h3, h4⟩ := hround _ _ hr
        rcases h4 with ⟨h4, m, hm, e⟩ | ⟨_, h5⟩
        · simp only [Out.nxt.injEq, true_and] at e
          obtain ⟨rfl, rfl⟩ := e
          exact ⟨p, .next h3 h4 hm hfit h1, h2⟩
        · have := hfree q _ d _ _ h5
          omega
    obtain ⟨p, h1, h2⟩ := key
    obtain ⟨x, h3, h4⟩ := ih2 p (fun x ρ l m ρ1 hx => Nat.lt_succ_of_lt (hk x ρ l m ρ1 hx)) h2
    exact ⟨x, ⟨v0, p, hf, h1, h3⟩, h4⟩

/-- The whole: what is shown of the flat tree holds of a way that the tree comes to. -/
theorem T.res_of_flat {β : Type} {t : T β} {tr : TT β} (hn : T.norm 0 t TT.ret = tr) {c : Nat} (hl : tr.low c = true) {ρ : Env} {K : Env → β → Prop} (hs : tr.sat ρ K (fun _ _ => False)) :
    ∃ ρ' x, Agree c ρ ρ' ∧ t.res ρ' x ∧ K ρ' x := by
  obtain ⟨ρ', o, h1, h2, h3, h4⟩ := TT.res_of_sat hl hs
  rw [← hn] at h2
  obtain ⟨x, h5, h6⟩ := res_of_norm (fun x ρ l m ρ1 h => by simp [TT.res] at h) h2
  exact ⟨ρ', x, h1, h5, h3 x h6⟩
end Go.Proofs.Ytinfmmofcadjgaa
