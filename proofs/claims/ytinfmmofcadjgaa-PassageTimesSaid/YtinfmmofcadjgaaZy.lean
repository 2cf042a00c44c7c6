/- The symbolic executor numbers new blocks upwards. -/
import Derived.Test.YtinfmmofcadjgaaZi
namespace Go.Proofs.Ytinfmmofcadjgaa
open Go.RowKit

section
variable (P : Program) (ct : Ct) (lt : Lt) (ρ : Env)
structure MonoAt (n : Nat) : Prop where
  code : ∀ h r c st p, (code P ct lt n h r c st).res ρ p → st.nx ≤ p.2.nx
  rend : ∀ r lid st p, (rangeEnd P ct lt n r lid st).res ρ p → st.nx ≤ p.2.nx
  ops : ∀ r ops i st s', (opsRun P ct lt n r ops i st).res ρ s' → st.nx ≤ s'.nx
  draw : ∀ r ops i st log s', (opsDraw P ct lt n r ops i st log).res ρ s' → st.nx ≤ s'.nx
  oper : ∀ o g mem nx q, (oper P ct lt n o g mem nx).res ρ q → nx ≤ q.2.2
  round : ∀ lid args mem nx q, (round P ct lt n lid args mem nx).res ρ q → nx ≤ q.2.2
  call : ∀ f args mem nx q, (call P ct lt n f args mem nx).res ρ q → nx ≤ q.2.2
end
section
variable {P : Program} {ct : Ct} {lt : Lt} {ρ : Env}
theorem mkPR_nx {nx : Nat} {r : PR} {q : OpR} (h : (mkPR nx r).res ρ q) : nx ≤ q.2.2 := by
  obtain ⟨_, _, _, _, rfl⟩ := mkPR_spec h
  exact Nat.le_refl _
theorem storeS_nx {mem : Mem} {nx : Nat} {t : TypeId} {p q : V} {r : OpR} (h : (storeS P mem nx t p q).res ρ r) : nx ≤ r.2.2 := by
  unfold storeS at h
  repeat' split at h
  all_goals first
    | exact h.elim
    | (obtain rfl := res_ret h; exact Nat.le_refl _)
theorem loopT_res {run : St → T (Ex × St)} {st : St} {p : Ex × St} (h : (loopT run st).res ρ p) : ∃ N m v q, N = 1000 * (st.nx + 1) ∧ matchSt N (patOf run st) st = some m ∧ m.fits ρ v ∧ Rounds N (patOf run st) (fun ρ' p => (run (patOf run st)).res ρ' p) ρ v q ∧ p = (q.1, { q.2 with mem := q.2.mem ++ st.mem, nx := topNx (run (patOf run st)) }) := by
  unfold loopT at h
  split at h
  · rename_i m hm
    obtain ⟨v, q, h1, h2, h3⟩ := h
    exact ⟨_, m, v, q, rfl, hm, h1, h2, res_ret h3⟩
  · exact h.elim
theorem Rounds.last_res {N : Nat} {pat : St} {R : Env → Ex × St → Prop} {v : LV} {p : Ex × St} (h : Rounds N pat R ρ v p) : R ρ p := by
  induction h with
  | last _ h _ => exact h
  | next _ _ _ _ _ ih => exact ih
theorem Rounds.last_ne {N : Nat} {pat : St} {R : Env → Ex × St → Prop} {v : LV} {p : Ex × St} (h : Rounds N pat R ρ v p) : p.1 ≠ .normal := by
  induction h with
  | last _ _ h => exact h
  | next _ _ _ _ _ ih => exact ih
theorem res_ends {α : Type} {t : T α} : ∀ {ρ : Env} {x : α}, t.res ρ x → x ∈ t.ends := by
  induction t with
  | ret a => intro ρ x h; rw [res_ret h]; simp [T.ends]
  | ite b t e i1 i2 =>
    intro ρ x h
    simp only [T.res] at h
    simp only [T.ends, List.mem_append]
    split at h
    · exact .inl (i1 h)
    · exact .inr (i2 h)
  | ob o t ih => intro ρ x h; exact ih h.2
  | stuck s => intro ρ x h; exact h.elim
  | loop N pat init body k ih1 ih2 =>
    intro ρ x h
    obtain ⟨v, p, _, h1, h2⟩ := h
    have hp : p ∈ body.ends ∧ p.1 ≠ .normal := ⟨ih1 h1.last_res, h1.last_ne⟩
    simp only [T.ends, List.mem_flatMap]
    refine ⟨p, hp.1, ?_⟩
    split
    · rename_i e; exact absurd e hp.2
    · exact ih2 p h2
theorem foldl_max (l : List (Ex × St)) : ∀ (n : Nat), n ≤ l.foldl (fun n p => max n p.2.nx) n ∧ ∀ p ∈ l, p.2.nx ≤ l.foldl (fun n p => max n p.2.nx) n := by
  induction l with
  | nil => intro n; simp
  | cons q l ih =>
    intro n
    obtain ⟨h1, h2⟩ := ih (max n q.2.nx)
    refine ⟨Nat.le_trans (Nat.le_max_left ..) h1, fun p hp => ?_⟩
    rcases List.mem_cons.1 hp with e | hp
    · subst e; exact Nat.le_trans (Nat.le_max_right ..) h1
    · exact h2 p hp
theorem res_top {t : T (Ex × St)} {ρ : Env} {p : Ex × St} (h : t.res ρ p) : p.2.nx ≤ topNx t := (foldl_max t.ends 0).2 p (res_ends h)
theorem mono_all (n : Nat) : ∀ ρ : Env, MonoAt P ct lt ρ n := by
  induction n with
  | zero =>
    intro ρ
    exact ⟨fun _ _ _ _ _ h => by simp [code, T.res] at h, fun _ _ _ _ h => by simp [rangeEnd, T.res] at h, fun _ _ _ _ _ h => by simp [opsRun, T.res] at h, fun _ _ _ _ _ _ h => by simp [opsDraw, T.res] at h,
      fun _ _ _ _ _ h => by simp [oper, T.res] at h, fun _ _ _ _ _ h => by simp [round, T.res] at h, fun _ _ _ _ _ h => by simp [call, T.res] at h⟩
  | succ n ihn =>
    intro ρ
    have ih := ihn ρ
    refine ⟨?_, ?_, ?_, ?_, ?_, ?_, ?_⟩
    · intro w r c st p h
      cases c with
      | skip => simp only [code] at h; obtain rfl := res_ret h; exact Nat.le_refl _
      | label l => simp only [code] at h; obtain rfl := res_ret h; exact Nat.le_refl _
      | exit l => simp only [code] at h; obtain rfl := res_ret h; exact Nat.le_refl _
      | goto l => simp only [code] at h; obtain rfl := res_ret h; exact Nat.le_refl _
      | ret => simp only [code] at h; obtain rfl := res_ret h; exact Nat.le_refl _
      | seq x y =>
        simp only [code] at h
        obtain ⟨p1, h1, h2⟩ := T.res_bind h
        have e1 := ih.code _ _ _ _ _ h1
        split at h2
        · exact Nat.le_trans e1 (ih.code _ _ _ _ _ h2)
        · obtain rfl := res_ret h2; exact e1
      | cond x y z =>
        simp only [code] at h
        split at h
        · rcases T.res_iteS h with ⟨_, h1⟩ | ⟨_, h1⟩ <;> exact ih.code _ _ _ _ _ h1
        · exact h.elim
      | block id b =>
        simp only [code] at h
        obtain ⟨p1, h1, h2⟩ := T.res_bind h
        have e1 := ih.code _ _ _ _ _ h1
        repeat' split at h2
        all_goals (obtain rfl := res_ret h2; exact e1)
      | loop b =>
        simp only [code] at h
        split at h
        · obtain ⟨p1, h1, h2⟩ := T.res_bind h
          have e1 := ih.code _ _ _ _ _ h1
          split at h2
          · exact Nat.le_trans e1 (ih.code _ _ _ _ _ h2)
          · obtain rfl := res_ret h2; exact e1
        · obtain ⟨N, m, v, q, _, _, _, h1, rfl⟩ := loopT_res h
          have e1 := ih.code _ _ _ _ _ h1.last_res
          have e2 : (patOf (code P ct lt n (w.skip 1) r b) st).nx = st.nx + 1 := rfl
          have e3 := res_top h1.last_res
          show st.nx ≤ topNx _
          omega
      | region id ops draw =>
        cases draw with
        | false =>
          simp only [code] at h
          obtain ⟨p1, h1, h2⟩ := T.res_bind h
          obtain rfl := res_ret h2
          exact ih.ops _ _ _ _ _ h1
        | true =>
          simp only [code] at h
          obtain ⟨p1, h1, h2⟩ := T.res_bind h
          obtain rfl := res_ret h2
          exact ih.draw _ _ _ _ _ _ h1
      | rangeFunc g ps asg body =>
        simp only [code] at h
        split at h
        · split at h
          · obtain ⟨q, h1, h2⟩ := T.res_bind h
            have e1 := ih.call _ _ _ _ _ h1
            have e2 := ih.rend _ _ _ _ h2
            simp only at e2
            omega
          · split at h
            · obtain ⟨q, h1, h2⟩ := T.res_bind h
              have e1 := ih.call _ _ _ _ _ h1
              have e2 := ih.rend _ _ _ _ h2
              simp only at e2
              omega
            · exact h.elim
        · exact h.elim
      | scope b => simp [code, T.res] at h
      | refuse w => simp [code, T.res] at h
    · intro r lid st p h
      simp only [rangeEnd] at h
      split at h
      · split at h
        · exact h.elim
        · split at h
          · obtain rfl := res_ret h; exact Nat.le_refl _
          · have e := ih.code _ _ _ _ _ h; exact e
      · exact h.elim
    · intro r ops i st s' h
      simp only [opsRun] at h
      split at h
      · obtain rfl := res_ret h; exact Nat.le_refl _
      · split at h
        · exact h.elim
        · have e := ih.ops _ _ _ _ _ h; exact e
        · obtain ⟨q, h1, h2⟩ := T.res_bind h
          obtain ⟨q0, h3, h4, _⟩ := parted_spec h1
          have e1 := ih.oper _ _ _ _ _ h3
          have e2 := ih.ops _ _ _ _ _ h2
          rw [← h4] at e1
          exact Nat.le_trans e1 e2
    · intro r ops i st log s' h
      simp only [opsDraw] at h
      split at h
      · split at h
        · obtain rfl := res_ret h; exact Nat.le_refl _
        · exact h.elim
      · split at h
        · exact h.elim
        · have e := ih.draw _ _ _ _ _ _ h; exact e
        · obtain ⟨q, h1, h2⟩ := T.res_bind h
          obtain ⟨q0, h3, h4, _⟩ := parted_spec h1
          have e1 := ih.oper _ _ _ _ _ h3
          have e2 := ih.draw _ _ _ _ _ _ h2
          rw [← h4] at e1
          exact Nat.le_trans e1 e2
    · intro o g mem nx q h
      simp only [oper] at h
      split at h
      · split at h
        · obtain rfl := res_ret h; exact Nat.le_succ _
        · exact h.elim
      · split at h
        · split at h
          · obtain rfl := res_ret h; exact Nat.le_succ _
          · exact h.elim
        · exact h.elim
      · exact mkPR_nx h
      · exact storeS_nx h
      · split at h
        · rcases T.res_iteS h with ⟨_, h1⟩ | ⟨_, h1⟩ <;> (obtain rfl := res_ret h1; exact Nat.le_refl _)
        · exact h.elim
      · unfold rowS at h
        repeat' split at h
        all_goals first | exact h.elim | (obtain rfl := res_ret h; exact Nat.le_succ _)
      · split at h
        · exact ih.call _ _ _ _ _ h
        · exact ih.round _ _ _ _ _ h
        · split at h
          · exact ih.call _ _ _ _ _ h
          · exact h.elim
        · exact h.elim
      · split at h
        · split at h
          · exact ih.call _ _ _ _ _ h
          · exact h.elim
        · exact h.elim
      · split at h
        · exact mkPR_nx h
        · exact h.elim
    · intro lid args mem nx q h
      simp only [round] at h
      split at h
      · split at h
        · obtain ⟨p, h1, h2⟩ := T.res_bind h
          have e1 := ih.code _ _ _ _ _ h1
          split at h2
          · obtain ⟨q2, h3, h4⟩ := T.res_bind h2
            have e2 := ih.code _ _ _ _ _ h3
            split at h4
            · obtain rfl := res_ret h4
              exact Nat.le_trans e1 e2
            · exact h4.elim
          · exact h2.elim
        · exact h.elim
      · exact h.elim
    · intro f args mem nx q h
      simp only [call] at h
      split at h
      · obtain ⟨v, _, h2⟩ := T.res_bind h
        unfold ctTidy at h2
        split at h2
        · rename_i hle
          obtain rfl := res_ret h2
          exact hle
        · exact h2.elim
      · split at h
        · exact h.elim
        · split at h
          · exact h.elim
          · split at h
            · exact h.elim
            · obtain ⟨p, h1, h2⟩ := T.res_bind h
              have e1 := ih.code _ _ _ _ _ h1
              split at h2
              · split at h2
                · obtain rfl := res_ret h2; exact e1
                · exact h2.elim
              · exact h2.elim
theorem mono (n : Nat) : MonoAt P ct lt ρ n := mono_all n ρ
end
end Go.Proofs.Ytinfmmofcadjgaa
