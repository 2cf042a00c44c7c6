/- The symbolic executor numbers new blocks upwards. -/
import Derived.Test.YtfefbckpocbeaaaGreatZi
namespace Go.Proofs.YtfefbckpocbeaaaGreat
open Go.RowKit

section
variable (P : Program) (ct : Ct) (ρ : Env)
structure MonoAt (n : Nat) : Prop where
  code : ∀ r c st p, (code P ct n r c st).res ρ p → st.nx ≤ p.2.nx
  rend : ∀ r lid st p, (rangeEnd P ct n r lid st).res ρ p → st.nx ≤ p.2.nx
  ops : ∀ r ops i st s', (opsRun P ct n r ops i st).res ρ s' → st.nx ≤ s'.nx
  draw : ∀ r ops i st log s', (opsDraw P ct n r ops i st log).res ρ s' → st.nx ≤ s'.nx
  oper : ∀ o g mem nx q, (oper P ct n o g mem nx).res ρ q → nx ≤ q.2.2
  round : ∀ lid args mem nx q, (round P ct n lid args mem nx).res ρ q → nx ≤ q.2.2
  call : ∀ f args mem nx q, (call P ct n f args mem nx).res ρ q → nx ≤ q.2.2
end
section
variable {P : Program} {ct : Ct} {ρ : Env}
theorem mkPR_nx {nx : Nat} {r : PR} {q : OpR} (h : (mkPR nx r).res ρ q) : nx ≤ q.2.2 := by
  obtain ⟨_, _, _, _, rfl⟩ := mkPR_spec h
  exact Nat.le_refl _
theorem res_ret {α : Type} {x y : α} (h : (T.ret x).res ρ y) : y = x := by simp only [T.res] at h; exact h
theorem storeS_nx {mem : Mem} {nx : Nat} {t : TypeId} {p q : V} {r : OpR} (h : (storeS P mem nx t p q).res ρ r) : nx ≤ r.2.2 := by
  unfold storeS at h
  repeat' split at h
  all_goals first
    | exact h.elim
    | (obtain rfl := res_ret h; exact Nat.le_refl _)
theorem mono (n : Nat) : MonoAt P ct ρ n := by
  induction n with
  | zero =>
    exact ⟨fun _ _ _ _ h => by simp [code, T.res] at h, fun _ _ _ _ h => by simp [rangeEnd, T.res] at h, fun _ _ _ _ _ h => by simp [opsRun, T.res] at h, fun _ _ _ _ _ _ h => by simp [opsDraw, T.res] at h,
      fun _ _ _ _ _ h => by simp [oper, T.res] at h, fun _ _ _ _ _ h => by simp [round, T.res] at h, fun _ _ _ _ _ h => by simp [call, T.res] at h⟩
  | succ n ih =>
    refine ⟨?_, ?_, ?_, ?_, ?_, ?_, ?_⟩
    · intro r c st p h
      cases c with
      | skip => simp only [code] at h; obtain rfl := res_ret h; exact Nat.le_refl _
      | label l => simp only [code] at h; obtain rfl := res_ret h; exact Nat.le_refl _
      | exit l => simp only [code] at h; obtain rfl := res_ret h; exact Nat.le_refl _
      | goto l => simp only [code] at h; obtain rfl := res_ret h; exact Nat.le_refl _
      | ret => simp only [code] at h; obtain rfl := res_ret h; exact Nat.le_refl _
      | seq x y =>
        simp only [code] at h
        obtain ⟨p1, h1, h2⟩ := T.res_bind h
        have e1 := ih.code _ _ _ _ h1
        split at h2
        · exact Nat.le_trans e1 (ih.code _ _ _ _ h2)
        · obtain rfl := res_ret h2; exact e1
      | cond x y z =>
        simp only [code] at h
        split at h
        · rcases T.res_iteS h with ⟨_, h1⟩ | ⟨_, h1⟩ <;> exact ih.code _ _ _ _ h1
        · exact h.elim
      | block id b =>
        simp only [code] at h
        obtain ⟨p1, h1, h2⟩ := T.res_bind h
        have e1 := ih.code _ _ _ _ h1
        repeat' split at h2
        all_goals (obtain rfl := res_ret h2; exact e1)
      | loop b =>
        simp only [code] at h
        obtain ⟨p1, h1, h2⟩ := T.res_bind h
        have e1 := ih.code _ _ _ _ h1
        split at h2
        · exact Nat.le_trans e1 (ih.code _ _ _ _ h2)
        · obtain rfl := res_ret h2; exact e1
      | region id ops draw =>
        cases draw with
        | false =>
          simp only [code] at h
          obtain ⟨p1, h1, h2⟩ := T.res_bind h
          obtain rfl := res_ret h2
          exact ih.ops _ _ _ _ _ h1
        | true =>
          simp only [code] at h
          obtain ⟨p1, h1, h2⟩ := T.res_bind h
          obtain rfl := res_ret h2
          exact ih.draw _ _ _ _ _ _ h1
      | rangeFunc g ps asg body =>
        simp only [code] at h
        split at h
        · split at h
          · obtain ⟨q, h1, h2⟩ := T.res_bind h
            have e1 := ih.call _ _ _ _ _ h1
            have e2 := ih.rend _ _ _ _ h2
            simp only at e2
            omega
          · split at h
            · obtain ⟨q, h1, h2⟩ := T.res_bind h
              have e1 := ih.call _ _ _ _ _ h1
              have e2 := ih.rend _ _ _ _ h2
              simp only at e2
              omega
            · exact h.elim
        · exact h.elim
      | scope b => simp [code, T.res] at h
      | refuse w => simp [code, T.res] at h
    · intro r lid st p h
      simp only [rangeEnd] at h
      split at h
      · split at h
        · exact h.elim
        · split at h
          · obtain rfl := res_ret h; exact Nat.le_refl _
          · have e := ih.code _ _ _ _ h; exact e
      · exact h.elim
    · intro r ops i st s' h
      simp only [opsRun] at h
      split at h
      · obtain rfl := res_ret h; exact Nat.le_refl _
      · split at h
        · exact h.elim
        · have e := ih.ops _ _ _ _ _ h; exact e
        · obtain ⟨q, h1, h2⟩ := T.res_bind h
          obtain ⟨q0, h3, h4, _⟩ := parted_spec h1
          have e1 := ih.oper _ _ _ _ _ h3
          have e2 := ih.ops _ _ _ _ _ h2
          rw [← h4] at e1
          exact Nat.le_trans e1 e2
    · intro r ops i st log s' h
      simp only [opsDraw] at h
      split at h
      · split at h
        · obtain rfl := res_ret h; exact Nat.le_refl _
        · exact h.elim
      · split at h
        · exact h.elim
        · have e := ih.draw _ _ _ _ _ _ h; exact e
        · obtain ⟨q, h1, h2⟩ := T.res_bind h
          obtain ⟨q0, h3, h4, _⟩ := parted_spec h1
          have e1 := ih.oper _ _ _ _ _ h3
          have e2 := ih.draw _ _ _ _ _ _ h2
          rw [← h4] at e1
          exact Nat.le_trans e1 e2
    · intro o g mem nx q h
      simp only [oper] at h
      split at h
      · split at h
        · obtain rfl := res_ret h; exact Nat.le_succ _
        · exact h.elim
      · split at h
        · split at h
          · obtain rfl := res_ret h; exact Nat.le_succ _
          · exact h.elim
        · exact h.elim
      · exact mkPR_nx h
      · exact storeS_nx h
      · split at h
        · rcases T.res_iteS h with ⟨_, h1⟩ | ⟨_, h1⟩ <;> (obtain rfl := res_ret h1; exact Nat.le_refl _)
        · exact h.elim
      · unfold rowS at h
        repeat' split at h
        all_goals first | exact h.elim | (obtain rfl := res_ret h; exact Nat.le_succ _)
      · split at h
        · exact ih.call _ _ _ _ _ h
        · exact ih.round _ _ _ _ _ h
        · split at h
          · exact ih.call _ _ _ _ _ h
          · exact h.elim
        · exact h.elim
      · split at h
        · split at h
          · exact ih.call _ _ _ _ _ h
          · exact h.elim
        · exact h.elim
      · split at h
        · exact mkPR_nx h
        · exact h.elim
    · intro lid args mem nx q h
      simp only [round] at h
      split at h
      · split at h
        · obtain ⟨p, h1, h2⟩ := T.res_bind h
          have e1 := ih.code _ _ _ _ h1
          split at h2
          · obtain ⟨q2, h3, h4⟩ := T.res_bind h2
            have e2 := ih.code _ _ _ _ h3
            split at h4
            · obtain rfl := res_ret h4
              exact Nat.le_trans e1 e2
            · exact h4.elim
          · exact h2.elim
        · exact h.elim
      · exact h.elim
    · intro f args mem nx q h
      simp only [call] at h
      split at h
      · obtain ⟨v, _, h2⟩ := T.res_bind h
        obtain rfl := res_ret h2
        exact Nat.le_refl _
      · split at h
        · exact h.elim
        · split at h
          · exact h.elim
          · split at h
            · exact h.elim
            · obtain ⟨p, h1, h2⟩ := T.res_bind h
              have e1 := ih.code _ _ _ _ h1
              split at h2
              · split at h2
                · obtain rfl := res_ret h2; exact e1
                · exact h2.elim
              · exact h2.elim
end
end Go.Proofs.YtfefbckpocbeaaaGreat
