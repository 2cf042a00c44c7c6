/- LFirst, merged: TNu, Nn, Nu, TNy, Ny. -/
import Derived.Test.YtkjjkckcjgkhmaaGreatLB
import Derived.Test.YtkjjkckcjgkhmaaGreatLA
import Derived.Test.YtkjjkckcjgkhmaaGreatMP
set_option linter.unusedSimpArgs false
set_option linter.unusedVariables false
/- Chapter 40: the tree of the law CheckCertified. -/
namespace Go.Proofs.YtkjjkckcjgkhmaaGreat
open Go.RowKit
def trLawCert : TT OpR :=
(.ite (.cmp .gtr (.len (.var 0)) (.lit 4))
 (.ret ((.v (.one (.z (.bool (.lit true))))), [], 2))
 (.ite (.cmp .gtr (.len (.var 4)) (.lit 6))
 (.ret ((.v (.one (.z (.bool (.lit true))))), [], 2))
 (.loop 0 3000 ⟨[(0, (.lit 0))], [], []⟩
 (.ite (.cmp .lss (.var 3000) (.len (.var 0)))
 (.ob (.tru (.cmp .leq (.lit 0) (.var 3000)))
 (.ob (.tru (.cmp .lss (.var 3000) (.len (.var 0))))
 (.ite (.cmp .gtr (.len (.rd (.var 0) (.var 3000) 12)) (.lit 12))
 (.ret ((.v (.one (.z (.bool (.lit true))))), [], 3))
 (.next 0 ⟨[(0, (.ar .add .i64 (.var 3000) (.lit 1)))], [], []⟩))))
 (.ite (.cmp .neq (.fn 242 (.x (.var 0) (.i (.var 1) (.i (.var 2) (.i (.var 3) (.x (.var 4) (.i (.var 5) (.i (.var 6) (.x (.var 7) (.i (.var 8) (.i (.var 9) (.x (.var 10) .nil)))))))))))) (.lit 0))
 (.ite (.cmp .eql (.len (.fn 4 (.x (.var 0) (.i (.var 1) (.i (.var 2) (.i (.var 3) (.x (.var 4) (.i (.var 5) (.i (.var 6) (.x (.var 7) (.i (.var 8) (.i (.var 9) (.x (.var 10) .nil))))))))))))) (.lit 0))
 (.ite (.cmp .eql (.len (.fn 5 (.x (.var 0) (.i (.var 1) (.i (.var 2) (.i (.var 3) (.x (.var 4) (.i (.var 5) (.i (.var 6) (.x (.var 7) (.i (.var 8) (.i (.var 9) (.x (.var 10) .nil))))))))))))) (.lit 0))
 (.ite (.cmp .eql (.fn 242 (.x (.var 0) (.i (.var 1) (.i (.var 2) (.i (.var 3) (.x (.var 4) (.i (.var 5) (.i (.var 6) (.x (.var 7) (.i (.var 8) (.i (.var 9) (.x (.var 10) .nil)))))))))))) (.lit 20))
 (.ret ((.v (.one (.z (.bool (.cmp .geq (.fn 240 (.x (.var 0) (.i (.var 1) (.i (.var 2) (.i (.var 3) (.x (.var 4) (.i (.var 5) (.i (.var 6) (.x (.var 7) (.i (.var 8) (.i (.var 9) (.x (.var 10) .nil)))))))))))) (.lit 0)))))), [], 6))
 (.ite (.cmp .eql (.fn 241 (.x (.var 0) (.i (.var 1) (.i (.var 2) (.i (.var 3) (.x (.var 4) (.i (.var 5) (.i (.var 6) (.x (.var 7) (.i (.var 8) (.i (.var 9) (.x (.var 10) .nil)))))))))))) (.lit 0))
 (.ret ((.v (.one (.z (.bool (.cmp .geq (.fn 240 (.x (.var 0) (.i (.var 1) (.i (.var 2) (.i (.var 3) (.x (.var 4) (.i (.var 5) (.i (.var 6) (.x (.var 7) (.i (.var 8) (.i (.var 9) (.x (.var 10) .nil)))))))))))) (.lit 0)))))), [], 6))
 (.ret ((.v (.one (.z (.bool (.lit false))))), [], 6))))
 (.ret ((.v (.one (.z (.bool (.lit false))))), [], 6)))
 (.ret ((.v (.one (.z (.bool (.lit false))))), [], 6)))
 (.ite (.cmp .eql (.fn 240 (.x (.var 0) (.i (.var 1) (.i (.var 2) (.i (.var 3) (.x (.var 4) (.i (.var 5) (.i (.var 6) (.x (.var 7) (.i (.var 8) (.i (.var 9) (.x (.var 10) .nil)))))))))))) (.lit (-1)))
 (.ite (.cmp .eql (.fn 241 (.x (.var 0) (.i (.var 1) (.i (.var 2) (.i (.var 3) (.x (.var 4) (.i (.var 5) (.i (.var 6) (.x (.var 7) (.i (.var 8) (.i (.var 9) (.x (.var 10) .nil)))))))))))) (.lit 0))
 (.ite (.cmp .eql (.fn 244 (.x (.var 0) (.i (.var 1) (.i (.var 2) (.i (.var 3) (.x (.var 4) (.i (.var 5) (.i (.var 6) (.x (.var 7) (.i (.var 8) (.i (.var 9) (.x (.var 10) (.x (.fn 4 (.x (.var 0) (.i (.var 1) (.i (.var 2) (.i (.var 3) (.x (.var 4) (.i (.var 5) (.i (.var 6) (.x (.var 7) (.i (.var 8) (.i (.var 9) (.x (.var 10) .nil)))))))))))) (.x (.fn 5 (.x (.var 0) (.i (.var 1) (.i (.var 2) (.i (.var 3) (.x (.var 4) (.i (.var 5) (.i (.var 6) (.x (.var 7) (.i (.var 8) (.i (.var 9) (.x (.var 10) .nil)))))))))))) .nil)))))))))))))) (.lit 0))
 (.ite (.fn 243 (.x (.var 0) (.i (.var 1) (.i (.var 2) (.i (.var 3) (.x (.var 4) (.i (.var 5) (.i (.var 6) (.x (.var 7) (.i (.var 8) (.i (.var 9) (.x (.var 10) (.x (.fn 4 (.x (.var 0) (.i (.var 1) (.i (.var 2) (.i (.var 3) (.x (.var 4) (.i (.var 5) (.i (.var 6) (.x (.var 7) (.i (.var 8) (.i (.var 9) (.x (.var 10) .nil)))))))))))) (.x (.fn 5 (.x (.var 0) (.i (.var 1) (.i (.var 2) (.i (.var 3) (.x (.var 4) (.i (.var 5) (.i (.var 6) (.x (.var 7) (.i (.var 8) (.i (.var 9) (.x (.var 10) .nil)))))))))))) .nil))))))))))))))
 (.ite (.cmp .neq (.fn 211 (.x (.var 0) (.i (.var 1) (.i (.var 2) (.i (.var 3) (.x (.var 4) (.i (.var 11) (.i (.var 5) (.i (.var 6) (.x (.var 7) (.i (.var 8) (.i (.var 9) (.x (.var 10) (.x .nil .nil)))))))))))))) (.lit 0))
 (.ite (.cmp .eql (.len (.fn 4 (.x (.var 0) (.i (.var 1) (.i (.var 2) (.i (.var 3) (.x (.var 4) (.i (.var 5) (.i (.var 6) (.x (.var 7) (.i (.var 8) (.i (.var 9) (.x (.var 10) .nil))))))))))))) (.len (.var 4)))
 (.ite (.cmp .eql (.fn 211 (.x (.var 0) (.i (.var 1) (.i (.var 2) (.i (.var 3) (.x (.var 4) (.i (.var 11) (.i (.var 5) (.i (.var 6) (.x (.var 7) (.i (.var 8) (.i (.var 9) (.x (.var 10) (.x .nil .nil)))))))))))))) (.lit 0))
 (.ret ((.v (.one (.z (.bool (.lit true))))), [], 6))
 (.ite (.cmp .lss (.var 11) (.lit 0))
 (.ret ((.v (.one (.z (.bool (.lit true))))), [], 6))
 (.ret ((.v (.one (.z (.bool (.cmp .gtr (.var 11) (.len (.var 4))))))), [], 6))))
 (.ret ((.v (.one (.z (.bool (.lit false))))), [], 6)))
 (.ite (.cmp .lss (.fn 210 (.x (.var 0) (.i (.var 1) (.i (.var 2) (.i (.var 3) (.x (.var 4) (.i (.var 11) (.i (.var 5) (.i (.var 6) (.x (.var 7) (.i (.var 8) (.i (.var 9) (.x (.var 10) (.x .nil .nil)))))))))))))) (.lit 0))
 (.ite (.cmp .eql (.len (.fn 4 (.x (.var 0) (.i (.var 1) (.i (.var 2) (.i (.var 3) (.x (.var 4) (.i (.var 5) (.i (.var 6) (.x (.var 7) (.i (.var 8) (.i (.var 9) (.x (.var 10) .nil))))))))))))) (.len (.var 4)))
 (.ite (.cmp .eql (.fn 211 (.x (.var 0) (.i (.var 1) (.i (.var 2) (.i (.var 3) (.x (.var 4) (.i (.var 11) (.i (.var 5) (.i (.var 6) (.x (.var 7) (.i (.var 8) (.i (.var 9) (.x (.var 10) (.x .nil .nil)))))))))))))) (.lit 0))
 (.ret ((.v (.one (.z (.bool (.lit true))))), [], 6))
 (.ite (.cmp .lss (.var 11) (.lit 0))
 (.ret ((.v (.one (.z (.bool (.lit true))))), [], 6))
 (.ret ((.v (.one (.z (.bool (.cmp .gtr (.var 11) (.len (.var 4))))))), [], 6))))
 (.ret ((.v (.one (.z (.bool (.lit false))))), [], 6)))
 (.ite (.cmp .eql (.len (.fn 4 (.x (.var 0) (.i (.var 1) (.i (.var 2) (.i (.var 3) (.x (.var 4) (.i (.var 5) (.i (.var 6) (.x (.var 7) (.i (.var 8) (.i (.var 9) (.x (.var 10) .nil))))))))))))) (.len (.var 4)))
 (.ite (.cmp .geq (.fn 210 (.x (.var 0) (.i (.var 1) (.i (.var 2) (.i (.var 3) (.x (.var 4) (.i (.var 11) (.i (.var 5) (.i (.var 6) (.x (.var 7) (.i (.var 8) (.i (.var 9) (.x (.var 10) (.x .nil .nil)))))))))))))) (.var 11))
 (.ret ((.v (.one (.z (.bool (.cmp .neq (.fn 58 (.i (.var 1) (.i (.var 2) (.i (.var 3) (.x (.var 4) (.i (.fn 210 (.x (.var 0) (.i (.var 1) (.i (.var 2) (.i (.var 3) (.x (.var 4) (.i (.var 11) (.i (.var 5) (.i (.var 6) (.x (.var 7) (.i (.var 8) (.i (.var 9) (.x (.var 10) (.x .nil .nil)))))))))))))) .nil)))))) (.lit 0)))))), [], 7))
 (.ret ((.v (.one (.z (.bool (.lit false))))), [], 7)))
 (.ret ((.v (.one (.z (.bool (.lit false))))), [], 7)))))
 (.ite (.cmp .neq (.fn 211 (.x (.var 0) (.i (.var 1) (.i (.var 2) (.i (.var 3) (.x (.var 4) (.i (.var 11) (.i (.var 5) (.i (.var 6) (.x (.var 7) (.i (.var 8) (.i (.var 9) (.x (.var 10) (.x .nil .nil)))))))))))))) (.lit 0))
 (.ret ((.v (.one (.z (.bool (.lit false))))), [], 6))
 (.ite (.cmp .lss (.fn 210 (.x (.var 0) (.i (.var 1) (.i (.var 2) (.i (.var 3) (.x (.var 4) (.i (.var 11) (.i (.var 5) (.i (.var 6) (.x (.var 7) (.i (.var 8) (.i (.var 9) (.x (.var 10) (.x .nil .nil)))))))))))))) (.lit 0))
 (.ret ((.v (.one (.z (.bool (.lit false))))), [], 6))
 (.ret ((.v (.one (.z (.bool (.lit false))))), [], 7)))))
 (.ite (.cmp .neq (.fn 211 (.x (.var 0) (.i (.var 1) (.i (.var 2) (.i (.var 3) (.x (.var 4) (.i (.var 11) (.i (.var 5) (.i (.var 6) (.x (.var 7) (.i (.var 8) (.i (.var 9) (.x (.var 10) (.x .nil .nil)))))))))))))) (.lit 0))
 (.ret ((.v (.one (.z (.bool (.lit false))))), [], 6))
 (.ite (.cmp .lss (.fn 210 (.x (.var 0) (.i (.var 1) (.i (.var 2) (.i (.var 3) (.x (.var 4) (.i (.var 11) (.i (.var 5) (.i (.var 6) (.x (.var 7) (.i (.var 8) (.i (.var 9) (.x (.var 10) (.x .nil .nil)))))))))))))) (.lit 0))
 (.ret ((.v (.one (.z (.bool (.lit false))))), [], 6))
 (.ret ((.v (.one (.z (.bool (.lit false))))), [], 7)))))
 (.ite (.cmp .neq (.fn 211 (.x (.var 0) (.i (.var 1) (.i (.var 2) (.i (.var 3) (.x (.var 4) (.i (.var 11) (.i (.var 5) (.i (.var 6) (.x (.var 7) (.i (.var 8) (.i (.var 9) (.x (.var 10) (.x .nil .nil)))))))))))))) (.lit 0))
 (.ret ((.v (.one (.z (.bool (.lit false))))), [], 6))
 (.ite (.cmp .lss (.fn 210 (.x (.var 0) (.i (.var 1) (.i (.var 2) (.i (.var 3) (.x (.var 4) (.i (.var 11) (.i (.var 5) (.i (.var 6) (.x (.var 7) (.i (.var 8) (.i (.var 9) (.x (.var 10) (.x .nil .nil)))))))))))))) (.lit 0))
 (.ret ((.v (.one (.z (.bool (.lit false))))), [], 6))
 (.ret ((.v (.one (.z (.bool (.lit false))))), [], 7)))))
 (.ite (.cmp .neq (.fn 211 (.x (.var 0) (.i (.var 1) (.i (.var 2) (.i (.var 3) (.x (.var 4) (.i (.var 11) (.i (.var 5) (.i (.var 6) (.x (.var 7) (.i (.var 8) (.i (.var 9) (.x (.var 10) (.x .nil .nil)))))))))))))) (.lit 0))
 (.ret ((.v (.one (.z (.bool (.lit false))))), [], 6))
 (.ite (.cmp .lss (.fn 210 (.x (.var 0) (.i (.var 1) (.i (.var 2) (.i (.var 3) (.x (.var 4) (.i (.var 11) (.i (.var 5) (.i (.var 6) (.x (.var 7) (.i (.var 8) (.i (.var 9) (.x (.var 10) (.x .nil .nil)))))))))))))) (.lit 0))
 (.ret ((.v (.one (.z (.bool (.lit false))))), [], 6))
 (.ret ((.v (.one (.z (.bool (.lit false))))), [], 7))))))))))
set_option maxRecDepth 100000 in
theorem trLawCert_is : T.norm 0 (call Tryz.prog ctO4 (Lt.of []) 1000 3 (symArgs 0 [caseS, it]) [] 0) TT.ret = trLawCert := by kernel_rfl
theorem trLawCert_low : trLawCert.low 1000 = true := by kernel_rfl
end Go.Proofs.YtkjjkckcjgkhmaaGreat
/- Chapter 40: what Again answers (no program). -/
namespace Go.Proofs.YtkjjkckcjgkhmaaGreat
open Go.RowKit
theorem agN_spec {ds : List D} : ∀ f k, (agN ds f k = -1 ∧ ∀ n, k ≤ n → n < k + f → badB ds n = false) ∨ ∃ n : Nat, agN ds f k = n ∧ k ≤ n ∧ n < k + f ∧ badB ds n = true ∧ ∀ l, k ≤ l → l < n → badB ds l = false
  | 0, k => .inl ⟨rfl, fun n h1 h2 => by omega⟩
  | f + 1, k => by
    rw [agN]
    by_cases h : badB ds k = true
    · rw [if_pos h]
      exact .inr ⟨k, rfl, Nat.le_refl _, by omega, h, fun l h1 h2 => by omega⟩
    · rw [if_neg h]
      have h' := Bool.eq_false_iff.2 h
      rcases agN_spec (ds := ds) f (k + 1) with ⟨e, g⟩ | ⟨n, e, g1, g2, g3, g4⟩
      · refine .inl ⟨e, fun n h1 h2 => ?_⟩
        by_cases q : n = k
        · subst q; exact h'
        · exact g n (by omega) (by omega)
      · refine .inr ⟨n, e, by omega, by omega, g3, fun l h1 h2 => ?_⟩
        by_cases q : l = k
        · subst q; exact h'
        · exact g4 l (by omega) h2
def meK (ds : List D) (k j : Nat) : Int := meetE [.i (zoneA (zk ds k)), .i (zoneB (zk ds k)), .i (zoneC (zk ds k)), .i (zoneD (zk ds k)), .i (lg (rAt ds 12) j 0), .i (lg (rAt ds 12) j 1), .i (lg (rAt ds 12) j 2), .i (lg (rAt ds 12) j 3)]
theorem anyN_iff {ds : List D} {k : Nat} : ∀ f i, anyN ds k f i = true ↔ ∃ j, i ≤ j ∧ j < i + f ∧ meK ds k j = 0
  | 0, i => ⟨fun h => absurd h (by simp [anyN]), fun ⟨j, h1, h2, _⟩ => by omega⟩
  | f + 1, i => by
    rw [anyN, Bool.or_eq_true, decide_eq_true_eq, anyN_iff f (i + 1)]
    constructor
    · rintro (h | ⟨j, h1, h2, h3⟩)
      · exact ⟨i, by omega, by omega, h⟩
      · exact ⟨j, by omega, by omega, h3⟩
    · rintro ⟨j, h1, h2, h3⟩
      by_cases e : j = i
      · subst e; exact .inl h3
      · exact .inr ⟨j, by omega, by omega, h3⟩
theorem vbN_iff {ds : List D} : ∀ f i, vbN ds f i = true ↔ ∀ j, i ≤ j → j < i + f → arV ds j = true
  | 0, i => ⟨fun _ j h1 h2 => by omega, fun _ => rfl⟩
  | f + 1, i => by
    rw [vbN, Bool.and_eq_true, vbN_iff f (i + 1)]
    constructor
    · rintro ⟨h1, h2⟩ j g1 g2
      by_cases e : j = i
      · subst e; exact h1
      · exact h2 j (by omega) (by omega)
    · exact fun h => ⟨h i (Nat.le_refl _) (by omega), fun j g1 g2 => h j (by omega) (by omega)⟩
theorem zone_box {z : List D} (h : zoneE z = 0) : boxB (zoneA z) (zoneB z) (zoneC z) (zoneD z) = true := by
  unfold zoneE at h
  by_cases q : zoneO z = true
  · rw [if_pos q] at h
    have x : growX (zoneL z) = true := by
      unfold growE at h
      by_cases x : growX (zoneL z) = true
      · exact x
      · rw [if_neg x] at h
        split at h <;> exact absurd h (by decide)
    unfold zoneA zoneB zoneC zoneD growA growB growC growD
    rw [if_pos q, if_pos q, if_pos q, if_pos q, if_pos x, if_pos x, if_pos x, if_pos x]
    unfold growX at x
    exact (Bool.and_eq_true_iff.1 x).2
  · rw [if_neg q] at h; exact absurd h (by decide)
theorem meet_zero {a b c d e f g h : Int} (h1 : boxB a b c d = true) (h2 : boxB e f g h = true) : meetE [.i a, .i b, .i c, .i d, .i e, .i f, .i g, .i h] = 0 ↔ a ≤ f ∧ e ≤ b ∧ c ≤ h ∧ g ≤ d := by
  have e8 : box8 [.i a, .i b, .i c, .i d, .i e, .i f, .i g, .i h] = true := by
    show (boxB a b c d && boxB e f g h) = true
    rw [h1, h2]; rfl
  have eO : meetOn [.i a, .i b, .i c, .i d, .i e, .i f, .i g, .i h] = decide (max a e ≤ min b f ∧ max c g ≤ min d h) := rfl
  rw [boxB_t] at h1 h2
  unfold meetE meet8
  rw [e8, eO, Bool.true_and]
  by_cases q : max a e ≤ min b f ∧ max c g ≤ min d h
  · rw [decide_eq_true q, if_pos rfl]
    exact ⟨fun _ => by omega, fun _ => rfl⟩
  · rw [decide_eq_false q, if_neg (by decide), if_pos rfl]
    exact ⟨fun x => absurd x (by decide), fun x => absurd (by omega) q⟩
theorem again_facts {ds : List D} (h : againE ds = 0) : againO ds = true ∧ (0 ≤ iAt ds 5 ∧ iAt ds 5 ≤ (rAt ds 4).length ∧ (rAt ds 12).length ≤ 60) ∧ vbN ds (rAt ds 12).length 0 = true ∧ againI ds = agN ds ((rAt ds 4).length - (iAt ds 5).toNat) (iAt ds 5).toNat := by
  have hO : againO ds = true := by
    unfold againE at h
    by_cases q : againO ds = true
    · exact q
    · rw [if_neg q] at h; exact absurd h (by decide)
  have h2 := hO
  unfold againO at h2
  simp only [Bool.and_eq_true, decide_eq_true_eq] at h2
  exact ⟨hO, h2.2.2.2.2.2.1, h2.2.2.2.2.2.2, by unfold againI; rw [hO]; rfl⟩
theorem best_again {ds : List D} (h : againO ds = true) {n : Nat} (hn : n < (rAt ds 4).length) : bestE (agD ds n) = finE (agD ds n) (rAt ds 0).length := by
  unfold againO at h
  simp only [Bool.and_eq_true, decide_eq_true_eq] at h
  have hO : bestO (agD ds n) = true := by
    show (shsB (rAt ds 0) && (psgB (iAt ds 1) (iAt ds 2) (iAt ds 3) (rAt ds 4) && (decide (0 ≤ (n : Int) ∧ (n : Int) < (rAt ds 4).length) && (kevB (iAt ds 6) (iAt ds 7) (rAt ds 8) && tideB (iAt ds 9) (iAt ds 10) (rAt ds 11))))) = true
    rw [h.1, h.2.1, h.2.2.2.1, h.2.2.2.2.1, decide_eq_true (by omega)]; rfl
  unfold bestE
  rw [hO]; rfl
theorem bad_iff {ds : List D} (h : againO ds = true) {n : Nat} (hn : n < (rAt ds 4).length) : badB ds n = true ↔ bestE (agD ds n) ≠ 0 ∨ zoneE (zk ds n) ≠ 0 ∨ ∃ j : Nat, j < (rAt ds 12).length ∧ zoneA (zk ds n) ≤ lg (rAt ds 12) j 1 ∧ lg (rAt ds 12) j 0 ≤ zoneB (zk ds n) ∧ zoneC (zk ds n) ≤ lg (rAt ds 12) j 3 ∧ lg (rAt ds 12) j 2 ≤ zoneD (zk ds n) := by
  rw [best_again h hn]
  have hv : vbN ds (rAt ds 12).length 0 = true := by
    unfold againO at h
    simp only [Bool.and_eq_true] at h
    exact h.2.2.2.2.2.2
  rw [vbN_iff] at hv
  unfold badB
  rw [Bool.or_eq_true, Bool.or_eq_true, anyN_iff]
  simp only [Bool.not_eq_true', decide_eq_false_iff_not]
  have key : zoneE (zk ds n) = 0 → ∀ j : Nat, j < (rAt ds 12).length → (meK ds n j = 0 ↔ zoneA (zk ds n) ≤ lg (rAt ds 12) j 1 ∧ lg (rAt ds 12) j 0 ≤ zoneB (zk ds n) ∧ zoneC (zk ds n) ≤ lg (rAt ds 12) j 3 ∧ lg (rAt ds 12) j 2 ≤ zoneD (zk ds n)) := fun hz j hj => meet_zero (zone_box hz) (hv j (Nat.zero_le _) (by omega))
  by_cases hz : zoneE (zk ds n) = 0
  · constructor
    · rintro (q | q | ⟨j, q1, q2, q3⟩)
      · exact absurd hz q
      · exact .inl q
      · exact .inr (.inr ⟨j, by omega, (key hz j (by omega)).1 q3⟩)
    · rintro (q | q | ⟨j, q1, q2⟩)
      · exact .inr (.inl q)
      · exact absurd hz q
      · exact .inr (.inr ⟨j, Nat.zero_le _, by omega, (key hz j q1).2 q2⟩)
  · exact ⟨fun _ => .inr (.inl hz), fun _ => .inl hz⟩
def dA (ds : List D) (a : Rows) : List D := [.l (rAt ds 0), .i (iAt ds 1), .i (iAt ds 2), .i (iAt ds 3), .l (rAt ds 4), .i (iAt ds 11), .i (iAt ds 5), .i (iAt ds 6), .l (rAt ds 7), .i (iAt ds 8), .i (iAt ds 9), .l (rAt ds 10), .l a]
theorem bad_more {ds : List D} {a : Rows} {row : List D} {n : Nat} (h : badB (dA ds a) n = true) : badB (dA ds (a ++ [row])) n = true := by
  unfold badB at h ⊢
  rw [Bool.or_eq_true, Bool.or_eq_true, anyN_iff] at h ⊢
  refine h.imp id (fun h => h.imp id (fun ⟨j, h1, h2, h3⟩ => ⟨j, h1, ?_, ?_⟩))
  · have h2 : j < 0 + a.length := h2
    show j < 0 + (a ++ [row]).length
    rw [List.length_append]; omega
  · have h2 : j < 0 + a.length := h2
    have e : ∀ c, lg (a ++ [row]) j c = lg a j c := fun c => lg_app_low (by omega)
    have h3 : meetE [.i (zoneA (zk (dA ds a) n)), .i (zoneB (zk (dA ds a) n)), .i (zoneC (zk (dA ds a) n)), .i (zoneD (zk (dA ds a) n)), .i (lg a j 0), .i (lg a j 1), .i (lg a j 2), .i (lg a j 3)] = 0 := h3
    show meetE [.i (zoneA (zk (dA ds a) n)), .i (zoneB (zk (dA ds a) n)), .i (zoneC (zk (dA ds a) n)), .i (zoneD (zk (dA ds a) n)), .i (lg (a ++ [row]) j 0), .i (lg (a ++ [row]) j 1), .i (lg (a ++ [row]) j 2), .i (lg (a ++ [row]) j 3)] = 0
    rw [e, e, e, e]; exact h3
theorem again_more {ds : List D} {a : Rows} {row : List D} (h : againE (dA ds a) = 0) (h2 : againE (dA ds (a ++ [row])) = 0) :
    (againI (dA ds a) < 0 ∨ (0 ≤ againI (dA ds (a ++ [row])) ∧ againI (dA ds (a ++ [row])) ≤ againI (dA ds a))) ∧ (againI (dA ds (a ++ [row])) < 0 ∨ iAt ds 11 ≤ againI (dA ds (a ++ [row]))) := by
  obtain ⟨_, f2, _, f4⟩ := again_facts h
  obtain ⟨_, _, _, g4⟩ := again_facts h2
  have f2 : 0 ≤ iAt ds 11 ∧ iAt ds 11 ≤ (rAt ds 4).length ∧ a.length ≤ 60 := f2
  have f4 : againI (dA ds a) = agN (dA ds a) ((rAt ds 4).length - (iAt ds 11).toNat) (iAt ds 11).toNat := f4
  have g4 : againI (dA ds (a ++ [row])) = agN (dA ds (a ++ [row])) ((rAt ds 4).length - (iAt ds 11).toNat) (iAt ds 11).toNat := g4
  rw [f4, g4]
  rcases agN_spec (ds := dA ds (a ++ [row])) ((rAt ds 4).length - (iAt ds 11).toNat) (iAt ds 11).toNat with ⟨q, q1⟩ | ⟨n, q, q1, q2, q3, q4⟩
  · rcases agN_spec (ds := dA ds a) ((rAt ds 4).length - (iAt ds 11).toNat) (iAt ds 11).toNat with ⟨p, p1⟩ | ⟨m, p, p1, p2, p3, p4⟩
    · rw [p, q]; exact ⟨.inl (by decide), .inl (by decide)⟩
    · have := q1 m p1 p2
      rw [bad_more p3] at this; cases this
  · rw [q]
    refine ⟨?_, .inr (by omega)⟩
    rcases agN_spec (ds := dA ds a) ((rAt ds 4).length - (iAt ds 11).toNat) (iAt ds 11).toNat with ⟨p, p1⟩ | ⟨m, p, p1, p2, p3, p4⟩
    · rw [p]; exact .inl (by decide)
    · rw [p]
      refine .inr ⟨by omega, ?_⟩
      by_cases z : n ≤ m
      · omega
      · have := q4 m p1 (by omega)
        rw [bad_more p3] at this; cases this
end Go.Proofs.YtkjjkckcjgkhmaaGreat
/- Chapter 40: the law CheckCertified. -/
namespace Go.Proofs.YtkjjkckcjgkhmaaGreat
open Go.RowKit
theorem shsN_fw {r : Rows} : ∀ (f i : Nat) (last : Int), shsN r f i last = true → ∀ k : Nat, i ≤ k → k < i + f → sheetL (rowSh r k) = true ∧ last < lg r k 0 ∧ ∀ l : Nat, k < l → l < i + f → lg r k 0 < lg r l 0
  | 0, i, last, _, k, h1, h2 => by omega
  | f + 1, i, last, h, k, h1, h2 => by
    simp only [shsN, Bool.and_eq_true, decide_eq_true_eq] at h
    by_cases e : k = i
    · subst e
      exact ⟨h.1.1, h.1.2, fun l g1 g2 => (shsN_fw f (k + 1) _ h.2 l (by omega) (by omega)).2.1⟩
    · obtain ⟨g1, g2, g3⟩ := shsN_fw f (i + 1) _ h.2 k (by omega) (by omega)
      exact ⟨g1, by omega, fun l q1 q2 => g3 l q1 (by omega)⟩
theorem shs_spec {r : Rows} (h : shsB r = true) : r.length ≤ 20 ∧ (∀ k : Nat, k < r.length → sheetL (rowSh r k) = true) ∧ (∀ k l : Nat, k < l → l < r.length → lg r k 0 < lg r l 0) := by
  simp only [shsB, Bool.and_eq_true, decide_eq_true_eq] at h
  exact ⟨h.2, fun k hk => (shsN_fw _ 0 0 h.1 k (by omega) (by omega)).1, fun k l h1 h2 => (shsN_fw _ 0 0 h.1 k (by omega) (by omega)).2.2 l h1 (by omega)⟩
theorem fin_other {ds : List D} {i : Nat} (h : finE ds i ≠ 20) : finI ds i = 0 := by
  unfold finI finE at *
  split
  · rfl
  · rename_i q
    rw [if_neg q] at h
    unfold legR
    rw [if_neg (fun x => h x.1)]
theorem lg_snoc {a : Rows} {row : List D} {c : Nat} : lg (a ++ [row]) (a.length : Nat) c = (row[c]?.getD (.i 0)).int := by
  unfold lg cellAt
  rw [Int.toNat_natCast, List.getElem?_append_right (Nat.le_refl _), Nat.sub_self]
  rfl
theorem chN_at {ds : List D} : ∀ n k : Nat, k < n → lg (chN ds n) k 0 = fiJ (.i 0 :: fq ds k)
  | n + 1, k, h => by
    rw [chN]
    by_cases e : k = n
    · subst e
      have := lg_snoc (a := chN ds k) (row := [.i (fiJ (.i 0 :: fq ds k))]) (c := 0)
      rw [chN_len] at this
      rw [this]; rfl
    · rw [lg_app_low (by rw [chN_len]; omega)]
      exact chN_at n k (by omega)
theorem diN_at {ds : List D} : ∀ n k : Nat, k < n → lg (diN ds n) k 0 = digI (shF ds k)
  | n + 1, k, h => by
    rw [diN]
    by_cases e : k = n
    · subst e
      have := lg_snoc (a := diN ds k) (row := [.i (digI (shF ds k))]) (c := 0)
      rw [diN_len] at this
      rw [this]; rfl
    · rw [lg_app_low (by rw [diN_len]; omega)]
      exact diN_at n k (by omega)
theorem idxN_at {r : Rows} {c : Int} {j : Nat} (hj : lg r j 0 = c) : ∀ f i : Nat, i ≤ j → j < i + f → (∀ l : Nat, i ≤ l → l < j → lg r l 0 ≠ c) → idxN r c f i = j
  | 0, i, h1, h2, _ => by omega
  | f + 1, i, h1, h2, h3 => by
    rw [idxN]
    by_cases e : i = j
    · subst e; rw [if_pos hj]
    · rw [if_neg (h3 i (Nat.le_refl _) (by omega))]
      exact idxN_at hj f (i + 1) (by omega) (by omega) (fun l l1 l2 => h3 l (by omega) l2)
theorem mkO_parts {ds : List D} (h : mkO ds = true) : shsB (rAt ds 0) = true ∧ psgB (iAt ds 1) (iAt ds 2) (iAt ds 3) (rAt ds 4) = true ∧ 0 < (rAt ds 4).length ∧ kevB (iAt ds 5) (iAt ds 6) (rAt ds 7) = true ∧ tideB (iAt ds 8) (iAt ds 9) (rAt ds 10) = true := by
  unfold mkO at h
  simp only [Bool.and_eq_true, decide_eq_true_eq] at h
  exact h
theorem mk_not {ds : List D} (h : mkE ds ≠ 0) : mkC ds = [] ∧ mkDi ds = [] ∧ (mkE ds = 20 ∨ mkI ds = 0) ∧ 0 ≤ mkK ds := by
  refine ⟨by unfold mkC; rw [if_neg h], by unfold mkDi; rw [if_neg h], ?_, ?_⟩
  · by_cases hO : mkO ds = true
    · unfold mkE mkI at *
      rw [if_pos hO] at h ⊢
      rw [if_pos hO]
      by_cases c : mkS ds < (rAt ds 4).length
      · rw [if_pos c] at h ⊢
        rw [if_pos c]
        by_cases q : fiE (fq ds (mkS ds)) = 20
        · exact .inl q
        · exact .inr (fin_other q)
      · rw [if_neg c] at h; exact absurd rfl h
    · right; unfold mkI; rw [if_neg hO]
  · by_cases hO : mkO ds = true
    · unfold mkE mkK at *
      rw [if_pos hO] at h ⊢
      by_cases c : mkS ds < (rAt ds 4).length
      · rw [if_pos c]; omega
      · rw [if_neg c] at h; exact absurd rfl h
    · unfold mkK; rw [if_neg hO]; omega
theorem mk_yes {ds : List D} (h : mkE ds = 0) : mkO ds = true ∧ ∀ l, l < (rAt ds 4).length → fiE (fq ds l) = 0 := by
  have hO : mkO ds = true := by
    cases q : mkO ds with
    | true => rfl
    | false => rw [(mk_arg q).2.2.1] at h; exact absurd h (by decide)
  refine ⟨hO, ?_⟩
  obtain ⟨a, b, c, d⟩ := mkF_spec (ds := ds) (rAt ds 4).length 0
  intro l hl
  by_cases q : mkS ds < (rAt ds 4).length
  · unfold mkE at h
    rw [hO, if_pos rfl, if_pos q] at h
    exact absurd h (d (by unfold mkS at q; omega))
  · exact c l (Nat.zero_le _) (by unfold mkS at q; omega)
def vA (ds : List D) (ch di : Rows) : List D := [.l (rAt ds 0), .i (iAt ds 1), .i (iAt ds 2), .i (iAt ds 3), .l (rAt ds 4), .i (iAt ds 5), .i (iAt ds 6), .l (rAt ds 7), .i (iAt ds 8), .i (iAt ds 9), .l (rAt ds 10), .l ch, .l di]
theorem verN_of {ds : List D} : ∀ f k, (∀ l, k ≤ l → l < k + f → verK ds l = true) → verN ds f k = true
  | 0, _, _ => rfl
  | f + 1, k, h => by rw [verN, h k (Nat.le_refl _) (by omega), verN_of f (k + 1) (fun l l1 l2 => h l (by omega) (by omega))]; rfl
theorem mk_verified {ds : List D} (h : mkE ds = 0) : verR (vA ds (mkC ds) (mkDi ds)) = true ∧ verE (vA ds (mkC ds) (mkDi ds)) = 0 := by
  obtain ⟨hO, hf⟩ := mk_yes h
  obtain ⟨_, _, _, hC, hD⟩ := mk_all hO hf
  obtain ⟨o1, _⟩ := mkO_parts hO
  obtain ⟨_, s2, s3⟩ := shs_spec o1
  have hO2 : mkO (vA ds (mkC ds) (mkDi ds)) = true := hO
  refine ⟨?_, by unfold verE; rw [hO2]; rfl⟩
  unfold verR
  rw [hO2, hC, hD, decide_eq_true (show (rAt (vA ds (chN ds (rAt ds 4).length) (diN ds (rAt ds 4).length)) 11).length = (rAt (vA ds (chN ds (rAt ds 4).length) (diN ds (rAt ds 4).length)) 4).length ∧ (rAt (vA ds (chN ds (rAt ds 4).length) (diN ds (rAt ds 4).length)) 12).length = (rAt (vA ds (chN ds (rAt ds 4).length) (diN ds (rAt ds 4).length)) 4).length from ⟨chN_len _, diN_len _⟩)]
  refine (Bool.true_and _).trans ((Bool.true_and _).trans (verN_of _ _ (fun k _ hk => ?_)))
  have hk : k < (rAt ds 4).length := by have : k < 0 + (rAt ds 4).length := hk; omega
  obtain ⟨j, j1, j2, j3, j4⟩ := shF_row (hf k hk)
  have eC : lg (chN ds (rAt ds 4).length) k 0 = lg (rAt ds 0) j 0 := by
    rw [chN_at _ _ hk]
    have : shF ds k = rowSh (rAt ds 0) j := j4
    unfold shF rowSh at this
    injection this with this
    injection this
  have eI : verI (vA ds (chN ds (rAt ds 4).length) (diN ds (rAt ds 4).length)) k = j := by
    show idxN (rAt ds 0) (lg (chN ds (rAt ds 4).length) k 0) (rAt ds 0).length 0 = j
    refine idxN_at eC.symm _ _ (Nat.zero_le _) (by omega) (fun l _ hl => ?_)
    rw [eC]
    have := s3 l j hl j1
    omega
  unfold verK
  rw [eI]
  show (decide (j < (rAt ds 0).length) && (decide (digE (rowSh (rAt ds 0) j) = 0) && (decide (digI (rowSh (rAt ds 0) j) = lg (diN ds (rAt ds 4).length) k 0) && decide (legE (rowLeg (mkD ds k) j) = 0)))) = true
  rw [diN_at _ _ hk, j4, decide_eq_true j1, decide_eq_true (p := digE (rowSh (rAt ds 0) j) = 0) (by unfold digE; rw [s2 j j1]; rfl), decide_eq_true rfl, decide_eq_true j3]
  rfl
def aA (ds : List D) (k : Int) : List D := [.l (rAt ds 0), .i (iAt ds 1), .i (iAt ds 2), .i (iAt ds 3), .l (rAt ds 4), .i k, .i (iAt ds 5), .i (iAt ds 6), .l (rAt ds 7), .i (iAt ds 8), .i (iAt ds 9), .l (rAt ds 10), .l []]
theorem mk_again {ds : List D} (h : mkE ds = 0) (k : Int) : (againE (aA ds k) ≠ 0 → k < 0 ∨ (rAt ds 4).length < k) ∧ (againE (aA ds k) = 0 → againI (aA ds k) < 0 ∨ (k ≤ againI (aA ds k) ∧ zoneE [.i (iAt ds 1), .i (iAt ds 2), .i (iAt ds 3), .l (rAt ds 4), .i (againI (aA ds k))] ≠ 0)) := by
  obtain ⟨hO, hf⟩ := mk_yes h
  obtain ⟨o1, o2, o3, o4, o5⟩ := mkO_parts hO
  constructor
  · intro g
    rcases Int.lt_or_le k 0 with q | q
    · exact .inl q
    · rcases Int.lt_or_le ((rAt ds 4).length : Int) k with q2 | q2
      · exact .inr q2
      · exfalso
        apply g
        have : againO (aA ds k) = true := by
          show (shsB (rAt ds 0) && (psgB (iAt ds 1) (iAt ds 2) (iAt ds 3) (rAt ds 4) && (decide (0 < (rAt ds 4).length) && (kevB (iAt ds 5) (iAt ds 6) (rAt ds 7) && (tideB (iAt ds 8) (iAt ds 9) (rAt ds 10) && (decide (0 ≤ k ∧ k ≤ (rAt ds 4).length ∧ ([] : Rows).length ≤ 60) && true)))))) = true
          rw [o1, o2, o4, o5, decide_eq_true o3, decide_eq_true ⟨q, q2, by decide⟩]; rfl
        unfold againE; rw [this]; rfl
  · intro g
    obtain ⟨_, f2, _, f4⟩ := again_facts g
    have f2 : 0 ≤ k ∧ k ≤ (rAt ds 4).length ∧ ([] : Rows).length ≤ 60 := f2
    have f4 : againI (aA ds k) = agN (aA ds k) ((rAt ds 4).length - k.toNat) k.toNat := f4
    rcases agN_spec (ds := aA ds k) ((rAt ds 4).length - k.toNat) k.toNat with ⟨p, _⟩ | ⟨n, p, p1, p2, p3, _⟩
    · rw [f4, p]; exact .inl (by decide)
    · right
      rw [f4, p]
      refine ⟨by omega, ?_⟩
      have hz : badB (aA ds k) n = true := p3
      have hb : finE (agD (aA ds k) n) (rAt ds 0).length = 0 := hf n (by omega)
      unfold badB at hz
      have hb2 : finE (agD (aA ds k) n) (rAt (aA ds k) 0).length = 0 := hb
      have ha : anyN (aA ds k) n (rAt (aA ds k) 12).length 0 = false := rfl
      rw [hb2, ha] at hz
      simp only [decide_true, Bool.not_true, Bool.or_false, Bool.not_eq_true', decide_eq_false_iff_not] at hz
      exact hz
def mA (ds : List D) : List D := [.l (rAt ds 0), .i (iAt ds 1), .i (iAt ds 2), .i (iAt ds 3), .l (rAt ds 4), .i (iAt ds 5), .i (iAt ds 6), .l (rAt ds 7), .i (iAt ds 8), .i (iAt ds 9), .l (rAt ds 10)]
theorem N10i240 (W : World) (ds l : List D) : (envOf N10 W ds).fi 240 l = mkK l := by simp only [envOf, N10, N9c, N9b, N9, N8, N7, N6, N5, N4, N3, N2, N1, KG, KF, KE, KD, KC, KB, KA, K9, K8, K7, K6, K5, K]
theorem N10i241 (W : World) (ds l : List D) : (envOf N10 W ds).fi 241 l = mkI l := by simp only [envOf, N10, N9c, N9b, N9, N8, N7, N6, N5, N4, N3, N2, N1, KG, KF, KE, KD, KC, KB, KA, K9, K8, K7, K6, K5, K]
theorem N10i242 (W : World) (ds l : List D) : (envOf N10 W ds).fi 242 l = mkE l := by simp only [envOf, N10, N9c, N9b, N9, N8, N7, N6, N5, N4, N3, N2, N1, KG, KF, KE, KD, KC, KB, KA, K9, K8, K7, K6, K5, K]
theorem N10b243 (W : World) (ds l : List D) : (envOf N10 W ds).fb 243 l = verR l := by simp only [envOf, N10, N9c, N9b, N9, N8, N7, N6, N5, N4, N3, N2, N1, KG, KF, KE, KD, KC, KB, KA, K9, K8, K7, K6, K5, K]
theorem N10i244 (W : World) (ds l : List D) : (envOf N10 W ds).fi 244 l = verE l := by simp only [envOf, N10, N9c, N9b, N9, N8, N7, N6, N5, N4, N3, N2, N1, KG, KF, KE, KD, KC, KB, KA, K9, K8, K7, K6, K5, K]
theorem N10d4 (W : World) (ds l : List D) : (envOf N10 W ds).fd 4 l = mkC l := by simp only [envOf, N10, N9c, N9b, N9, N8, N7, N6, N5, N4, N3, N2, N1, KG, KF, KE, KD, KC, KB, KA, K9, K8, K7, K6, K5, K]
theorem N10d5 (W : World) (ds l : List D) : (envOf N10 W ds).fd 5 l = mkDi l := by simp only [envOf, N10, N9c, N9b, N9, N8, N7, N6, N5, N4, N3, N2, N1, KG, KF, KE, KD, KC, KB, KA, K9, K8, K7, K6, K5, K]
theorem N10i210 (W : World) (ds l : List D) : (envOf N10 W ds).fi 210 l = againI l := by simp only [envOf, N10, N9c, N9b, N9, N8, N7, N6, N5, N4, N3, N2, N1, KG, KF, KE, KD, KC, KB, KA, K9, K8, K7, K6, K5, K]
theorem N10i211 (W : World) (ds l : List D) : (envOf N10 W ds).fi 211 l = againE l := by simp only [envOf, N10, N9c, N9b, N9, N8, N7, N6, N5, N4, N3, N2, N1, KG, KF, KE, KD, KC, KB, KA, K9, K8, K7, K6, K5, K]
theorem N10i58 (W : World) (ds l : List D) : (envOf N10 W ds).fi 58 l = zoneE l := by simp only [envOf, N10, N9c, N9b, N9, N8, N7, N6, N5, N4, N3, N2, N1, KG, KF, KE, KD, KC, KB, KA, K9, K8, K7, K6, K5, K]
set_option maxHeartbeats 2000000 in
theorem gCertLaw : Gives Tryz.prog 3 [caseS, it] (fun _ => .bool true) := by
  refine GivesIf.all (fn_gives N10 (by kernel_rfl) (fun ρ h => ctO4_ok (Sees.of h 250) (SeesD.of h 6)) (by kernel_rfl) trLawCert_is trLawCert_low (by decide) (fun W vals ds hr _ => ?_))
  have eM : [D.l (rAt ds 0), .i (iAt ds 1), .i (iAt ds 2), .i (iAt ds 3), .l (rAt ds 4), .i (iAt ds 5), .i (iAt ds 6), .l (rAt ds 7), .i (iAt ds 8), .i (iAt ds 9), .l (rAt ds 10)] = mA ds := rfl
  have eV : ∀ ch di, [D.l (rAt ds 0), .i (iAt ds 1), .i (iAt ds 2), .i (iAt ds 3), .l (rAt ds 4), .i (iAt ds 5), .i (iAt ds 6), .l (rAt ds 7), .i (iAt ds 8), .i (iAt ds 9), .l (rAt ds 10), .l ch, .l di] = vA (mA ds) ch di := fun _ _ => rfl
  have eA : [D.l (rAt ds 0), .i (iAt ds 1), .i (iAt ds 2), .i (iAt ds 3), .l (rAt ds 4), .i (iAt ds 11), .i (iAt ds 5), .i (iAt ds 6), .l (rAt ds 7), .i (iAt ds 8), .i (iAt ds 9), .l (rAt ds 10), .l []] = aA (mA ds) (iAt ds 11) := rfl
  have e4 : rAt ds 4 = rAt (mA ds) 4 := rfl
  simp only [trLawCert, TT.sat_ret, TT.sat_ite, B.ev, E.ev, X.ev, cmp_t, cmp_f, V.plain, V2.plain, S.plain, S0.plain, V.val, V2.val, S.val, S0.val, envOf_d, true_and, cmpP]
  clear hr
  refine ⟨fun _ => trivial, fun h4 => ⟨fun _ => trivial, fun h6 => ?_⟩⟩
  refine TT.sat_loop (fun v => ∃ i : Nat, v.i 0 = i ∧ i ≤ (rAt ds 0).length) (fun v => (rAt ds 0).length - (v.i 0).toNat) ⟨0, by simp [val_i, aget, E.ev], by omega⟩ (fun v hv => ?_)
  obtain ⟨i, i0, i1⟩ := hv
  simp only [TT.sat_ret, TT.sat_ite, TT.sat_ob, TT.sat_next, put_i, put_d, put_fi, put_fb, put_fd, Ob.ok, B.ev, E.ev, X.ev, AL.ev, cmp_t, cmp_f, arEv, envOf_i, envOf_d, true_and, cell_lr, cmpP, val_i, aget, beq_self_eq_true, if_true, if_false, Nat.reduceLT, Nat.reduceSub, Nat.sub_self, Nat.lt_irrefl, X.ev, i0, N10i240, N10i241, N10i242, N10b243, N10i244, N10d4, N10d5, N10i210, N10i211, N10i58, eM, eV, eA]
  refine ⟨fun hc => ⟨by omega, hc, fun _ => trivial, fun _ => ?_⟩, fun hc => ⟨fun h => ?_, fun h => ?_⟩⟩
  · rw [wrap_in ((i : Int) + 1) (by omega) (by omega)]
    exact ⟨⟨i + 1, rfl, by omega⟩, by omega⟩
  · obtain ⟨a, b, c, d⟩ := mk_not h
    rw [a, b]
    refine ⟨fun _ => ⟨fun _ => ⟨fun _ => ?_, fun e => ⟨fun _ => ?_, fun f => ?_⟩⟩, fun q => absurd rfl q⟩, fun q => absurd rfl q⟩
    · simp only [cmpEv, ge_iff_le, d, decide_true]
    · simp only [cmpEv, ge_iff_le, d, decide_true]
    · exact (c.elim e f).elim
  · have h : mkE (mA ds) = 0 := Decidable.not_not.mp h
    obtain ⟨hO, hf⟩ := mk_yes h
    obtain ⟨a1, a2, a3, a4, a5⟩ := mk_all hO hf
    obtain ⟨v1, v2⟩ := mk_verified h
    obtain ⟨g1, g2⟩ := mk_again h (iAt ds 11)
    have el : (mkC (mA ds)).length = (rAt ds 4).length := by rw [a4, chN_len]; rfl
    generalize againE (aA (mA ds) (iAt ds 11)) = E at *
    generalize againI (aA (mA ds) (iAt ds 11)) = I at *
    rw [a1, a2, v1, v2, el]
    have g1 : ¬ E = 0 → iAt ds 11 < 0 ∨ (rAt ds 4).length < iAt ds 11 := g1
    have g2 : E = 0 → I < 0 ∨ (iAt ds 11 ≤ I ∧ zoneE [.i (iAt ds 1), .i (iAt ds 2), .i (iAt ds 3), .l (rAt ds 4), .i I] ≠ 0) := g2
    refine ⟨fun _ => ⟨fun _ => ⟨fun _ => ⟨fun _ => ⟨fun e => ⟨fun _ => ⟨fun q => absurd q e, fun _ => ⟨fun _ => trivial, fun q => ?_⟩⟩, fun q => absurd rfl q⟩, fun e => ⟨fun q => ⟨fun _ => ⟨fun _ => trivial, fun q2 => absurd (Decidable.not_not.mp e) q2⟩, fun q2 => absurd rfl q2⟩, fun q => ⟨fun _ => ⟨fun q3 => ?_, fun q3 => ?_⟩, fun q2 => absurd rfl q2⟩⟩⟩, fun q => by cases q⟩, fun q => absurd rfl q⟩, fun q => absurd rfl q⟩, fun q => absurd rfl q⟩
    · have := g1 e
      have : iAt ds 11 > (rAt ds 4).length := by omega
      simp only [cmpEv, this, decide_true]
    · rcases g2 (Decidable.not_not.mp e) with z | ⟨z1, z2⟩
      · exact absurd z q
      · simp only [cmpEv, bne_iff_ne.2 z2]
    · rcases g2 (Decidable.not_not.mp e) with z | ⟨z1, z2⟩
      · exact absurd z q
      · exact absurd z1 (by omega)
end Go.Proofs.YtkjjkckcjgkhmaaGreat
/- Chapter 40: the tree of the law CheckFirst. -/
namespace Go.Proofs.YtkjjkckcjgkhmaaGreat
open Go.RowKit
def trLawFirst : TT OpR :=
(.ite (.cmp .gtr (.len (.var 0)) (.lit 4))
 (.ret ((.v (.one (.z (.bool (.lit true))))), [], 2))
 (.ite (.cmp .gtr (.len (.var 4)) (.lit 6))
 (.ret ((.v (.one (.z (.bool (.lit true))))), [], 2))
 (.loop 0 3000 ⟨[(0, (.lit 0))], [], []⟩
 (.ite (.cmp .lss (.var 3000) (.len (.var 0)))
 (.ob (.tru (.cmp .leq (.lit 0) (.var 3000)))
 (.ob (.tru (.cmp .lss (.var 3000) (.len (.var 0))))
 (.ite (.cmp .gtr (.len (.rd (.var 0) (.var 3000) 12)) (.lit 12))
 (.ret ((.v (.one (.z (.bool (.lit true))))), [], 3))
 (.next 0 ⟨[(0, (.ar .add .i64 (.var 3000) (.lit 1)))], [], []⟩))))
 (.ite (.cmp .neq (.fn 242 (.x (.var 0) (.i (.var 1) (.i (.var 2) (.i (.var 3) (.x (.var 4) (.i (.var 5) (.i (.var 6) (.x (.var 7) (.i (.var 8) (.i (.var 9) (.x (.var 10) .nil)))))))))))) (.lit 20))
 (.ret ((.v (.one (.z (.bool (.lit true))))), [], 6))
 (.ite (.cmp .lss (.fn 240 (.x (.var 0) (.i (.var 1) (.i (.var 2) (.i (.var 3) (.x (.var 4) (.i (.var 5) (.i (.var 6) (.x (.var 7) (.i (.var 8) (.i (.var 9) (.x (.var 10) .nil)))))))))))) (.lit 0))
 (.ret ((.v (.one (.z (.bool (.lit false))))), [], 6))
 (.ite (.cmp .geq (.fn 240 (.x (.var 0) (.i (.var 1) (.i (.var 2) (.i (.var 3) (.x (.var 4) (.i (.var 5) (.i (.var 6) (.x (.var 7) (.i (.var 8) (.i (.var 9) (.x (.var 10) .nil)))))))))))) (.len (.var 4)))
 (.ret ((.v (.one (.z (.bool (.lit false))))), [], 6))
 (.loop 1 7000 ⟨[(1, (.lit 0))], [(0, (.lit true))], []⟩
 (.ite (.cmp .lss (.var 7001) (.fn 240 (.x (.var 0) (.i (.var 1) (.i (.var 2) (.i (.var 3) (.x (.var 4) (.i (.var 5) (.i (.var 6) (.x (.var 7) (.i (.var 8) (.i (.var 9) (.x (.var 10) .nil)))))))))))))
 (.ite (.var 7000)
 (.next 1 ⟨[(1, (.ar .add .i64 (.var 7001) (.lit 1)))], [(0, (.cmp .eql (.fn 202 (.x (.var 0) (.i (.var 1) (.i (.var 2) (.i (.var 3) (.x (.var 4) (.i (.var 7001) (.i (.var 5) (.i (.var 6) (.x (.var 7) (.i (.var 8) (.i (.var 9) (.x (.var 10) .nil))))))))))))) (.lit 0)))], []⟩)
 (.next 1 ⟨[(1, (.ar .add .i64 (.var 7001) (.lit 1)))], [(0, (.lit false))], []⟩))
 (.loop 2 9000 ⟨[(0, (.lit 0))], [], []⟩
 (.ite (.cmp .lss (.var 9000) (.len (.var 0)))
 (.ob (.tru (.cmp .leq (.lit 0) (.var 9000)))
 (.ob (.tru (.cmp .lss (.var 9000) (.len (.var 0))))
 (.ite (.cmp .eql (.rd (.var 0) (.var 9000) 0) (.fn 200 (.x (.var 0) (.i (.var 1) (.i (.var 2) (.i (.var 3) (.x (.var 4) (.i (.fn 240 (.x (.var 0) (.i (.var 1) (.i (.var 2) (.i (.var 3) (.x (.var 4) (.i (.var 5) (.i (.var 6) (.x (.var 7) (.i (.var 8) (.i (.var 9) (.x (.var 10) .nil)))))))))))) (.i (.var 5) (.i (.var 6) (.x (.var 7) (.i (.var 8) (.i (.var 9) (.x (.var 10) .nil))))))))))))))
 (.ite (.cmp .lss (.var 9000) (.lit 0))
 (.ite (.cmp .neq (.fn 202 (.x (.var 0) (.i (.var 1) (.i (.var 2) (.i (.var 3) (.x (.var 4) (.i (.fn 240 (.x (.var 0) (.i (.var 1) (.i (.var 2) (.i (.var 3) (.x (.var 4) (.i (.var 5) (.i (.var 6) (.x (.var 7) (.i (.var 8) (.i (.var 9) (.x (.var 10) .nil)))))))))))) (.i (.var 5) (.i (.var 6) (.x (.var 7) (.i (.var 8) (.i (.var 9) (.x (.var 10) .nil))))))))))))) (.lit 20))
 (.ret ((.v (.one (.z (.bool (.lit false))))), [], 11))
 (.ite (.cmp .neq (.fn 201 (.x (.var 0) (.i (.var 1) (.i (.var 2) (.i (.var 3) (.x (.var 4) (.i (.fn 240 (.x (.var 0) (.i (.var 1) (.i (.var 2) (.i (.var 3) (.x (.var 4) (.i (.var 5) (.i (.var 6) (.x (.var 7) (.i (.var 8) (.i (.var 9) (.x (.var 10) .nil)))))))))))) (.i (.var 5) (.i (.var 6) (.x (.var 7) (.i (.var 8) (.i (.var 9) (.x (.var 10) .nil))))))))))))) (.fn 241 (.x (.var 0) (.i (.var 1) (.i (.var 2) (.i (.var 3) (.x (.var 4) (.i (.var 5) (.i (.var 6) (.x (.var 7) (.i (.var 8) (.i (.var 9) (.x (.var 10) .nil)))))))))))))
 (.ret ((.v (.one (.z (.bool (.lit false))))), [], 11))
 (.ret ((.v (.one (.z (.bool (.lit false))))), [], 11))))
 (.ob (.tru (.cmp .leq (.lit 0) (.var 9000)))
 (.ob (.tru (.cmp .lss (.var 9000) (.len (.var 0))))
 (.ite (.cmp .neq (.fn 202 (.x (.var 0) (.i (.var 1) (.i (.var 2) (.i (.var 3) (.x (.var 4) (.i (.fn 240 (.x (.var 0) (.i (.var 1) (.i (.var 2) (.i (.var 3) (.x (.var 4) (.i (.var 5) (.i (.var 6) (.x (.var 7) (.i (.var 8) (.i (.var 9) (.x (.var 10) .nil)))))))))))) (.i (.var 5) (.i (.var 6) (.x (.var 7) (.i (.var 8) (.i (.var 9) (.x (.var 10) .nil))))))))))))) (.lit 20))
 (.ret ((.v (.one (.z (.bool (.lit false))))), [], 11))
 (.ite (.cmp .neq (.fn 201 (.x (.var 0) (.i (.var 1) (.i (.var 2) (.i (.var 3) (.x (.var 4) (.i (.fn 240 (.x (.var 0) (.i (.var 1) (.i (.var 2) (.i (.var 3) (.x (.var 4) (.i (.var 5) (.i (.var 6) (.x (.var 7) (.i (.var 8) (.i (.var 9) (.x (.var 10) .nil)))))))))))) (.i (.var 5) (.i (.var 6) (.x (.var 7) (.i (.var 8) (.i (.var 9) (.x (.var 10) .nil))))))))))))) (.fn 241 (.x (.var 0) (.i (.var 1) (.i (.var 2) (.i (.var 3) (.x (.var 4) (.i (.var 5) (.i (.var 6) (.x (.var 7) (.i (.var 8) (.i (.var 9) (.x (.var 10) .nil)))))))))))))
 (.ret ((.v (.one (.z (.bool (.lit false))))), [], 11))
 (.ite (.cmp .neq (.fn 26 (.i (.var 1) (.i (.var 2) (.i (.var 3) (.x (.var 4) (.i (.fn 240 (.x (.var 0) (.i (.var 1) (.i (.var 2) (.i (.var 3) (.x (.var 4) (.i (.var 5) (.i (.var 6) (.x (.var 7) (.i (.var 8) (.i (.var 9) (.x (.var 10) .nil)))))))))))) .nil)))))) (.lit 0))
 (.ret ((.v (.one (.z (.bool (.lit false))))), [], 11))
 (.ob (.tru (.cmp .leq (.lit 0) (.fn 240 (.x (.var 0) (.i (.var 1) (.i (.var 2) (.i (.var 3) (.x (.var 4) (.i (.var 5) (.i (.var 6) (.x (.var 7) (.i (.var 8) (.i (.var 9) (.x (.var 10) .nil))))))))))))))
 (.ob (.tru (.cmp .lss (.fn 240 (.x (.var 0) (.i (.var 1) (.i (.var 2) (.i (.var 3) (.x (.var 4) (.i (.var 5) (.i (.var 6) (.x (.var 7) (.i (.var 8) (.i (.var 9) (.x (.var 10) .nil)))))))))))) (.len (.var 4))))
 (.ite (.cmp .eql (.fn 241 (.x (.var 0) (.i (.var 1) (.i (.var 2) (.i (.var 3) (.x (.var 4) (.i (.var 5) (.i (.var 6) (.x (.var 7) (.i (.var 8) (.i (.var 9) (.x (.var 10) .nil)))))))))))) (.lit 0))
 (.ite (.var 7000)
 (.ite (.cmp .eql (.fn 171 (.i (.var 5) (.i (.var 6) (.x (.var 7) (.i (.var 8) (.i (.var 9) (.x (.var 10) (.i (.rd (.var 0) (.var 9000) 10) (.i (.rd (.var 4) (.fn 240 (.x (.var 0) (.i (.var 1) (.i (.var 2) (.i (.var 3) (.x (.var 4) (.i (.var 5) (.i (.var 6) (.x (.var 7) (.i (.var 8) (.i (.var 9) (.x (.var 10) .nil)))))))))))) 5) (.i (.fn 24 (.i (.var 1) (.i (.var 2) (.i (.var 3) (.x (.var 4) (.i (.fn 240 (.x (.var 0) (.i (.var 1) (.i (.var 2) (.i (.var 3) (.x (.var 4) (.i (.var 5) (.i (.var 6) (.x (.var 7) (.i (.var 8) (.i (.var 9) (.x (.var 10) .nil)))))))))))) .nil)))))) (.i (.fn 25 (.i (.var 1) (.i (.var 2) (.i (.var 3) (.x (.var 4) (.i (.fn 240 (.x (.var 0) (.i (.var 1) (.i (.var 2) (.i (.var 3) (.x (.var 4) (.i (.var 5) (.i (.var 6) (.x (.var 7) (.i (.var 8) (.i (.var 9) (.x (.var 10) .nil)))))))))))) .nil)))))) .nil))))))))))) (.lit 0))
 (.ret ((.v (.one (.z (.bool (.not (.fn 171 (.i (.var 5) (.i (.var 6) (.x (.var 7) (.i (.var 8) (.i (.var 9) (.x (.var 10) (.i (.rd (.var 0) (.var 9000) 10) (.i (.rd (.var 4) (.fn 240 (.x (.var 0) (.i (.var 1) (.i (.var 2) (.i (.var 3) (.x (.var 4) (.i (.var 5) (.i (.var 6) (.x (.var 7) (.i (.var 8) (.i (.var 9) (.x (.var 10) .nil)))))))))))) 5) (.i (.fn 24 (.i (.var 1) (.i (.var 2) (.i (.var 3) (.x (.var 4) (.i (.fn 240 (.x (.var 0) (.i (.var 1) (.i (.var 2) (.i (.var 3) (.x (.var 4) (.i (.var 5) (.i (.var 6) (.x (.var 7) (.i (.var 8) (.i (.var 9) (.x (.var 10) .nil)))))))))))) .nil)))))) (.i (.fn 25 (.i (.var 1) (.i (.var 2) (.i (.var 3) (.x (.var 4) (.i (.fn 240 (.x (.var 0) (.i (.var 1) (.i (.var 2) (.i (.var 3) (.x (.var 4) (.i (.var 5) (.i (.var 6) (.x (.var 7) (.i (.var 8) (.i (.var 9) (.x (.var 10) .nil)))))))))))) .nil)))))) .nil)))))))))))))))), [], 11))
 (.ret ((.v (.one (.z (.bool (.lit false))))), [], 11)))
 (.ret ((.v (.one (.z (.bool (.lit false))))), [], 11)))
 (.ite (.var 7000)
 (.ite (.cmp .eql (.fn 254 (.i (.rd (.var 0) (.var 9000) 0) (.i (.rd (.var 0) (.var 9000) 1) (.i (.rd (.var 0) (.var 9000) 2) (.i (.rd (.var 0) (.var 9000) 3) (.i (.rd (.var 0) (.var 9000) 4) (.i (.rd (.var 0) (.var 9000) 5) (.i (.rd (.var 0) (.var 9000) 6) (.i (.rd (.var 0) (.var 9000) 7) (.i (.rd (.var 0) (.var 9000) 8) (.i (.rd (.var 0) (.var 9000) 9) (.i (.rd (.var 0) (.var 9000) 10) (.x (.rd (.var 0) (.var 9000) 11) (.x (.rd (.var 0) (.var 9000) 12) (.i (.fn 241 (.x (.var 0) (.i (.var 1) (.i (.var 2) (.i (.var 3) (.x (.var 4) (.i (.var 5) (.i (.var 6) (.x (.var 7) (.i (.var 8) (.i (.var 9) (.x (.var 10) .nil)))))))))))) .nil))))))))))))))) (.lit 0))
 (.ite (.cmp .eql (.fn 171 (.i (.var 5) (.i (.var 6) (.x (.var 7) (.i (.var 8) (.i (.var 9) (.x (.var 10) (.i (.fn 255 (.i (.lit 6) (.i (.rd (.var 0) (.var 9000) 0) (.i (.rd (.var 0) (.var 9000) 1) (.i (.rd (.var 0) (.var 9000) 2) (.i (.rd (.var 0) (.var 9000) 3) (.i (.rd (.var 0) (.var 9000) 4) (.i (.rd (.var 0) (.var 9000) 5) (.i (.rd (.var 0) (.var 9000) 6) (.i (.rd (.var 0) (.var 9000) 7) (.i (.rd (.var 0) (.var 9000) 8) (.i (.rd (.var 0) (.var 9000) 9) (.i (.rd (.var 0) (.var 9000) 10) (.x (.rd (.var 0) (.var 9000) 11) (.x (.rd (.var 0) (.var 9000) 12) (.i (.fn 241 (.x (.var 0) (.i (.var 1) (.i (.var 2) (.i (.var 3) (.x (.var 4) (.i (.var 5) (.i (.var 6) (.x (.var 7) (.i (.var 8) (.i (.var 9) (.x (.var 10) .nil)))))))))))) .nil)))))))))))))))) (.i (.rd (.var 4) (.fn 240 (.x (.var 0) (.i (.var 1) (.i (.var 2) (.i (.var 3) (.x (.var 4) (.i (.var 5) (.i (.var 6) (.x (.var 7) (.i (.var 8) (.i (.var 9) (.x (.var 10) .nil)))))))))))) 5) (.i (.fn 24 (.i (.var 1) (.i (.var 2) (.i (.var 3) (.x (.var 4) (.i (.fn 240 (.x (.var 0) (.i (.var 1) (.i (.var 2) (.i (.var 3) (.x (.var 4) (.i (.var 5) (.i (.var 6) (.x (.var 7) (.i (.var 8) (.i (.var 9) (.x (.var 10) .nil)))))))))))) .nil)))))) (.i (.fn 25 (.i (.var 1) (.i (.var 2) (.i (.var 3) (.x (.var 4) (.i (.fn 240 (.x (.var 0) (.i (.var 1) (.i (.var 2) (.i (.var 3) (.x (.var 4) (.i (.var 5) (.i (.var 6) (.x (.var 7) (.i (.var 8) (.i (.var 9) (.x (.var 10) .nil)))))))))))) .nil)))))) .nil))))))))))) (.lit 0))
 (.ite (.cmp .eql (.fn 255 (.i (.lit 1) (.i (.rd (.var 0) (.var 9000) 0) (.i (.rd (.var 0) (.var 9000) 1) (.i (.rd (.var 0) (.var 9000) 2) (.i (.rd (.var 0) (.var 9000) 3) (.i (.rd (.var 0) (.var 9000) 4) (.i (.rd (.var 0) (.var 9000) 5) (.i (.rd (.var 0) (.var 9000) 6) (.i (.rd (.var 0) (.var 9000) 7) (.i (.rd (.var 0) (.var 9000) 8) (.i (.rd (.var 0) (.var 9000) 9) (.i (.rd (.var 0) (.var 9000) 10) (.x (.rd (.var 0) (.var 9000) 11) (.x (.rd (.var 0) (.var 9000) 12) (.i (.fn 241 (.x (.var 0) (.i (.var 1) (.i (.var 2) (.i (.var 3) (.x (.var 4) (.i (.var 5) (.i (.var 6) (.x (.var 7) (.i (.var 8) (.i (.var 9) (.x (.var 10) .nil)))))))))))) .nil)))))))))))))))) (.lit 6))
 (.ite (.cmp .eql (.fn 191 (.i (.rd (.var 0) (.var 9000) 0) (.i (.rd (.var 0) (.var 9000) 1) (.i (.rd (.var 0) (.var 9000) 2) (.i (.rd (.var 0) (.var 9000) 3) (.i (.rd (.var 0) (.var 9000) 4) (.i (.rd (.var 0) (.var 9000) 5) (.i (.rd (.var 0) (.var 9000) 6) (.i (.rd (.var 0) (.var 9000) 7) (.i (.rd (.var 0) (.var 9000) 8) (.i (.rd (.var 0) (.var 9000) 9) (.i (.rd (.var 0) (.var 9000) 10) (.x (.rd (.var 0) (.var 9000) 11) (.x (.app (.row (.i (.fn 255 (.i (.lit 0) (.i (.rd (.var 0) (.var 9000) 0) (.i (.rd (.var 0) (.var 9000) 1) (.i (.rd (.var 0) (.var 9000) 2) (.i (.rd (.var 0) (.var 9000) 3) (.i (.rd (.var 0) (.var 9000) 4) (.i (.rd (.var 0) (.var 9000) 5) (.i (.rd (.var 0) (.var 9000) 6) (.i (.rd (.var 0) (.var 9000) 7) (.i (.rd (.var 0) (.var 9000) 8) (.i (.rd (.var 0) (.var 9000) 9) (.i (.rd (.var 0) (.var 9000) 10) (.x (.rd (.var 0) (.var 9000) 11) (.x (.rd (.var 0) (.var 9000) 12) (.i (.fn 241 (.x (.var 0) (.i (.var 1) (.i (.var 2) (.i (.var 3) (.x (.var 4) (.i (.var 5) (.i (.var 6) (.x (.var 7) (.i (.var 8) (.i (.var 9) (.x (.var 10) .nil)))))))))))) .nil)))))))))))))))) (.i (.fn 255 (.i (.lit 1) (.i (.rd (.var 0) (.var 9000) 0) (.i (.rd (.var 0) (.var 9000) 1) (.i (.rd (.var 0) (.var 9000) 2) (.i (.rd (.var 0) (.var 9000) 3) (.i (.rd (.var 0) (.var 9000) 4) (.i (.rd (.var 0) (.var 9000) 5) (.i (.rd (.var 0) (.var 9000) 6) (.i (.rd (.var 0) (.var 9000) 7) (.i (.rd (.var 0) (.var 9000) 8) (.i (.rd (.var 0) (.var 9000) 9) (.i (.rd (.var 0) (.var 9000) 10) (.x (.rd (.var 0) (.var 9000) 11) (.x (.rd (.var 0) (.var 9000) 12) (.i (.fn 241 (.x (.var 0) (.i (.var 1) (.i (.var 2) (.i (.var 3) (.x (.var 4) (.i (.var 5) (.i (.var 6) (.x (.var 7) (.i (.var 8) (.i (.var 9) (.x (.var 10) .nil)))))))))))) .nil)))))))))))))))) (.i (.fn 255 (.i (.lit 2) (.i (.rd (.var 0) (.var 9000) 0) (.i (.rd (.var 0) (.var 9000) 1) (.i (.rd (.var 0) (.var 9000) 2) (.i (.rd (.var 0) (.var 9000) 3) (.i (.rd (.var 0) (.var 9000) 4) (.i (.rd (.var 0) (.var 9000) 5) (.i (.rd (.var 0) (.var 9000) 6) (.i (.rd (.var 0) (.var 9000) 7) (.i (.rd (.var 0) (.var 9000) 8) (.i (.rd (.var 0) (.var 9000) 9) (.i (.rd (.var 0) (.var 9000) 10) (.x (.rd (.var 0) (.var 9000) 11) (.x (.rd (.var 0) (.var 9000) 12) (.i (.fn 241 (.x (.var 0) (.i (.var 1) (.i (.var 2) (.i (.var 3) (.x (.var 4) (.i (.var 5) (.i (.var 6) (.x (.var 7) (.i (.var 8) (.i (.var 9) (.x (.var 10) .nil)))))))))))) .nil)))))))))))))))) (.i (.fn 255 (.i (.lit 3) (.i (.rd (.var 0) (.var 9000) 0) (.i (.rd (.var 0) (.var 9000) 1) (.i (.rd (.var 0) (.var 9000) 2) (.i (.rd (.var 0) (.var 9000) 3) (.i (.rd (.var 0) (.var 9000) 4) (.i (.rd (.var 0) (.var 9000) 5) (.i (.rd (.var 0) (.var 9000) 6) (.i (.rd (.var 0) (.var 9000) 7) (.i (.rd (.var 0) (.var 9000) 8) (.i (.rd (.var 0) (.var 9000) 9) (.i (.rd (.var 0) (.var 9000) 10) (.x (.rd (.var 0) (.var 9000) 11) (.x (.rd (.var 0) (.var 9000) 12) (.i (.fn 241 (.x (.var 0) (.i (.var 1) (.i (.var 2) (.i (.var 3) (.x (.var 4) (.i (.var 5) (.i (.var 6) (.x (.var 7) (.i (.var 8) (.i (.var 9) (.x (.var 10) .nil)))))))))))) .nil)))))))))))))))) (.i (.fn 255 (.i (.lit 4) (.i (.rd (.var 0) (.var 9000) 0) (.i (.rd (.var 0) (.var 9000) 1) (.i (.rd (.var 0) (.var 9000) 2) (.i (.rd (.var 0) (.var 9000) 3) (.i (.rd (.var 0) (.var 9000) 4) (.i (.rd (.var 0) (.var 9000) 5) (.i (.rd (.var 0) (.var 9000) 6) (.i (.rd (.var 0) (.var 9000) 7) (.i (.rd (.var 0) (.var 9000) 8) (.i (.rd (.var 0) (.var 9000) 9) (.i (.rd (.var 0) (.var 9000) 10) (.x (.rd (.var 0) (.var 9000) 11) (.x (.rd (.var 0) (.var 9000) 12) (.i (.fn 241 (.x (.var 0) (.i (.var 1) (.i (.var 2) (.i (.var 3) (.x (.var 4) (.i (.var 5) (.i (.var 6) (.x (.var 7) (.i (.var 8) (.i (.var 9) (.x (.var 10) .nil)))))))))))) .nil)))))))))))))))) (.x (.fn 6 (.i (.rd (.var 0) (.var 9000) 0) (.i (.rd (.var 0) (.var 9000) 1) (.i (.rd (.var 0) (.var 9000) 2) (.i (.rd (.var 0) (.var 9000) 3) (.i (.rd (.var 0) (.var 9000) 4) (.i (.rd (.var 0) (.var 9000) 5) (.i (.rd (.var 0) (.var 9000) 6) (.i (.rd (.var 0) (.var 9000) 7) (.i (.rd (.var 0) (.var 9000) 8) (.i (.rd (.var 0) (.var 9000) 9) (.i (.rd (.var 0) (.var 9000) 10) (.x (.rd (.var 0) (.var 9000) 11) (.x (.rd (.var 0) (.var 9000) 12) (.i (.fn 241 (.x (.var 0) (.i (.var 1) (.i (.var 2) (.i (.var 3) (.x (.var 4) (.i (.var 5) (.i (.var 6) (.x (.var 7) (.i (.var 8) (.i (.var 9) (.x (.var 10) .nil)))))))))))) .nil))))))))))))))) (.i (.fn 255 (.i (.lit 6) (.i (.rd (.var 0) (.var 9000) 0) (.i (.rd (.var 0) (.var 9000) 1) (.i (.rd (.var 0) (.var 9000) 2) (.i (.rd (.var 0) (.var 9000) 3) (.i (.rd (.var 0) (.var 9000) 4) (.i (.rd (.var 0) (.var 9000) 5) (.i (.rd (.var 0) (.var 9000) 6) (.i (.rd (.var 0) (.var 9000) 7) (.i (.rd (.var 0) (.var 9000) 8) (.i (.rd (.var 0) (.var 9000) 9) (.i (.rd (.var 0) (.var 9000) 10) (.x (.rd (.var 0) (.var 9000) 11) (.x (.rd (.var 0) (.var 9000) 12) (.i (.fn 241 (.x (.var 0) (.i (.var 1) (.i (.var 2) (.i (.var 3) (.x (.var 4) (.i (.var 5) (.i (.var 6) (.x (.var 7) (.i (.var 8) (.i (.var 9) (.x (.var 10) .nil)))))))))))) .nil)))))))))))))))) (.i (.fn 255 (.i (.lit 7) (.i (.rd (.var 0) (.var 9000) 0) (.i (.rd (.var 0) (.var 9000) 1) (.i (.rd (.var 0) (.var 9000) 2) (.i (.rd (.var 0) (.var 9000) 3) (.i (.rd (.var 0) (.var 9000) 4) (.i (.rd (.var 0) (.var 9000) 5) (.i (.rd (.var 0) (.var 9000) 6) (.i (.rd (.var 0) (.var 9000) 7) (.i (.rd (.var 0) (.var 9000) 8) (.i (.rd (.var 0) (.var 9000) 9) (.i (.rd (.var 0) (.var 9000) 10) (.x (.rd (.var 0) (.var 9000) 11) (.x (.rd (.var 0) (.var 9000) 12) (.i (.fn 241 (.x (.var 0) (.i (.var 1) (.i (.var 2) (.i (.var 3) (.x (.var 4) (.i (.var 5) (.i (.var 6) (.x (.var 7) (.i (.var 8) (.i (.var 9) (.x (.var 10) .nil)))))))))))) .nil)))))))))))))))) (.x (.fn 7 (.i (.rd (.var 0) (.var 9000) 0) (.i (.rd (.var 0) (.var 9000) 1) (.i (.rd (.var 0) (.var 9000) 2) (.i (.rd (.var 0) (.var 9000) 3) (.i (.rd (.var 0) (.var 9000) 4) (.i (.rd (.var 0) (.var 9000) 5) (.i (.rd (.var 0) (.var 9000) 6) (.i (.rd (.var 0) (.var 9000) 7) (.i (.rd (.var 0) (.var 9000) 8) (.i (.rd (.var 0) (.var 9000) 9) (.i (.rd (.var 0) (.var 9000) 10) (.x (.rd (.var 0) (.var 9000) 11) (.x (.rd (.var 0) (.var 9000) 12) (.i (.fn 241 (.x (.var 0) (.i (.var 1) (.i (.var 2) (.i (.var 3) (.x (.var 4) (.i (.var 5) (.i (.var 6) (.x (.var 7) (.i (.var 8) (.i (.var 9) (.x (.var 10) .nil)))))))))))) .nil))))))))))))))) .nil)))))))))) .nil) (.i (.var 1) (.i (.var 2) (.i (.var 3) (.x (.var 4) (.i (.fn 240 (.x (.var 0) (.i (.var 1) (.i (.var 2) (.i (.var 3) (.x (.var 4) (.i (.var 5) (.i (.var 6) (.x (.var 7) (.i (.var 8) (.i (.var 9) (.x (.var 10) .nil)))))))))))) (.i (.var 5) (.i (.var 6) (.x (.var 7) (.i (.var 8) (.i (.var 9) (.x (.var 10) .nil))))))))))))))))))))))))) (.lit 20))
 (.ret ((.v (.one (.z (.bool (.cmp .eql (.fn 190 (.i (.rd (.var 0) (.var 9000) 0) (.i (.rd (.var 0) (.var 9000) 1) (.i (.rd (.var 0) (.var 9000) 2) (.i (.rd (.var 0) (.var 9000) 3) (.i (.rd (.var 0) (.var 9000) 4) (.i (.rd (.var 0) (.var 9000) 5) (.i (.rd (.var 0) (.var 9000) 6) (.i (.rd (.var 0) (.var 9000) 7) (.i (.rd (.var 0) (.var 9000) 8) (.i (.rd (.var 0) (.var 9000) 9) (.i (.rd (.var 0) (.var 9000) 10) (.x (.rd (.var 0) (.var 9000) 11) (.x (.app (.row (.i (.fn 255 (.i (.lit 0) (.i (.rd (.var 0) (.var 9000) 0) (.i (.rd (.var 0) (.var 9000) 1) (.i (.rd (.var 0) (.var 9000) 2) (.i (.rd (.var 0) (.var 9000) 3) (.i (.rd (.var 0) (.var 9000) 4) (.i (.rd (.var 0) (.var 9000) 5) (.i (.rd (.var 0) (.var 9000) 6) (.i (.rd (.var 0) (.var 9000) 7) (.i (.rd (.var 0) (.var 9000) 8) (.i (.rd (.var 0) (.var 9000) 9) (.i (.rd (.var 0) (.var 9000) 10) (.x (.rd (.var 0) (.var 9000) 11) (.x (.rd (.var 0) (.var 9000) 12) (.i (.fn 241 (.x (.var 0) (.i (.var 1) (.i (.var 2) (.i (.var 3) (.x (.var 4) (.i (.var 5) (.i (.var 6) (.x (.var 7) (.i (.var 8) (.i (.var 9) (.x (.var 10) .nil)))))))))))) .nil)))))))))))))))) (.i (.fn 255 (.i (.lit 1) (.i (.rd (.var 0) (.var 9000) 0) (.i (.rd (.var 0) (.var 9000) 1) (.i (.rd (.var 0) (.var 9000) 2) (.i (.rd (.var 0) (.var 9000) 3) (.i (.rd (.var 0) (.var 9000) 4) (.i (.rd (.var 0) (.var 9000) 5) (.i (.rd (.var 0) (.var 9000) 6) (.i (.rd (.var 0) (.var 9000) 7) (.i (.rd (.var 0) (.var 9000) 8) (.i (.rd (.var 0) (.var 9000) 9) (.i (.rd (.var 0) (.var 9000) 10) (.x (.rd (.var 0) (.var 9000) 11) (.x (.rd (.var 0) (.var 9000) 12) (.i (.fn 241 (.x (.var 0) (.i (.var 1) (.i (.var 2) (.i (.var 3) (.x (.var 4) (.i (.var 5) (.i (.var 6) (.x (.var 7) (.i (.var 8) (.i (.var 9) (.x (.var 10) .nil)))))))))))) .nil)))))))))))))))) (.i (.fn 255 (.i (.lit 2) (.i (.rd (.var 0) (.var 9000) 0) (.i (.rd (.var 0) (.var 9000) 1) (.i (.rd (.var 0) (.var 9000) 2) (.i (.rd (.var 0) (.var 9000) 3) (.i (.rd (.var 0) (.var 9000) 4) (.i (.rd (.var 0) (.var 9000) 5) (.i (.rd (.var 0) (.var 9000) 6) (.i (.rd (.var 0) (.var 9000) 7) (.i (.rd (.var 0) (.var 9000) 8) (.i (.rd (.var 0) (.var 9000) 9) (.i (.rd (.var 0) (.var 9000) 10) (.x (.rd (.var 0) (.var 9000) 11) (.x (.rd (.var 0) (.var 9000) 12) (.i (.fn 241 (.x (.var 0) (.i (.var 1) (.i (.var 2) (.i (.var 3) (.x (.var 4) (.i (.var 5) (.i (.var 6) (.x (.var 7) (.i (.var 8) (.i (.var 9) (.x (.var 10) .nil)))))))))))) .nil)))))))))))))))) (.i (.fn 255 (.i (.lit 3) (.i (.rd (.var 0) (.var 9000) 0) (.i (.rd (.var 0) (.var 9000) 1) (.i (.rd (.var 0) (.var 9000) 2) (.i (.rd (.var 0) (.var 9000) 3) (.i (.rd (.var 0) (.var 9000) 4) (.i (.rd (.var 0) (.var 9000) 5) (.i (.rd (.var 0) (.var 9000) 6) (.i (.rd (.var 0) (.var 9000) 7) (.i (.rd (.var 0) (.var 9000) 8) (.i (.rd (.var 0) (.var 9000) 9) (.i (.rd (.var 0) (.var 9000) 10) (.x (.rd (.var 0) (.var 9000) 11) (.x (.rd (.var 0) (.var 9000) 12) (.i (.fn 241 (.x (.var 0) (.i (.var 1) (.i (.var 2) (.i (.var 3) (.x (.var 4) (.i (.var 5) (.i (.var 6) (.x (.var 7) (.i (.var 8) (.i (.var 9) (.x (.var 10) .nil)))))))))))) .nil)))))))))))))))) (.i (.fn 255 (.i (.lit 4) (.i (.rd (.var 0) (.var 9000) 0) (.i (.rd (.var 0) (.var 9000) 1) (.i (.rd (.var 0) (.var 9000) 2) (.i (.rd (.var 0) (.var 9000) 3) (.i (.rd (.var 0) (.var 9000) 4) (.i (.rd (.var 0) (.var 9000) 5) (.i (.rd (.var 0) (.var 9000) 6) (.i (.rd (.var 0) (.var 9000) 7) (.i (.rd (.var 0) (.var 9000) 8) (.i (.rd (.var 0) (.var 9000) 9) (.i (.rd (.var 0) (.var 9000) 10) (.x (.rd (.var 0) (.var 9000) 11) (.x (.rd (.var 0) (.var 9000) 12) (.i (.fn 241 (.x (.var 0) (.i (.var 1) (.i (.var 2) (.i (.var 3) (.x (.var 4) (.i (.var 5) (.i (.var 6) (.x (.var 7) (.i (.var 8) (.i (.var 9) (.x (.var 10) .nil)))))))))))) .nil)))))))))))))))) (.x (.fn 6 (.i (.rd (.var 0) (.var 9000) 0) (.i (.rd (.var 0) (.var 9000) 1) (.i (.rd (.var 0) (.var 9000) 2) (.i (.rd (.var 0) (.var 9000) 3) (.i (.rd (.var 0) (.var 9000) 4) (.i (.rd (.var 0) (.var 9000) 5) (.i (.rd (.var 0) (.var 9000) 6) (.i (.rd (.var 0) (.var 9000) 7) (.i (.rd (.var 0) (.var 9000) 8) (.i (.rd (.var 0) (.var 9000) 9) (.i (.rd (.var 0) (.var 9000) 10) (.x (.rd (.var 0) (.var 9000) 11) (.x (.rd (.var 0) (.var 9000) 12) (.i (.fn 241 (.x (.var 0) (.i (.var 1) (.i (.var 2) (.i (.var 3) (.x (.var 4) (.i (.var 5) (.i (.var 6) (.x (.var 7) (.i (.var 8) (.i (.var 9) (.x (.var 10) .nil)))))))))))) .nil))))))))))))))) (.i (.fn 255 (.i (.lit 6) (.i (.rd (.var 0) (.var 9000) 0) (.i (.rd (.var 0) (.var 9000) 1) (.i (.rd (.var 0) (.var 9000) 2) (.i (.rd (.var 0) (.var 9000) 3) (.i (.rd (.var 0) (.var 9000) 4) (.i (.rd (.var 0) (.var 9000) 5) (.i (.rd (.var 0) (.var 9000) 6) (.i (.rd (.var 0) (.var 9000) 7) (.i (.rd (.var 0) (.var 9000) 8) (.i (.rd (.var 0) (.var 9000) 9) (.i (.rd (.var 0) (.var 9000) 10) (.x (.rd (.var 0) (.var 9000) 11) (.x (.rd (.var 0) (.var 9000) 12) (.i (.fn 241 (.x (.var 0) (.i (.var 1) (.i (.var 2) (.i (.var 3) (.x (.var 4) (.i (.var 5) (.i (.var 6) (.x (.var 7) (.i (.var 8) (.i (.var 9) (.x (.var 10) .nil)))))))))))) .nil)))))))))))))))) (.i (.fn 255 (.i (.lit 7) (.i (.rd (.var 0) (.var 9000) 0) (.i (.rd (.var 0) (.var 9000) 1) (.i (.rd (.var 0) (.var 9000) 2) (.i (.rd (.var 0) (.var 9000) 3) (.i (.rd (.var 0) (.var 9000) 4) (.i (.rd (.var 0) (.var 9000) 5) (.i (.rd (.var 0) (.var 9000) 6) (.i (.rd (.var 0) (.var 9000) 7) (.i (.rd (.var 0) (.var 9000) 8) (.i (.rd (.var 0) (.var 9000) 9) (.i (.rd (.var 0) (.var 9000) 10) (.x (.rd (.var 0) (.var 9000) 11) (.x (.rd (.var 0) (.var 9000) 12) (.i (.fn 241 (.x (.var 0) (.i (.var 1) (.i (.var 2) (.i (.var 3) (.x (.var 4) (.i (.var 5) (.i (.var 6) (.x (.var 7) (.i (.var 8) (.i (.var 9) (.x (.var 10) .nil)))))))))))) .nil)))))))))))))))) (.x (.fn 7 (.i (.rd (.var 0) (.var 9000) 0) (.i (.rd (.var 0) (.var 9000) 1) (.i (.rd (.var 0) (.var 9000) 2) (.i (.rd (.var 0) (.var 9000) 3) (.i (.rd (.var 0) (.var 9000) 4) (.i (.rd (.var 0) (.var 9000) 5) (.i (.rd (.var 0) (.var 9000) 6) (.i (.rd (.var 0) (.var 9000) 7) (.i (.rd (.var 0) (.var 9000) 8) (.i (.rd (.var 0) (.var 9000) 9) (.i (.rd (.var 0) (.var 9000) 10) (.x (.rd (.var 0) (.var 9000) 11) (.x (.rd (.var 0) (.var 9000) 12) (.i (.fn 241 (.x (.var 0) (.i (.var 1) (.i (.var 2) (.i (.var 3) (.x (.var 4) (.i (.var 5) (.i (.var 6) (.x (.var 7) (.i (.var 8) (.i (.var 9) (.x (.var 10) .nil)))))))))))) .nil))))))))))))))) .nil)))))))))) .nil) (.i (.var 1) (.i (.var 2) (.i (.var 3) (.x (.var 4) (.i (.fn 240 (.x (.var 0) (.i (.var 1) (.i (.var 2) (.i (.var 3) (.x (.var 4) (.i (.var 5) (.i (.var 6) (.x (.var 7) (.i (.var 8) (.i (.var 9) (.x (.var 10) .nil)))))))))))) (.i (.var 5) (.i (.var 6) (.x (.var 7) (.i (.var 8) (.i (.var 9) (.x (.var 10) .nil))))))))))))))))))))))))) (.fn 241 (.x (.var 0) (.i (.var 1) (.i (.var 2) (.i (.var 3) (.x (.var 4) (.i (.var 5) (.i (.var 6) (.x (.var 7) (.i (.var 8) (.i (.var 9) (.x (.var 10) .nil))))))))))))))))), [], 16))
 (.ret ((.v (.one (.z (.bool (.lit false))))), [], 16)))
 (.ite (.not (.fn 171 (.i (.var 5) (.i (.var 6) (.x (.var 7) (.i (.var 8) (.i (.var 9) (.x (.var 10) (.i (.fn 255 (.i (.lit 6) (.i (.rd (.var 0) (.var 9000) 0) (.i (.rd (.var 0) (.var 9000) 1) (.i (.rd (.var 0) (.var 9000) 2) (.i (.rd (.var 0) (.var 9000) 3) (.i (.rd (.var 0) (.var 9000) 4) (.i (.rd (.var 0) (.var 9000) 5) (.i (.rd (.var 0) (.var 9000) 6) (.i (.rd (.var 0) (.var 9000) 7) (.i (.rd (.var 0) (.var 9000) 8) (.i (.rd (.var 0) (.var 9000) 9) (.i (.rd (.var 0) (.var 9000) 10) (.x (.rd (.var 0) (.var 9000) 11) (.x (.rd (.var 0) (.var 9000) 12) (.i (.fn 241 (.x (.var 0) (.i (.var 1) (.i (.var 2) (.i (.var 3) (.x (.var 4) (.i (.var 5) (.i (.var 6) (.x (.var 7) (.i (.var 8) (.i (.var 9) (.x (.var 10) .nil)))))))))))) .nil)))))))))))))))) (.i (.rd (.var 4) (.fn 240 (.x (.var 0) (.i (.var 1) (.i (.var 2) (.i (.var 3) (.x (.var 4) (.i (.var 5) (.i (.var 6) (.x (.var 7) (.i (.var 8) (.i (.var 9) (.x (.var 10) .nil)))))))))))) 5) (.i (.fn 24 (.i (.var 1) (.i (.var 2) (.i (.var 3) (.x (.var 4) (.i (.fn 240 (.x (.var 0) (.i (.var 1) (.i (.var 2) (.i (.var 3) (.x (.var 4) (.i (.var 5) (.i (.var 6) (.x (.var 7) (.i (.var 8) (.i (.var 9) (.x (.var 10) .nil)))))))))))) .nil)))))) (.i (.fn 25 (.i (.var 1) (.i (.var 2) (.i (.var 3) (.x (.var 4) (.i (.fn 240 (.x (.var 0) (.i (.var 1) (.i (.var 2) (.i (.var 3) (.x (.var 4) (.i (.var 5) (.i (.var 6) (.x (.var 7) (.i (.var 8) (.i (.var 9) (.x (.var 10) .nil)))))))))))) .nil)))))) .nil))))))))))))
 (.ite (.cmp .eql (.fn 191 (.i (.rd (.var 0) (.var 9000) 0) (.i (.rd (.var 0) (.var 9000) 1) (.i (.rd (.var 0) (.var 9000) 2) (.i (.rd (.var 0) (.var 9000) 3) (.i (.rd (.var 0) (.var 9000) 4) (.i (.rd (.var 0) (.var 9000) 5) (.i (.rd (.var 0) (.var 9000) 6) (.i (.rd (.var 0) (.var 9000) 7) (.i (.rd (.var 0) (.var 9000) 8) (.i (.rd (.var 0) (.var 9000) 9) (.i (.rd (.var 0) (.var 9000) 10) (.x (.rd (.var 0) (.var 9000) 11) (.x (.app (.row (.i (.fn 255 (.i (.lit 0) (.i (.rd (.var 0) (.var 9000) 0) (.i (.rd (.var 0) (.var 9000) 1) (.i (.rd (.var 0) (.var 9000) 2) (.i (.rd (.var 0) (.var 9000) 3) (.i (.rd (.var 0) (.var 9000) 4) (.i (.rd (.var 0) (.var 9000) 5) (.i (.rd (.var 0) (.var 9000) 6) (.i (.rd (.var 0) (.var 9000) 7) (.i (.rd (.var 0) (.var 9000) 8) (.i (.rd (.var 0) (.var 9000) 9) (.i (.rd (.var 0) (.var 9000) 10) (.x (.rd (.var 0) (.var 9000) 11) (.x (.rd (.var 0) (.var 9000) 12) (.i (.fn 241 (.x (.var 0) (.i (.var 1) (.i (.var 2) (.i (.var 3) (.x (.var 4) (.i (.var 5) (.i (.var 6) (.x (.var 7) (.i (.var 8) (.i (.var 9) (.x (.var 10) .nil)))))))))))) .nil)))))))))))))))) (.i (.fn 255 (.i (.lit 1) (.i (.rd (.var 0) (.var 9000) 0) (.i (.rd (.var 0) (.var 9000) 1) (.i (.rd (.var 0) (.var 9000) 2) (.i (.rd (.var 0) (.var 9000) 3) (.i (.rd (.var 0) (.var 9000) 4) (.i (.rd (.var 0) (.var 9000) 5) (.i (.rd (.var 0) (.var 9000) 6) (.i (.rd (.var 0) (.var 9000) 7) (.i (.rd (.var 0) (.var 9000) 8) (.i (.rd (.var 0) (.var 9000) 9) (.i (.rd (.var 0) (.var 9000) 10) (.x (.rd (.var 0) (.var 9000) 11) (.x (.rd (.var 0) (.var 9000) 12) (.i (.fn 241 (.x (.var 0) (.i (.var 1) (.i (.var 2) (.i (.var 3) (.x (.var 4) (.i (.var 5) (.i (.var 6) (.x (.var 7) (.i (.var 8) (.i (.var 9) (.x (.var 10) .nil)))))))))))) .nil)))))))))))))))) (.i (.fn 255 (.i (.lit 2) (.i (.rd (.var 0) (.var 9000) 0) (.i (.rd (.var 0) (.var 9000) 1) (.i (.rd (.var 0) (.var 9000) 2) (.i (.rd (.var 0) (.var 9000) 3) (.i (.rd (.var 0) (.var 9000) 4) (.i (.rd (.var 0) (.var 9000) 5) (.i (.rd (.var 0) (.var 9000) 6) (.i (.rd (.var 0) (.var 9000) 7) (.i (.rd (.var 0) (.var 9000) 8) (.i (.rd (.var 0) (.var 9000) 9) (.i (.rd (.var 0) (.var 9000) 10) (.x (.rd (.var 0) (.var 9000) 11) (.x (.rd (.var 0) (.var 9000) 12) (.i (.fn 241 (.x (.var 0) (.i (.var 1) (.i (.var 2) (.i (.var 3) (.x (.var 4) (.i (.var 5) (.i (.var 6) (.x (.var 7) (.i (.var 8) (.i (.var 9) (.x (.var 10) .nil)))))))))))) .nil)))))))))))))))) (.i (.fn 255 (.i (.lit 3) (.i (.rd (.var 0) (.var 9000) 0) (.i (.rd (.var 0) (.var 9000) 1) (.i (.rd (.var 0) (.var 9000) 2) (.i (.rd (.var 0) (.var 9000) 3) (.i (.rd (.var 0) (.var 9000) 4) (.i (.rd (.var 0) (.var 9000) 5) (.i (.rd (.var 0) (.var 9000) 6) (.i (.rd (.var 0) (.var 9000) 7) (.i (.rd (.var 0) (.var 9000) 8) (.i (.rd (.var 0) (.var 9000) 9) (.i (.rd (.var 0) (.var 9000) 10) (.x (.rd (.var 0) (.var 9000) 11) (.x (.rd (.var 0) (.var 9000) 12) (.i (.fn 241 (.x (.var 0) (.i (.var 1) (.i (.var 2) (.i (.var 3) (.x (.var 4) (.i (.var 5) (.i (.var 6) (.x (.var 7) (.i (.var 8) (.i (.var 9) (.x (.var 10) .nil)))))))))))) .nil)))))))))))))))) (.i (.fn 255 (.i (.lit 4) (.i (.rd (.var 0) (.var 9000) 0) (.i (.rd (.var 0) (.var 9000) 1) (.i (.rd (.var 0) (.var 9000) 2) (.i (.rd (.var 0) (.var 9000) 3) (.i (.rd (.var 0) (.var 9000) 4) (.i (.rd (.var 0) (.var 9000) 5) (.i (.rd (.var 0) (.var 9000) 6) (.i (.rd (.var 0) (.var 9000) 7) (.i (.rd (.var 0) (.var 9000) 8) (.i (.rd (.var 0) (.var 9000) 9) (.i (.rd (.var 0) (.var 9000) 10) (.x (.rd (.var 0) (.var 9000) 11) (.x (.rd (.var 0) (.var 9000) 12) (.i (.fn 241 (.x (.var 0) (.i (.var 1) (.i (.var 2) (.i (.var 3) (.x (.var 4) (.i (.var 5) (.i (.var 6) (.x (.var 7) (.i (.var 8) (.i (.var 9) (.x (.var 10) .nil)))))))))))) .nil)))))))))))))))) (.x (.fn 6 (.i (.rd (.var 0) (.var 9000) 0) (.i (.rd (.var 0) (.var 9000) 1) (.i (.rd (.var 0) (.var 9000) 2) (.i (.rd (.var 0) (.var 9000) 3) (.i (.rd (.var 0) (.var 9000) 4) (.i (.rd (.var 0) (.var 9000) 5) (.i (.rd (.var 0) (.var 9000) 6) (.i (.rd (.var 0) (.var 9000) 7) (.i (.rd (.var 0) (.var 9000) 8) (.i (.rd (.var 0) (.var 9000) 9) (.i (.rd (.var 0) (.var 9000) 10) (.x (.rd (.var 0) (.var 9000) 11) (.x (.rd (.var 0) (.var 9000) 12) (.i (.fn 241 (.x (.var 0) (.i (.var 1) (.i (.var 2) (.i (.var 3) (.x (.var 4) (.i (.var 5) (.i (.var 6) (.x (.var 7) (.i (.var 8) (.i (.var 9) (.x (.var 10) .nil)))))))))))) .nil))))))))))))))) (.i (.fn 255 (.i (.lit 6) (.i (.rd (.var 0) (.var 9000) 0) (.i (.rd (.var 0) (.var 9000) 1) (.i (.rd (.var 0) (.var 9000) 2) (.i (.rd (.var 0) (.var 9000) 3) (.i (.rd (.var 0) (.var 9000) 4) (.i (.rd (.var 0) (.var 9000) 5) (.i (.rd (.var 0) (.var 9000) 6) (.i (.rd (.var 0) (.var 9000) 7) (.i (.rd (.var 0) (.var 9000) 8) (.i (.rd (.var 0) (.var 9000) 9) (.i (.rd (.var 0) (.var 9000) 10) (.x (.rd (.var 0) (.var 9000) 11) (.x (.rd (.var 0) (.var 9000) 12) (.i (.fn 241 (.x (.var 0) (.i (.var 1) (.i (.var 2) (.i (.var 3) (.x (.var 4) (.i (.var 5) (.i (.var 6) (.x (.var 7) (.i (.var 8) (.i (.var 9) (.x (.var 10) .nil)))))))))))) .nil)))))))))))))))) (.i (.fn 255 (.i (.lit 7) (.i (.rd (.var 0) (.var 9000) 0) (.i (.rd (.var 0) (.var 9000) 1) (.i (.rd (.var 0) (.var 9000) 2) (.i (.rd (.var 0) (.var 9000) 3) (.i (.rd (.var 0) (.var 9000) 4) (.i (.rd (.var 0) (.var 9000) 5) (.i (.rd (.var 0) (.var 9000) 6) (.i (.rd (.var 0) (.var 9000) 7) (.i (.rd (.var 0) (.var 9000) 8) (.i (.rd (.var 0) (.var 9000) 9) (.i (.rd (.var 0) (.var 9000) 10) (.x (.rd (.var 0) (.var 9000) 11) (.x (.rd (.var 0) (.var 9000) 12) (.i (.fn 241 (.x (.var 0) (.i (.var 1) (.i (.var 2) (.i (.var 3) (.x (.var 4) (.i (.var 5) (.i (.var 6) (.x (.var 7) (.i (.var 8) (.i (.var 9) (.x (.var 10) .nil)))))))))))) .nil)))))))))))))))) (.x (.fn 7 (.i (.rd (.var 0) (.var 9000) 0) (.i (.rd (.var 0) (.var 9000) 1) (.i (.rd (.var 0) (.var 9000) 2) (.i (.rd (.var 0) (.var 9000) 3) (.i (.rd (.var 0) (.var 9000) 4) (.i (.rd (.var 0) (.var 9000) 5) (.i (.rd (.var 0) (.var 9000) 6) (.i (.rd (.var 0) (.var 9000) 7) (.i (.rd (.var 0) (.var 9000) 8) (.i (.rd (.var 0) (.var 9000) 9) (.i (.rd (.var 0) (.var 9000) 10) (.x (.rd (.var 0) (.var 9000) 11) (.x (.rd (.var 0) (.var 9000) 12) (.i (.fn 241 (.x (.var 0) (.i (.var 1) (.i (.var 2) (.i (.var 3) (.x (.var 4) (.i (.var 5) (.i (.var 6) (.x (.var 7) (.i (.var 8) (.i (.var 9) (.x (.var 10) .nil)))))))))))) .nil))))))))))))))) .nil)))))))))) .nil) (.i (.var 1) (.i (.var 2) (.i (.var 3) (.x (.var 4) (.i (.fn 240 (.x (.var 0) (.i (.var 1) (.i (.var 2) (.i (.var 3) (.x (.var 4) (.i (.var 5) (.i (.var 6) (.x (.var 7) (.i (.var 8) (.i (.var 9) (.x (.var 10) .nil)))))))))))) (.i (.var 5) (.i (.var 6) (.x (.var 7) (.i (.var 8) (.i (.var 9) (.x (.var 10) .nil))))))))))))))))))))))))) (.lit 20))
 (.ret ((.v (.one (.z (.bool (.cmp .eql (.fn 190 (.i (.rd (.var 0) (.var 9000) 0) (.i (.rd (.var 0) (.var 9000) 1) (.i (.rd (.var 0) (.var 9000) 2) (.i (.rd (.var 0) (.var 9000) 3) (.i (.rd (.var 0) (.var 9000) 4) (.i (.rd (.var 0) (.var 9000) 5) (.i (.rd (.var 0) (.var 9000) 6) (.i (.rd (.var 0) (.var 9000) 7) (.i (.rd (.var 0) (.var 9000) 8) (.i (.rd (.var 0) (.var 9000) 9) (.i (.rd (.var 0) (.var 9000) 10) (.x (.rd (.var 0) (.var 9000) 11) (.x (.app (.row (.i (.fn 255 (.i (.lit 0) (.i (.rd (.var 0) (.var 9000) 0) (.i (.rd (.var 0) (.var 9000) 1) (.i (.rd (.var 0) (.var 9000) 2) (.i (.rd (.var 0) (.var 9000) 3) (.i (.rd (.var 0) (.var 9000) 4) (.i (.rd (.var 0) (.var 9000) 5) (.i (.rd (.var 0) (.var 9000) 6) (.i (.rd (.var 0) (.var 9000) 7) (.i (.rd (.var 0) (.var 9000) 8) (.i (.rd (.var 0) (.var 9000) 9) (.i (.rd (.var 0) (.var 9000) 10) (.x (.rd (.var 0) (.var 9000) 11) (.x (.rd (.var 0) (.var 9000) 12) (.i (.fn 241 (.x (.var 0) (.i (.var 1) (.i (.var 2) (.i (.var 3) (.x (.var 4) (.i (.var 5) (.i (.var 6) (.x (.var 7) (.i (.var 8) (.i (.var 9) (.x (.var 10) .nil)))))))))))) .nil)))))))))))))))) (.i (.fn 255 (.i (.lit 1) (.i (.rd (.var 0) (.var 9000) 0) (.i (.rd (.var 0) (.var 9000) 1) (.i (.rd (.var 0) (.var 9000) 2) (.i (.rd (.var 0) (.var 9000) 3) (.i (.rd (.var 0) (.var 9000) 4) (.i (.rd (.var 0) (.var 9000) 5) (.i (.rd (.var 0) (.var 9000) 6) (.i (.rd (.var 0) (.var 9000) 7) (.i (.rd (.var 0) (.var 9000) 8) (.i (.rd (.var 0) (.var 9000) 9) (.i (.rd (.var 0) (.var 9000) 10) (.x (.rd (.var 0) (.var 9000) 11) (.x (.rd (.var 0) (.var 9000) 12) (.i (.fn 241 (.x (.var 0) (.i (.var 1) (.i (.var 2) (.i (.var 3) (.x (.var 4) (.i (.var 5) (.i (.var 6) (.x (.var 7) (.i (.var 8) (.i (.var 9) (.x (.var 10) .nil)))))))))))) .nil)))))))))))))))) (.i (.fn 255 (.i (.lit 2) (.i (.rd (.var 0) (.var 9000) 0) (.i (.rd (.var 0) (.var 9000) 1) (.i (.rd (.var 0) (.var 9000) 2) (.i (.rd (.var 0) (.var 9000) 3) (.i (.rd (.var 0) (.var 9000) 4) (.i (.rd (.var 0) (.var 9000) 5) (.i (.rd (.var 0) (.var 9000) 6) (.i (.rd (.var 0) (.var 9000) 7) (.i (.rd (.var 0) (.var 9000) 8) (.i (.rd (.var 0) (.var 9000) 9) (.i (.rd (.var 0) (.var 9000) 10) (.x (.rd (.var 0) (.var 9000) 11) (.x (.rd (.var 0) (.var 9000) 12) (.i (.fn 241 (.x (.var 0) (.i (.var 1) (.i (.var 2) (.i (.var 3) (.x (.var 4) (.i (.var 5) (.i (.var 6) (.x (.var 7) (.i (.var 8) (.i (.var 9) (.x (.var 10) .nil)))))))))))) .nil)))))))))))))))) (.i (.fn 255 (.i (.lit 3) (.i (.rd (.var 0) (.var 9000) 0) (.i (.rd (.var 0) (.var 9000) 1) (.i (.rd (.var 0) (.var 9000) 2) (.i (.rd (.var 0) (.var 9000) 3) (.i (.rd (.var 0) (.var 9000) 4) (.i (.rd (.var 0) (.var 9000) 5) (.i (.rd (.var 0) (.var 9000) 6) (.i (.rd (.var 0) (.var 9000) 7) (.i (.rd (.var 0) (.var 9000) 8) (.i (.rd (.var 0) (.var 9000) 9) (.i (.rd (.var 0) (.var 9000) 10) (.x (.rd (.var 0) (.var 9000) 11) (.x (.rd (.var 0) (.var 9000) 12) (.i (.fn 241 (.x (.var 0) (.i (.var 1) (.i (.var 2) (.i (.var 3) (.x (.var 4) (.i (.var 5) (.i (.var 6) (.x (.var 7) (.i (.var 8) (.i (.var 9) (.x (.var 10) .nil)))))))))))) .nil)))))))))))))))) (.i (.fn 255 (.i (.lit 4) (.i (.rd (.var 0) (.var 9000) 0) (.i (.rd (.var 0) (.var 9000) 1) (.i (.rd (.var 0) (.var 9000) 2) (.i (.rd (.var 0) (.var 9000) 3) (.i (.rd (.var 0) (.var 9000) 4) (.i (.rd (.var 0) (.var 9000) 5) (.i (.rd (.var 0) (.var 9000) 6) (.i (.rd (.var 0) (.var 9000) 7) (.i (.rd (.var 0) (.var 9000) 8) (.i (.rd (.var 0) (.var 9000) 9) (.i (.rd (.var 0) (.var 9000) 10) (.x (.rd (.var 0) (.var 9000) 11) (.x (.rd (.var 0) (.var 9000) 12) (.i (.fn 241 (.x (.var 0) (.i (.var 1) (.i (.var 2) (.i (.var 3) (.x (.var 4) (.i (.var 5) (.i (.var 6) (.x (.var 7) (.i (.var 8) (.i (.var 9) (.x (.var 10) .nil)))))))))))) .nil)))))))))))))))) (.x (.fn 6 (.i (.rd (.var 0) (.var 9000) 0) (.i (.rd (.var 0) (.var 9000) 1) (.i (.rd (.var 0) (.var 9000) 2) (.i (.rd (.var 0) (.var 9000) 3) (.i (.rd (.var 0) (.var 9000) 4) (.i (.rd (.var 0) (.var 9000) 5) (.i (.rd (.var 0) (.var 9000) 6) (.i (.rd (.var 0) (.var 9000) 7) (.i (.rd (.var 0) (.var 9000) 8) (.i (.rd (.var 0) (.var 9000) 9) (.i (.rd (.var 0) (.var 9000) 10) (.x (.rd (.var 0) (.var 9000) 11) (.x (.rd (.var 0) (.var 9000) 12) (.i (.fn 241 (.x (.var 0) (.i (.var 1) (.i (.var 2) (.i (.var 3) (.x (.var 4) (.i (.var 5) (.i (.var 6) (.x (.var 7) (.i (.var 8) (.i (.var 9) (.x (.var 10) .nil)))))))))))) .nil))))))))))))))) (.i (.fn 255 (.i (.lit 6) (.i (.rd (.var 0) (.var 9000) 0) (.i (.rd (.var 0) (.var 9000) 1) (.i (.rd (.var 0) (.var 9000) 2) (.i (.rd (.var 0) (.var 9000) 3) (.i (.rd (.var 0) (.var 9000) 4) (.i (.rd (.var 0) (.var 9000) 5) (.i (.rd (.var 0) (.var 9000) 6) (.i (.rd (.var 0) (.var 9000) 7) (.i (.rd (.var 0) (.var 9000) 8) (.i (.rd (.var 0) (.var 9000) 9) (.i (.rd (.var 0) (.var 9000) 10) (.x (.rd (.var 0) (.var 9000) 11) (.x (.rd (.var 0) (.var 9000) 12) (.i (.fn 241 (.x (.var 0) (.i (.var 1) (.i (.var 2) (.i (.var 3) (.x (.var 4) (.i (.var 5) (.i (.var 6) (.x (.var 7) (.i (.var 8) (.i (.var 9) (.x (.var 10) .nil)))))))))))) .nil)))))))))))))))) (.i (.fn 255 (.i (.lit 7) (.i (.rd (.var 0) (.var 9000) 0) (.i (.rd (.var 0) (.var 9000) 1) (.i (.rd (.var 0) (.var 9000) 2) (.i (.rd (.var 0) (.var 9000) 3) (.i (.rd (.var 0) (.var 9000) 4) (.i (.rd (.var 0) (.var 9000) 5) (.i (.rd (.var 0) (.var 9000) 6) (.i (.rd (.var 0) (.var 9000) 7) (.i (.rd (.var 0) (.var 9000) 8) (.i (.rd (.var 0) (.var 9000) 9) (.i (.rd (.var 0) (.var 9000) 10) (.x (.rd (.var 0) (.var 9000) 11) (.x (.rd (.var 0) (.var 9000) 12) (.i (.fn 241 (.x (.var 0) (.i (.var 1) (.i (.var 2) (.i (.var 3) (.x (.var 4) (.i (.var 5) (.i (.var 6) (.x (.var 7) (.i (.var 8) (.i (.var 9) (.x (.var 10) .nil)))))))))))) .nil)))))))))))))))) (.x (.fn 7 (.i (.rd (.var 0) (.var 9000) 0) (.i (.rd (.var 0) (.var 9000) 1) (.i (.rd (.var 0) (.var 9000) 2) (.i (.rd (.var 0) (.var 9000) 3) (.i (.rd (.var 0) (.var 9000) 4) (.i (.rd (.var 0) (.var 9000) 5) (.i (.rd (.var 0) (.var 9000) 6) (.i (.rd (.var 0) (.var 9000) 7) (.i (.rd (.var 0) (.var 9000) 8) (.i (.rd (.var 0) (.var 9000) 9) (.i (.rd (.var 0) (.var 9000) 10) (.x (.rd (.var 0) (.var 9000) 11) (.x (.rd (.var 0) (.var 9000) 12) (.i (.fn 241 (.x (.var 0) (.i (.var 1) (.i (.var 2) (.i (.var 3) (.x (.var 4) (.i (.var 5) (.i (.var 6) (.x (.var 7) (.i (.var 8) (.i (.var 9) (.x (.var 10) .nil)))))))))))) .nil))))))))))))))) .nil)))))))))) .nil) (.i (.var 1) (.i (.var 2) (.i (.var 3) (.x (.var 4) (.i (.fn 240 (.x (.var 0) (.i (.var 1) (.i (.var 2) (.i (.var 3) (.x (.var 4) (.i (.var 5) (.i (.var 6) (.x (.var 7) (.i (.var 8) (.i (.var 9) (.x (.var 10) .nil)))))))))))) (.i (.var 5) (.i (.var 6) (.x (.var 7) (.i (.var 8) (.i (.var 9) (.x (.var 10) .nil))))))))))))))))))))))))) (.fn 241 (.x (.var 0) (.i (.var 1) (.i (.var 2) (.i (.var 3) (.x (.var 4) (.i (.var 5) (.i (.var 6) (.x (.var 7) (.i (.var 8) (.i (.var 9) (.x (.var 10) .nil))))))))))))))))), [], 16))
 (.ret ((.v (.one (.z (.bool (.lit false))))), [], 16)))
 (.ret ((.v (.one (.z (.bool (.lit false))))), [], 16))))
 (.ret ((.v (.one (.z (.bool (.lit false))))), [], 16)))
 (.ret ((.v (.one (.z (.bool (.lit false))))), [], 16)))
 (.ret ((.v (.one (.z (.bool (.lit false))))), [], 16))))))))))))
 (.next 2 ⟨[(0, (.ar .add .i64 (.var 9000) (.lit 1)))], [], []⟩))))
 (.ite (.cmp .neq (.fn 202 (.x (.var 0) (.i (.var 1) (.i (.var 2) (.i (.var 3) (.x (.var 4) (.i (.fn 240 (.x (.var 0) (.i (.var 1) (.i (.var 2) (.i (.var 3) (.x (.var 4) (.i (.var 5) (.i (.var 6) (.x (.var 7) (.i (.var 8) (.i (.var 9) (.x (.var 10) .nil)))))))))))) (.i (.var 5) (.i (.var 6) (.x (.var 7) (.i (.var 8) (.i (.var 9) (.x (.var 10) .nil))))))))))))) (.lit 20))
 (.ret ((.v (.one (.z (.bool (.lit false))))), [], 11))
 (.ite (.cmp .neq (.fn 201 (.x (.var 0) (.i (.var 1) (.i (.var 2) (.i (.var 3) (.x (.var 4) (.i (.fn 240 (.x (.var 0) (.i (.var 1) (.i (.var 2) (.i (.var 3) (.x (.var 4) (.i (.var 5) (.i (.var 6) (.x (.var 7) (.i (.var 8) (.i (.var 9) (.x (.var 10) .nil)))))))))))) (.i (.var 5) (.i (.var 6) (.x (.var 7) (.i (.var 8) (.i (.var 9) (.x (.var 10) .nil))))))))))))) (.fn 241 (.x (.var 0) (.i (.var 1) (.i (.var 2) (.i (.var 3) (.x (.var 4) (.i (.var 5) (.i (.var 6) (.x (.var 7) (.i (.var 8) (.i (.var 9) (.x (.var 10) .nil)))))))))))))
 (.ret ((.v (.one (.z (.bool (.lit false))))), [], 11))
 (.ret ((.v (.one (.z (.bool (.lit false))))), [], 11)))))))))))))))
set_option maxRecDepth 100000 in
theorem trLawFirst_is : T.norm 0 (call Tryz.prog ctV2 (Lt.of []) 100 8 (symArgs 0 [caseS]) [] 0) TT.ret = trLawFirst := by kernel_rfl
theorem trLawFirst_low : trLawFirst.low 1000 = true := by kernel_rfl
end Go.Proofs.YtkjjkckcjgkhmaaGreat
/- Chapter 40: the law CheckFirst. -/
namespace Go.Proofs.YtkjjkckcjgkhmaaGreat
open Go.RowKit
theorem deE_vals (ds : List D) : deE ds = 0 ∨ deE ds = 1 ∨ deE ds = 3 ∨ deE ds = 4 := by
  unfold deE
  have := heE_3 (heD ds)
  split
  · split <;> omega
  · omega
theorem legE_20 {ds : List D} : legE ds = 20 ↔ sheetL (sh13 ds) = true ∧ askB ds = true ∧ plainB ds = true ∧ durE (lgT ds) = 0 ∧ psgB (iAt ds 13) (iAt ds 14) (lgOff ds) (lgM ds) = true ∧ deE (lgK ds (iAt ds 10)) = 0 ∧ ¬ (deR (lgK ds (iAt ds 10)) = true ∧ lgI ds = (rAt ds 12).length) := by
  unfold legE
  constructor
  · intro h
    split at h
    · rename_i g1
      rw [Bool.and_eq_true] at g1
      split at h
      · rename_i g2
        split at h
        · rename_i g3
          split at h
          · rename_i g4
            split at h
            · exact absurd h (by decide)
            · rename_i g5
              exact ⟨g1.1, g1.2, g2, g3.1, g3.2, g4, g5⟩
          · have := deE_vals (lgK ds (iAt ds 10)); omega
        · exact absurd h (by decide)
      · exact absurd h (by decide)
    · exact absurd h (by decide)
  · rintro ⟨h1, h2, h3, h4, h5, h6, h7⟩
    rw [h1, h2, h3, if_pos (show (true && true) = true from rfl), if_pos rfl, if_pos ⟨h4, h5⟩, if_pos h6, if_neg h7]
theorem lgFirst_at {ds : List D} : ∀ f i, lgFirst ds f i < i + f → lgF ds (lgFirst ds f i) = true
  | 0, i, h => absurd h (by simp [lgFirst])
  | f + 1, i, h => by
    rw [lgFirst] at h ⊢
    by_cases e : lgF ds i = true
    · rw [if_pos e]; exact e
    · rw [if_neg e] at h ⊢
      exact lgFirst_at f (i + 1) (by omega)
theorem lgFirst_le {ds : List D} : ∀ f i, lgFirst ds f i ≤ i + f
  | 0, i => Nat.le_refl _
  | f + 1, i => by
    rw [lgFirst]
    split
    · omega
    · have := lgFirst_le (ds := ds) f (i + 1); omega
section
variable {a b c dA dB dC dD dE dF dR cap : Int} {dd fs : Rows} {lo hi off : Int} {r : Rows} {k : Nat} {d m : Int} {sq : Rows} {st ph : Int} {hts : Rows}
theorem leg_danger (h : legE [.i a, .i b, .i c, .i dA, .i dB, .i dC, .i dD, .i dE, .i dF, .i dR, .i cap, .l dd, .l fs, .i lo, .i hi, .i off, .l r, .i k, .i d, .i m, .l sq, .i st, .i ph, .l hts] = 20) :
    durE [.i lo, .i hi, .i off, .l r, .i k] = 0 ∧ sheetL [.i a, .i b, .i c, .i dA, .i dB, .i dC, .i dD, .i dE, .i dF, .i dR, .i cap, .l dd, .l fs] = true ∧
    ((legR [.i a, .i b, .i c, .i dA, .i dB, .i dC, .i dD, .i dE, .i dF, .i dR, .i cap, .l dd, .l fs, .i lo, .i hi, .i off, .l r, .i k, .i d, .i m, .l sq, .i st, .i ph, .l hts] = 0 ∧ deE [.i d, .i m, .l sq, .i st, .i ph, .l hts, .i cap, .i (lg r k 5), .i (durL [.i lo, .i hi, .i off, .l r, .i k]), .i (durH [.i lo, .i hi, .i off, .l r, .i k])] = 0 ∧ deR [.i d, .i m, .l sq, .i st, .i ph, .l hts, .i cap, .i (lg r k 5), .i (durL [.i lo, .i hi, .i off, .l r, .i k]), .i (durH [.i lo, .i hi, .i off, .l r, .i k])] = false) ∨
     ∃ q : Nat, q < fs.length ∧ legR [.i a, .i b, .i c, .i dA, .i dB, .i dC, .i dD, .i dE, .i dF, .i dR, .i cap, .l dd, .l fs, .i lo, .i hi, .i off, .l r, .i k, .i d, .i m, .l sq, .i st, .i ph, .l hts] = lg fs q 0 ∧ lg fs q 0 ≠ 0 ∧
      deE [.i d, .i m, .l sq, .i st, .i ph, .l hts, .i (lg fs q 6), .i (lg r k 5), .i (durL [.i lo, .i hi, .i off, .l r, .i k]), .i (durH [.i lo, .i hi, .i off, .l r, .i k])] = 0 ∧
      (lg fs q 1 = 6 ∨ deR [.i d, .i m, .l sq, .i st, .i ph, .l hts, .i (lg fs q 6), .i (lg r k 5), .i (durL [.i lo, .i hi, .i off, .l r, .i k]), .i (durH [.i lo, .i hi, .i off, .l r, .i k])] = false) ∧
      legE [.i a, .i b, .i c, .i dA, .i dB, .i dC, .i dD, .i dE, .i dF, .i dR, .i cap, .l dd, .l ([[.i (lg fs q 0), .i (lg fs q 1), .i (lg fs q 2), .i (lg fs q 3), .i (lg fs q 4), .l (lr fs q 5), .i (lg fs q 6), .i (lg fs q 7), .l (lr fs q 8)]] ++ []), .i lo, .i hi, .i off, .l r, .i k, .i d, .i m, .l sq, .i st, .i ph, .l hts] = 20 ∧
      legR [.i a, .i b, .i c, .i dA, .i dB, .i dC, .i dD, .i dE, .i dF, .i dR, .i cap, .l dd, .l ([[.i (lg fs q 0), .i (lg fs q 1), .i (lg fs q 2), .i (lg fs q 3), .i (lg fs q 4), .l (lr fs q 5), .i (lg fs q 6), .i (lg fs q 7), .l (lr fs q 8)]] ++ []), .i lo, .i hi, .i off, .l r, .i k, .i d, .i m, .l sq, .i st, .i ph, .l hts] = lg fs q 0) := by
  have h0 := h
  rw [legE_20] at h
  obtain ⟨g1, g2, g3, g4, g5, g6, g7⟩ := h
  have a1 : sheetL [.i a, .i b, .i c, .i dA, .i dB, .i dC, .i dD, .i dE, .i dF, .i dR, .i cap, .l dd, .l fs] = true := g1
  have a2 : (psgB lo hi off r && (decide (0 ≤ (k : Int) ∧ (k : Int) < r.length) && (kevB d m sq && tideB st ph hts))) = true := g2
  have eK : ∀ x fs', lgK [.i a, .i b, .i c, .i dA, .i dB, .i dC, .i dD, .i dE, .i dF, .i dR, .i cap, .l dd, .l fs', .i lo, .i hi, .i off, .l r, .i k, .i d, .i m, .l sq, .i st, .i ph, .l hts] x = [.i d, .i m, .l sq, .i st, .i ph, .l hts, .i x, .i (lg (mvLegs r dC dF) k 5), .i (durL [.i lo, .i hi, .i off, .l r, .i k]), .i (durH [.i lo, .i hi, .i off, .l r, .i k])] := fun _ _ => rfl
  simp only [Bool.and_eq_true, decide_eq_true_eq] at a2
  obtain ⟨pB, hk, _, _⟩ := a2
  have hk : k < r.length := by omega
  have mv5 := ((mvLegs_mv (s := dC) (t := dF) (psg_leg4 pB)).2 k hk).2.2.2
  have b6 : deE [.i d, .i m, .l sq, .i st, .i ph, .l hts, .i cap, .i (lg r k 5), .i (durL [.i lo, .i hi, .i off, .l r, .i k]), .i (durH [.i lo, .i hi, .i off, .l r, .i k])] = 0 := by
    have q := g6
    rw [eK, mv5] at q; exact q
  refine ⟨g4, a1, ?_⟩
  have eR : ∀ fs', legR [.i a, .i b, .i c, .i dA, .i dB, .i dC, .i dD, .i dE, .i dF, .i dR, .i cap, .l dd, .l fs', .i lo, .i hi, .i off, .l r, .i k, .i d, .i m, .l sq, .i st, .i ph, .l hts] = if legE [.i a, .i b, .i c, .i dA, .i dB, .i dC, .i dD, .i dE, .i dF, .i dR, .i cap, .l dd, .l fs', .i lo, .i hi, .i off, .l r, .i k, .i d, .i m, .l sq, .i st, .i ph, .l hts] = 20 ∧ deR [.i d, .i m, .l sq, .i st, .i ph, .l hts, .i cap, .i (lg r k 5), .i (durL [.i lo, .i hi, .i off, .l r, .i k]), .i (durH [.i lo, .i hi, .i off, .l r, .i k])] = true then lg fs' (lgI [.i a, .i b, .i c, .i dA, .i dB, .i dC, .i dD, .i dE, .i dF, .i dR, .i cap, .l dd, .l fs', .i lo, .i hi, .i off, .l r, .i k, .i d, .i m, .l sq, .i st, .i ph, .l hts]) 0 else 0 := fun fs' => by
    rw [← mv5]; rfl
  cases hR : deR [.i d, .i m, .l sq, .i st, .i ph, .l hts, .i cap, .i (lg r k 5), .i (durL [.i lo, .i hi, .i off, .l r, .i k]), .i (durH [.i lo, .i hi, .i off, .l r, .i k])] with
  | false => exact .inl ⟨by rw [eR, if_neg (fun q => by rw [hR] at q; cases q.2)], b6, rfl⟩
  | true =>
    right
    have hl0 : listB fs = true := (sheet_facts a1).2
    obtain ⟨s1, s2, s3⟩ := lis_spec hl0
    have hle := lgFirst_le (ds := [.i a, .i b, .i c, .i dA, .i dB, .i dC, .i dD, .i dE, .i dF, .i dR, .i cap, .l dd, .l fs, .i lo, .i hi, .i off, .l r, .i k, .i d, .i m, .l sq, .i st, .i ph, .l hts]) fs.length 0
    have hI : lgI [.i a, .i b, .i c, .i dA, .i dB, .i dC, .i dD, .i dE, .i dF, .i dR, .i cap, .l dd, .l fs, .i lo, .i hi, .i off, .l r, .i k, .i d, .i m, .l sq, .i st, .i ph, .l hts] < fs.length := by
      rcases Nat.lt_or_ge (lgI [.i a, .i b, .i c, .i dA, .i dB, .i dC, .i dD, .i dE, .i dF, .i dR, .i cap, .l dd, .l fs, .i lo, .i hi, .i off, .l r, .i k, .i d, .i m, .l sq, .i st, .i ph, .l hts]) fs.length with q | q
      · exact q
      · refine absurd ⟨?_, ?_⟩ g7
        · rw [eK, mv5]; exact hR
        · have hle : lgI [.i a, .i b, .i c, .i dA, .i dB, .i dC, .i dD, .i dE, .i dF, .i dR, .i cap, .l dd, .l fs, .i lo, .i hi, .i off, .l r, .i k, .i d, .i m, .l sq, .i st, .i ph, .l hts] ≤ 0 + fs.length := hle
          show lgI _ = fs.length
          omega
    have hF : lgF [.i a, .i b, .i c, .i dA, .i dB, .i dC, .i dD, .i dE, .i dF, .i dR, .i cap, .l dd, .l fs, .i lo, .i hi, .i off, .l r, .i k, .i d, .i m, .l sq, .i st, .i ph, .l hts] (lgI [.i a, .i b, .i c, .i dA, .i dB, .i dC, .i dD, .i dE, .i dF, .i dR, .i cap, .l dd, .l fs, .i lo, .i hi, .i off, .l r, .i k, .i d, .i m, .l sq, .i st, .i ph, .l hts]) = true := lgFirst_at _ _ (by rw [Nat.zero_add]; exact hI)
    have eL : legR [.i a, .i b, .i c, .i dA, .i dB, .i dC, .i dD, .i dE, .i dF, .i dR, .i cap, .l dd, .l fs, .i lo, .i hi, .i off, .l r, .i k, .i d, .i m, .l sq, .i st, .i ph, .l hts] = lg fs (lgI [.i a, .i b, .i c, .i dA, .i dB, .i dC, .i dD, .i dE, .i dF, .i dR, .i cap, .l dd, .l fs, .i lo, .i hi, .i off, .l r, .i k, .i d, .i m, .l sq, .i st, .i ph, .l hts]) 0 := by rw [eR, if_pos ⟨h0, hR⟩]
    rw [eL]
    generalize lgI [.i a, .i b, .i c, .i dA, .i dB, .i dC, .i dD, .i dE, .i dF, .i dR, .i cap, .l dd, .l fs, .i lo, .i hi, .i off, .l r, .i k, .i d, .i m, .l sq, .i st, .i ph, .l hts] = q at hI hF ⊢
    have hfe := s2 q hI
    have hP := featB_iff.1 hfe
    have hd0 : deE [.i d, .i m, .l sq, .i st, .i ph, .l hts, .i (lg fs q 6), .i (lg r k 5), .i (durL [.i lo, .i hi, .i off, .l r, .i k]), .i (durH [.i lo, .i hi, .i off, .l r, .i k])] = 0 := by
      have e1 : ∀ x, deE [.i d, .i m, .l sq, .i st, .i ph, .l hts, .i x, .i (lg r k 5), .i (durL [.i lo, .i hi, .i off, .l r, .i k]), .i (durH [.i lo, .i hi, .i off, .l r, .i k])] = if (decide (0 ≤ x ∧ x ≤ 100000) && (kevB d m sq && (decide (0 ≤ lg r k 5 ∧ lg r k 5 ≤ 2000) && !decide (heE [.i st, .i ph, .l hts, .i (durL [.i lo, .i hi, .i off, .l r, .i k]), .i (durH [.i lo, .i hi, .i off, .l r, .i k])] = 1)))) then (if lg r k 5 ≤ 100 * (sq.length : Int) then heE [.i st, .i ph, .l hts, .i (durL [.i lo, .i hi, .i off, .l r, .i k]), .i (durH [.i lo, .i hi, .i off, .l r, .i k])] else 3) else 1 := fun _ => rfl
      have q0 := (deR_iff.1 hR).1
      rw [e1, decide_eq_true q0] at b6
      rw [e1, decide_eq_true hP.2.2.1]; exact b6
    obtain ⟨n1, n2, n3⟩ := lgF_iff.1 hF
    have n3 : lg fs q 1 = 6 ∨ deR (lgK [.i a, .i b, .i c, .i dA, .i dB, .i dC, .i dD, .i dE, .i dF, .i dR, .i cap, .l dd, .l fs, .i lo, .i hi, .i off, .l r, .i k, .i d, .i m, .l sq, .i st, .i ph, .l hts] (lg fs q 6)) = false := n3
    have hF2 : lgF [.i a, .i b, .i c, .i dA, .i dB, .i dC, .i dD, .i dE, .i dF, .i dR, .i cap, .l dd, .l ([[.i (lg fs q 0), .i (lg fs q 1), .i (lg fs q 2), .i (lg fs q 3), .i (lg fs q 4), .l (lr fs q 5), .i (lg fs q 6), .i (lg fs q 7), .l (lr fs q 8)]] ++ []), .i lo, .i hi, .i off, .l r, .i k, .i d, .i m, .l sq, .i st, .i ph, .l hts] 0 = true := hF
    have hI2 : lgI [.i a, .i b, .i c, .i dA, .i dB, .i dC, .i dD, .i dE, .i dF, .i dR, .i cap, .l dd, .l ([[.i (lg fs q 0), .i (lg fs q 1), .i (lg fs q 2), .i (lg fs q 3), .i (lg fs q 4), .l (lr fs q 5), .i (lg fs q 6), .i (lg fs q 7), .l (lr fs q 8)]] ++ []), .i lo, .i hi, .i off, .l r, .i k, .i d, .i m, .l sq, .i st, .i ph, .l hts] = 0 := by
      show lgFirst _ 1 0 = 0
      rw [lgFirst, if_pos hF2]
    have hE2 : legE [.i a, .i b, .i c, .i dA, .i dB, .i dC, .i dD, .i dE, .i dF, .i dR, .i cap, .l dd, .l ([[.i (lg fs q 0), .i (lg fs q 1), .i (lg fs q 2), .i (lg fs q 3), .i (lg fs q 4), .l (lr fs q 5), .i (lg fs q 6), .i (lg fs q 7), .l (lr fs q 8)]] ++ []), .i lo, .i hi, .i off, .l r, .i k, .i d, .i m, .l sq, .i st, .i ph, .l hts] = 20 := by
      refine legE_20.2 ⟨?_, g2, g3, g4, g5, g6, fun z => ?_⟩
      · have hl : listB ([[.i (lg fs q 0), .i (lg fs q 1), .i (lg fs q 2), .i (lg fs q 3), .i (lg fs q 4), .l (lr fs q 5), .i (lg fs q 6), .i (lg fs q 7), .l (lr fs q 8)]] ++ []) = true := by
          refine list_of (show (1 : Nat) ≤ 300 by decide) (fun l hl => ?_) (fun l l' h1 h2 => ?_)
          · have hl : l < 1 := hl
            obtain rfl : l = 0 := by omega
            exact hfe
          · have h2 : l' < 1 := h2
            omega
        have a1' : (doN dd dd.length 0 0 && (decide (dd.length ≤ 200 ∧ (1 ≤ a ∧ a ≤ 1000) ∧ (1 ≤ b ∧ b ≤ 1000) ∧ (1 ≤ c ∧ c ≤ 1000) ∧ 1 ≤ cap ∧ cap ≤ 100000) && (datB dA dB dC dD dE dF dR && listB fs))) = true := a1
        show (doN dd dd.length 0 0 && (decide (dd.length ≤ 200 ∧ (1 ≤ a ∧ a ≤ 1000) ∧ (1 ≤ b ∧ b ≤ 1000) ∧ (1 ≤ c ∧ c ≤ 1000) ∧ 1 ≤ cap ∧ cap ≤ 100000) && (datB dA dB dC dD dE dF dR && listB ([[.i (lg fs q 0), .i (lg fs q 1), .i (lg fs q 2), .i (lg fs q 3), .i (lg fs q 4), .l (lr fs q 5), .i (lg fs q 6), .i (lg fs q 7), .l (lr fs q 8)]] ++ [])))) = true
        rw [hl]
        simp only [Bool.and_eq_true] at a1' ⊢
        exact ⟨a1'.1, a1'.2.1, a1'.2.2.1, trivial⟩
      · have z2 := z.2
        rw [hI2] at z2
        exact absurd z2 (by show (0 : Nat) ≠ 1; decide)
    rw [eK, mv5] at n3
    refine ⟨q, hI, rfl, by have := hP.1; omega, hd0, n3, hE2, ?_⟩
    rw [eR, if_pos ⟨hE2, hR⟩, hI2]
    rfl
end
theorem idxN_sp {r : Rows} {c : Int} : ∀ f i, idxN r c f i < i + f → lg r (idxN r c f i) 0 = c
  | 0, i, q => absurd q (by simp [idxN])
  | f + 1, i, q => by
    rw [idxN] at q ⊢
    by_cases e : lg r i 0 = c
    · rw [if_pos e]; exact e
    · rw [if_neg e] at q ⊢
      exact idxN_sp f (i + 1) (by omega)
theorem mk_best {ds : List D} (hO : mkO ds = true) {k : Nat} (hk : k < (rAt ds 4).length) : bestE (mkD ds k) = fiE (fq ds k) ∧ bestI (mkD ds k) = fiI (fq ds k) ∧ bestC (mkD ds k) = finC (mkD ds k) (rAt ds 0).length := by
  obtain ⟨o1, o2, o3, o4, o5⟩ := mkO_parts hO
  have hB : bestO (mkD ds k) = true := by
    show (shsB (rAt ds 0) && (psgB (iAt ds 1) (iAt ds 2) (iAt ds 3) (rAt ds 4) && (decide (0 ≤ (k : Int) ∧ (k : Int) < (rAt ds 4).length) && (kevB (iAt ds 5) (iAt ds 6) (rAt ds 7) && tideB (iAt ds 8) (iAt ds 9) (rAt ds 10))))) = true
    rw [o1, o2, o4, o5, decide_eq_true (by omega)]; rfl
  unfold bestE bestI bestC
  rw [hB, if_pos rfl, if_pos rfl, if_pos rfl]
  exact ⟨rfl, rfl, rfl⟩
theorem mk_danger {ds : List D} (h : mkE ds = 20) : mkO ds = true ∧ ∃ K : Nat, mkK ds = K ∧ K < (rAt ds 4).length ∧ (∀ l, l < K → fiE (fq ds l) = 0) ∧ fiE (fq ds K) = 20 ∧ mkI ds = fiI (fq ds K) := by
  have hO : mkO ds = true := by
    cases q : mkO ds with
    | true => rfl
    | false => rw [(mk_arg q).2.2.1] at h; exact absurd h (by decide)
  refine ⟨hO, mkS ds, ?_⟩
  obtain ⟨a, b, c, d⟩ := mkF_spec (ds := ds) (rAt ds 4).length 0
  have q : mkS ds < (rAt ds 4).length := by
    rcases Nat.lt_or_ge (mkS ds) (rAt ds 4).length with q | q
    · exact q
    · unfold mkE at h
      rw [hO, if_pos rfl, if_neg (by omega)] at h
      exact absurd h (by decide)
  refine ⟨by unfold mkK; rw [hO, if_pos rfl, if_pos q], q, fun l hl => c l (Nat.zero_le _) hl, ?_, by unfold mkI; rw [hO, if_pos rfl, if_pos q]⟩
  unfold mkE at h
  rwa [hO, if_pos rfl, if_pos q] at h
theorem fin_dan {ds : List D} {k : Nat} (h : fiE (fq ds k) = 20) : ∃ j : Nat, j < (rAt ds 0).length ∧ finC (mkD ds k) (rAt ds 0).length = lg (rAt ds 0) j 0 ∧ fiI (fq ds k) = legR (rowLeg (mkD ds k) j) ∧ legE (rowLeg (mkD ds k) j) = 20 := by
  have h : finE (mkD ds k) (rAt ds 0).length = 20 := h
  rcases fin_has (ds := mkD ds k) (rAt ds 0).length with e | ⟨j, e, h2, _⟩
  · unfold finE at h
    rw [if_pos (by omega)] at h
    exact absurd h (by decide)
  · refine ⟨j, h2, ?_, ?_, ?_⟩
    · unfold finC; rw [if_neg (by omega), e]; rfl
    · show finI (mkD ds k) (rAt ds 0).length = _
      unfold finI; rw [if_neg (by omega), e, Int.toNat_natCast]
    · unfold finE at h
      rwa [if_neg (by omega), e, Int.toNat_natCast] at h
def fdD (ds : List D) (n : Nat) (id : Int) : List D := [.i (lg (rAt ds 0) n 0), .i (lg (rAt ds 0) n 1), .i (lg (rAt ds 0) n 2), .i (lg (rAt ds 0) n 3), .i (lg (rAt ds 0) n 4), .i (lg (rAt ds 0) n 5), .i (lg (rAt ds 0) n 6), .i (lg (rAt ds 0) n 7), .i (lg (rAt ds 0) n 8), .i (lg (rAt ds 0) n 9), .i (lg (rAt ds 0) n 10), .l (lr (rAt ds 0) n 11), .l (lr (rAt ds 0) n 12), .i id]
def alR (a b c d e : Int) (x : Rows) (f g : Int) (y : Rows) : Rows := [[.i a, .i b, .i c, .i d, .i e, .l x, .i f, .i g, .l y]] ++ []
def alD (ds : List D) (n : Nat) (k : Int) (fs : Rows) : List D := [.i (lg (rAt ds 0) n 0), .i (lg (rAt ds 0) n 1), .i (lg (rAt ds 0) n 2), .i (lg (rAt ds 0) n 3), .i (lg (rAt ds 0) n 4), .i (lg (rAt ds 0) n 5), .i (lg (rAt ds 0) n 6), .i (lg (rAt ds 0) n 7), .i (lg (rAt ds 0) n 8), .i (lg (rAt ds 0) n 9), .i (lg (rAt ds 0) n 10), .l (lr (rAt ds 0) n 11), .l fs, .i (iAt ds 1), .i (iAt ds 2), .i (iAt ds 3), .l (rAt ds 4), .i k, .i (iAt ds 5), .i (iAt ds 6), .l (rAt ds 7), .i (iAt ds 8), .i (iAt ds 9), .l (rAt ds 10)]
def kD (ds : List D) (x : Int) (k : Int) : List D := [.i (iAt ds 5), .i (iAt ds 6), .l (rAt ds 7), .i (iAt ds 8), .i (iAt ds 9), .l (rAt ds 10), .i x, .i (lg (rAt ds 4) k 5), .i (durL [.i (iAt ds 1), .i (iAt ds 2), .i (iAt ds 3), .l (rAt ds 4), .i k]), .i (durH [.i (iAt ds 1), .i (iAt ds 2), .i (iAt ds 3), .l (rAt ds 4), .i k])]
theorem find_at {ds : List D} {n q : Nat} {id : Int} (hs : sheetL (rowSh (rAt ds 0) n) = true) (hq : q < (lr (rAt ds 0) n 12).length) (he : id = lg (lr (rAt ds 0) n 12) q 0) : fdE (fdD ds n id) = 0 ∧ (∀ j, fdJ (.i j :: fdD ds n id) = lg (lr (rAt ds 0) n 12) q j.toNat) ∧ fdX (fdD ds n id) = lr (lr (rAt ds 0) n 12) q 5 ∧ fdY (fdD ds n id) = lr (lr (rAt ds 0) n 12) q 8 := by
  have hl : listB (lr (rAt ds 0) n 12) = true := (sheet_facts hs).2
  have hs' : sheetL (fdD ds n id) = true := hs
  have e : fdI (fdD ds n id) = q := by
    show idxN (lr (rAt ds 0) n 12) id (lr (rAt ds 0) n 12).length 0 = q
    refine idxN_yes he.symm _ _ (Nat.zero_le _) (by omega) (fun l _ hlq => ?_)
    have := (lis_spec hl).2.2 l q hlq hq
    omega
  have eE : fdE (fdD ds n id) = 0 := by
    unfold fdE
    rw [hs', if_pos rfl, e, if_pos (show q < (rAt (fdD ds n id) 12).length from hq)]
  refine ⟨eE, fun j => ?_, ?_, ?_⟩
  · show (if fdE (fdD ds n id) = 0 then lg (lr (rAt ds 0) n 12) (fdI (fdD ds n id)) j.toNat else 0) = _
    rw [if_pos eE, e]
  · unfold fdX; rw [if_pos eE, e]; rfl
  · unfold fdY; rw [if_pos eE, e]; rfl
theorem N11i240 (W : World) (ds l : List D) : (envOf N11 W ds).fi 240 l = mkK l := by simp only [envOf, N11, N10, N9c, N9b, N9, N8, N7, N6, N5, N4, N3, N2, N1, KG, KF, KE, KD, KC, KB, KA, K9, K8, K7, K6, K5, K]
theorem N11i241 (W : World) (ds l : List D) : (envOf N11 W ds).fi 241 l = mkI l := by simp only [envOf, N11, N10, N9c, N9b, N9, N8, N7, N6, N5, N4, N3, N2, N1, KG, KF, KE, KD, KC, KB, KA, K9, K8, K7, K6, K5, K]
theorem N11i242 (W : World) (ds l : List D) : (envOf N11 W ds).fi 242 l = mkE l := by simp only [envOf, N11, N10, N9c, N9b, N9, N8, N7, N6, N5, N4, N3, N2, N1, KG, KF, KE, KD, KC, KB, KA, K9, K8, K7, K6, K5, K]
theorem N11i200 (W : World) (ds l : List D) : (envOf N11 W ds).fi 200 l = bestC l := by simp only [envOf, N11, N10, N9c, N9b, N9, N8, N7, N6, N5, N4, N3, N2, N1, KG, KF, KE, KD, KC, KB, KA, K9, K8, K7, K6, K5, K]
theorem N11i201 (W : World) (ds l : List D) : (envOf N11 W ds).fi 201 l = bestI l := by simp only [envOf, N11, N10, N9c, N9b, N9, N8, N7, N6, N5, N4, N3, N2, N1, KG, KF, KE, KD, KC, KB, KA, K9, K8, K7, K6, K5, K]
theorem N11i202 (W : World) (ds l : List D) : (envOf N11 W ds).fi 202 l = bestE l := by simp only [envOf, N11, N10, N9c, N9b, N9, N8, N7, N6, N5, N4, N3, N2, N1, KG, KF, KE, KD, KC, KB, KA, K9, K8, K7, K6, K5, K]
theorem N11i254 (W : World) (ds l : List D) : (envOf N11 W ds).fi 254 l = fdE l := by simp only [envOf, N11, N10, N9c, N9b, N9, N8, N7, N6, N5, N4, N3, N2, N1, KG, KF, KE, KD, KC, KB, KA, K9, K8, K7, K6, K5, K]
theorem N11i255 (W : World) (ds l : List D) : (envOf N11 W ds).fi 255 l = fdJ l := by simp only [envOf, N11, N10, N9c, N9b, N9, N8, N7, N6, N5, N4, N3, N2, N1, KG, KF, KE, KD, KC, KB, KA, K9, K8, K7, K6, K5, K]
theorem N11d6 (W : World) (ds l : List D) : (envOf N11 W ds).fd 6 l = fdX l := by simp only [envOf, N11, N10, N9c, N9b, N9, N8, N7, N6, N5, N4, N3, N2, N1, KG, KF, KE, KD, KC, KB, KA, K9, K8, K7, K6, K5, K]
theorem N11d7 (W : World) (ds l : List D) : (envOf N11 W ds).fd 7 l = fdY l := by simp only [envOf, N11, N10, N9c, N9b, N9, N8, N7, N6, N5, N4, N3, N2, N1, KG, KF, KE, KD, KC, KB, KA, K9, K8, K7, K6, K5, K]
theorem N11i171 (W : World) (ds l : List D) : (envOf N11 W ds).fi 171 l = deE l := by simp only [envOf, N11, N10, N9c, N9b, N9, N8, N7, N6, N5, N4, N3, N2, N1, KG, KF, KE, KD, KC, KB, KA, K9, K8, K7, K6, K5, K]
theorem N11b171 (W : World) (ds l : List D) : (envOf N11 W ds).fb 171 l = deR l := by simp only [envOf, N11, N10, N9c, N9b, N9, N8, N7, N6, N5, N4, N3, N2, N1, KG, KF, KE, KD, KC, KB, KA, K9, K8, K7, K6, K5, K]
theorem N11i190 (W : World) (ds l : List D) : (envOf N11 W ds).fi 190 l = legR l := by simp only [envOf, N11, N10, N9c, N9b, N9, N8, N7, N6, N5, N4, N3, N2, N1, KG, KF, KE, KD, KC, KB, KA, K9, K8, K7, K6, K5, K]
theorem N11i191 (W : World) (ds l : List D) : (envOf N11 W ds).fi 191 l = legE l := by simp only [envOf, N11, N10, N9c, N9b, N9, N8, N7, N6, N5, N4, N3, N2, N1, KG, KF, KE, KD, KC, KB, KA, K9, K8, K7, K6, K5, K]
theorem N11i26 (W : World) (ds l : List D) : (envOf N11 W ds).fi 26 l = durE l := by simp only [envOf, N11, N10, N9c, N9b, N9, N8, N7, N6, N5, N4, N3, N2, N1, KG, KF, KE, KD, KC, KB, KA, K9, K8, K7, K6, K5, K]
theorem N11i24 (W : World) (ds l : List D) : (envOf N11 W ds).fi 24 l = durL l := by simp only [envOf, N11, N10, N9c, N9b, N9, N8, N7, N6, N5, N4, N3, N2, N1, KG, KF, KE, KD, KC, KB, KA, K9, K8, K7, K6, K5, K]
theorem N11i25 (W : World) (ds l : List D) : (envOf N11 W ds).fi 25 l = durH l := by simp only [envOf, N11, N10, N9c, N9b, N9, N8, N7, N6, N5, N4, N3, N2, N1, KG, KF, KE, KD, KC, KB, KA, K9, K8, K7, K6, K5, K]
set_option maxHeartbeats 4000000 in
theorem gFirstLaw : Gives Tryz.prog 8 [caseS] (fun _ => .bool true) := by
  refine GivesIf.all (fn_gives N11 (by kernel_rfl) (fun ρ h => ctV2_ok (Sees.of h 260) (SeesD.of h 8)) (by kernel_rfl) trLawFirst_is trLawFirst_low (by decide) (fun W vals ds hr _ => ?_))
  have eM : [D.l (rAt ds 0), .i (iAt ds 1), .i (iAt ds 2), .i (iAt ds 3), .l (rAt ds 4), .i (iAt ds 5), .i (iAt ds 6), .l (rAt ds 7), .i (iAt ds 8), .i (iAt ds 9), .l (rAt ds 10)] = mA ds := rfl
  have eB : ∀ k : Nat, [D.l (rAt ds 0), .i (iAt ds 1), .i (iAt ds 2), .i (iAt ds 3), .l (rAt ds 4), .i k, .i (iAt ds 5), .i (iAt ds 6), .l (rAt ds 7), .i (iAt ds 8), .i (iAt ds 9), .l (rAt ds 10)] = mkD (mA ds) k := fun _ => rfl
  simp only [trLawFirst, TT.sat_ret, TT.sat_ite, TT.sat_ob, TT.sat_next, TT.sat_stuck, put_i, put_b, put_d, put_fi, put_fb, put_fd, Ob.ok, B.ev, E.ev, X.ev, AL.ev, cmp_t, cmp_f, arEv, V.plain, V2.plain, S.plain, S0.plain, V.val, V2.val, S.val, S0.val, bV, iV, List.all_cons, List.all_nil, Bool.and_true, Bool.and_self, envOf_i, envOf_b, envOf_d, List.map_cons, List.map_nil, true_and, Bool.not_eq_true', Bool.not_eq_false', Bool.not_not, Bool.and_eq_true, and_f, cell_lg, cell_lb, cell_lr, cmpP, val_i, val_b, val_d, aget, Nat.reduceBEq, beq_self_eq_true, Bool.false_eq_true, if_true, if_false, Nat.reduceLT, Nat.reduceSub, Nat.sub_self, Nat.lt_irrefl]
  clear hr
  refine ⟨fun _ => trivial, fun h4 => ⟨fun _ => trivial, fun h6 => ?_⟩⟩
  refine TT.sat_loop (fun v => ∃ i : Nat, v.i 0 = i ∧ i ≤ (rAt ds 0).length) (fun v => (rAt ds 0).length - (v.i 0).toNat) ⟨0, by simp [val_i, aget, E.ev], by omega⟩ (fun v hv => ?_)
  obtain ⟨i, i0, i1⟩ := hv
  simp only [TT.sat_ret, TT.sat_ite, TT.sat_ob, TT.sat_next, TT.sat_stuck, put_i, put_b, put_d, put_fi, put_fb, put_fd, Ob.ok, B.ev, E.ev, X.ev, AL.ev, cmp_t, cmp_f, arEv, V.plain, V2.plain, S.plain, S0.plain, V.val, V2.val, S.val, S0.val, bV, iV, List.all_cons, List.all_nil, Bool.and_true, Bool.and_self, envOf_i, envOf_b, envOf_d, List.map_cons, List.map_nil, true_and, Bool.not_eq_true', Bool.not_eq_false', Bool.not_not, Bool.and_eq_true, and_f, cell_lg, cell_lb, cell_lr, cmpP, val_i, val_b, val_d, aget, Nat.reduceBEq, beq_self_eq_true, Bool.false_eq_true, if_true, if_false, Nat.reduceLT, Nat.reduceSub, Nat.sub_self, Nat.lt_irrefl, X.ev, i0, N11i240, N11i241, N11i242, eM]
  refine ⟨fun hc => ⟨by omega, hc, fun _ => trivial, fun _ => ?_⟩, fun hc => ⟨fun _ => trivial, fun hE => ?_⟩⟩
  · rw [wrap_in ((i : Int) + 1) (by omega) (by omega)]
    exact ⟨⟨i + 1, rfl, by omega⟩, by omega⟩
  clear i0 i1 hc
  obtain ⟨hO, K, k1, k2, k3, k4, k5⟩ := mk_danger (Decidable.not_not.mp hE)
  have k2 : K < (rAt ds 4).length := k2
  obtain ⟨j, j1, j2, j3, j4⟩ := fin_dan k4
  have j1 : j < (rAt ds 0).length := j1
  have j2 : finC (mkD (mA ds) K) (rAt (mA ds) 0).length = lg (rAt ds 0) j 0 := j2
  obtain ⟨b1, b2, b3⟩ := mk_best hO (show K < (rAt (mA ds) 4).length from k2)
  rw [k4] at b1
  rw [← k5] at b2
  rw [j2] at b3
  obtain ⟨d1, d2, d3⟩ := leg_danger (k := K) j4
  obtain ⟨_, _, sh3⟩ := shs_spec (mkO_parts hO).1
  have sh3 : ∀ a b : Nat, a < b → b < (rAt ds 0).length → lg (rAt ds 0) a 0 < lg (rAt ds 0) b 0 := sh3
  have d1 : durE [.i (iAt ds 1), .i (iAt ds 2), .i (iAt ds 3), .l (rAt ds 4), .i K] = 0 := d1
  have d2 : sheetL (rowSh (rAt ds 0) j) = true := d2
  rw [k1]
  refine ⟨fun q => absurd q (by omega), fun _ => ⟨fun q => absurd q (by omega), fun _ => ?_⟩⟩
  refine TT.sat_loop (fun u => ∃ l : Nat, u.i 1 = l ∧ l ≤ K ∧ u.b 0 = true) (fun u => K - (u.i 1).toNat) ⟨0, by simp [val_i, aget, E.ev], by omega, by simp [val_b, aget, B.ev]⟩ (fun u hu => ?_)
  obtain ⟨l, l0, l1, l2⟩ := hu
  simp only [TT.sat_ret, TT.sat_ite, TT.sat_ob, TT.sat_next, TT.sat_stuck, put_i, put_b, put_d, put_fi, put_fb, put_fd, Ob.ok, B.ev, E.ev, X.ev, AL.ev, cmp_t, cmp_f, arEv, V.plain, V2.plain, S.plain, S0.plain, V.val, V2.val, S.val, S0.val, bV, iV, List.all_cons, List.all_nil, Bool.and_true, Bool.and_self, envOf_i, envOf_b, envOf_d, List.map_cons, List.map_nil, true_and, Bool.not_eq_true', Bool.not_eq_false', Bool.not_not, Bool.and_eq_true, and_f, cell_lg, cell_lb, cell_lr, cmpP, val_i, val_b, val_d, aget, Nat.reduceBEq, beq_self_eq_true, Bool.false_eq_true, if_true, if_false, Nat.reduceLT, Nat.reduceSub, Nat.sub_self, Nat.lt_irrefl, X.ev, l0, l2, N11i240, N11i202, eM, k1, eB]
  refine ⟨fun hc => ⟨fun _ => ?_, fun q => by cases q⟩, fun hc => ?_⟩
  · have hl := (mk_best hO (show l < (rAt (mA ds) 4).length from by show l < (rAt ds 4).length; omega)).1
    rw [k3 l (by omega)] at hl
    rw [hl, wrap_in ((l : Int) + 1) (by omega) (by omega)]
    exact ⟨⟨l + 1, rfl, by omega, rfl⟩, by omega⟩
  refine TT.sat_loop (fun w => ∃ n : Nat, w.i 0 = n ∧ n ≤ j) (fun w => j - (w.i 0).toNat) ⟨0, by simp [val_i, aget, E.ev], by omega⟩ (fun w hw => ?_)
  obtain ⟨n, n0, n1⟩ := hw
  simp only [TT.sat_ret, TT.sat_ite, TT.sat_ob, TT.sat_next, TT.sat_stuck, put_i, put_b, put_d, put_fi, put_fb, put_fd, Ob.ok, B.ev, E.ev, X.ev, AL.ev, cmp_t, cmp_f, arEv, V.plain, V2.plain, S.plain, S0.plain, V.val, V2.val, S.val, S0.val, bV, iV, List.all_cons, List.all_nil, Bool.and_true, Bool.and_self, envOf_i, envOf_b, envOf_d, List.map_cons, List.map_nil, true_and, Bool.not_eq_true', Bool.not_eq_false', Bool.not_not, Bool.and_eq_true, and_f, cell_lg, cell_lb, cell_lr, cmpP, val_i, val_b, val_d, aget, Nat.reduceBEq, beq_self_eq_true, Bool.false_eq_true, if_true, if_false, Nat.reduceLT, Nat.reduceSub, Nat.sub_self, Nat.lt_irrefl, X.ev, l0, l2, n0, N11i240, N11i241, N11i200, N11i201, N11i202, N11i254, N11i255, N11d6, N11d7, N11i171, N11b171, N11i190, N11i191, N11i26, N11i24, N11i25, eM, k1, eB, b1, b2, b3]
  refine ⟨fun hd => ⟨by omega, by omega, fun g => ?_, fun g => ?_⟩, fun hd => absurd (show (n : Int) < (rAt ds 0).length by omega) hd⟩
  rotate_left
  · have hne : n ≠ j := fun q => g (by rw [q])
    rw [wrap_in ((n : Int) + 1) (by omega) (by omega)]
    exact ⟨⟨n + 1, rfl, by omega⟩, by omega⟩
  have hn : n = j := by
    rcases Nat.lt_or_ge n j with q | q
    · have := sh3 n j q j1; omega
    · omega
  subst hn
  have eF : [D.i (lg (rAt ds 0) n 0), .i (lg (rAt ds 0) n 1), .i (lg (rAt ds 0) n 2), .i (lg (rAt ds 0) n 3), .i (lg (rAt ds 0) n 4), .i (lg (rAt ds 0) n 5), .i (lg (rAt ds 0) n 6), .i (lg (rAt ds 0) n 7), .i (lg (rAt ds 0) n 8), .i (lg (rAt ds 0) n 9), .i (lg (rAt ds 0) n 10), .l (lr (rAt ds 0) n 11), .l (lr (rAt ds 0) n 12), .i (mkI (mA ds))] = fdD ds n (mkI (mA ds)) := rfl
  have eK : ∀ x, [D.i (iAt ds 5), .i (iAt ds 6), .l (rAt ds 7), .i (iAt ds 8), .i (iAt ds 9), .l (rAt ds 10), .i x, .i (lg (rAt ds 4) K 5), .i (durL [.i (iAt ds 1), .i (iAt ds 2), .i (iAt ds 3), .l (rAt ds 4), .i K]), .i (durH [.i (iAt ds 1), .i (iAt ds 2), .i (iAt ds 3), .l (rAt ds 4), .i K])] = kD ds x K := fun _ => rfl
  simp only [eF, eK]
  have hI : mkI (mA ds) = legR (rowLeg (mkD (mA ds) K) n) := by rw [k5, j3]
  have hb : (0 : Int) ≤ K ∧ (K : Int) < (rAt ds 4).length := ⟨by omega, by omega⟩
  refine ⟨fun q => absurd q (by omega), fun _ => ⟨by omega, hd, fun q => absurd rfl q, fun _ => ⟨fun q => absurd rfl q, fun _ => ⟨fun q => absurd d1 q, fun _ => ⟨hb.1, hb.2, fun e0 => ?_, fun e0 => ?_⟩⟩⟩⟩⟩
  · rcases d3 with ⟨_, z2, z3⟩ | ⟨q, q1, q2, q3, _⟩
    · have z2 : deE (kD ds (lg (rAt ds 0) n 10) K) = 0 := z2
      have z3 : deR (kD ds (lg (rAt ds 0) n 10) K) = false := z3
      rw [z2, z3]
      exact ⟨fun _ => ⟨fun _ => by simp, fun q => absurd rfl q⟩, fun q => by cases q⟩
    · exact absurd ((q2.symm.trans hI.symm).trans e0) q3
  · rcases d3 with ⟨z1, _, _⟩ | ⟨q, q1, q2, q3, q4, q5, q6, q7⟩
    · exact absurd (hI.trans z1) e0
    have q1 : q < (lr (rAt ds 0) n 12).length := q1
    have hid : mkI (mA ds) = lg (lr (rAt ds 0) n 12) q 0 := hI.trans q2
    obtain ⟨f1, f2, f3, f4⟩ := find_at d2 q1 hid
    have q4 : deE (kD ds (lg (lr (rAt ds 0) n 12) q 6) K) = 0 := q4
    have q5 : lg (lr (rAt ds 0) n 12) q 1 = 6 ∨ deR (kD ds (lg (lr (rAt ds 0) n 12) q 6) K) = false := q5
    have q6 : legE (alD ds n K (alR (lg (lr (rAt ds 0) n 12) q 0) (lg (lr (rAt ds 0) n 12) q 1) (lg (lr (rAt ds 0) n 12) q 2) (lg (lr (rAt ds 0) n 12) q 3) (lg (lr (rAt ds 0) n 12) q 4) (lr (lr (rAt ds 0) n 12) q 5) (lg (lr (rAt ds 0) n 12) q 6) (lg (lr (rAt ds 0) n 12) q 7) (lr (lr (rAt ds 0) n 12) q 8))) = 20 := q6
    have q7 : legR (alD ds n K (alR (lg (lr (rAt ds 0) n 12) q 0) (lg (lr (rAt ds 0) n 12) q 1) (lg (lr (rAt ds 0) n 12) q 2) (lg (lr (rAt ds 0) n 12) q 3) (lg (lr (rAt ds 0) n 12) q 4) (lr (lr (rAt ds 0) n 12) q 5) (lg (lr (rAt ds 0) n 12) q 6) (lg (lr (rAt ds 0) n 12) q 7) (lr (lr (rAt ds 0) n 12) q 8))) = lg (lr (rAt ds 0) n 12) q 0 := q7
    have eA : ∀ fs, [D.i (lg (rAt ds 0) n 0), .i (lg (rAt ds 0) n 1), .i (lg (rAt ds 0) n 2), .i (lg (rAt ds 0) n 3), .i (lg (rAt ds 0) n 4), .i (lg (rAt ds 0) n 5), .i (lg (rAt ds 0) n 6), .i (lg (rAt ds 0) n 7), .i (lg (rAt ds 0) n 8), .i (lg (rAt ds 0) n 9), .i (lg (rAt ds 0) n 10), .l (lr (rAt ds 0) n 11), .l fs, .i (iAt ds 1), .i (iAt ds 2), .i (iAt ds 3), .l (rAt ds 4), .i K, .i (iAt ds 5), .i (iAt ds 6), .l (rAt ds 7), .i (iAt ds 8), .i (iAt ds 9), .l (rAt ds 10)] = alD ds n K fs := fun _ => rfl
    have eW : ∀ a b c d e x f g y, [[D.i a, .i b, .i c, .i d, .i e, .l x, .i f, .i g, .l y]] ++ [] = alR a b c d e x f g y := fun _ _ _ _ _ _ _ _ _ => rfl
    have t0 : (0 : Int).toNat = 0 := rfl
    rw [hid] at f1 f2 f3 f4
    simp only [eW, eA, f1, f2, f3, f4, t0, show (1 : Int).toNat = 1 from rfl, show (2 : Int).toNat = 2 from rfl, show (3 : Int).toNat = 3 from rfl, show (4 : Int).toNat = 4 from rfl, show (6 : Int).toNat = 6 from rfl, show (7 : Int).toNat = 7 from rfl, q4, q6, q7, hid]
    refine ⟨fun _ => ⟨fun _ => ⟨fun _ => ⟨fun _ => ⟨fun _ => by simp [cmpEv], fun q => absurd trivial q⟩, fun g => ⟨fun _ => ⟨fun _ => by simp [cmpEv], fun q => absurd trivial q⟩, fun h => ?_⟩⟩, fun q => absurd trivial q⟩, fun q => absurd trivial q⟩, fun q => by cases q⟩
    rw [q5.resolve_left g] at h
    cases h
end Go.Proofs.YtkjjkckcjgkhmaaGreat
