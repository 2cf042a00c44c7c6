/- LRep, merged: An, TAm, Am. -/
import Derived.Test.YtbbjlleaofgddaaGreatLAck
import Derived.Test.YtbbjlleaofgddaaGreatAD
set_option linter.unusedSimpArgs false
set_option linter.unusedVariables false
/- Chapter 42: what an inbox does with a letter. No program. -/
namespace Go.Proofs.YtbbjlleaofgddaaGreat
open Go.RowKit
def putB (g : Int) (r : Rows) (q : Int) : Bool := !isS r q && decide (g ≤ q ∧ q < g + 4)
def insR (g : Int) (r : Rows) (q : Int) (l : List D) : Rows := if putB g r q then r.take (lowS r q) ++ ([l] ++ r.drop (lowS r q)) else r
def runN (e : Rows) (g : Int) : Nat → Nat → Nat
  | 0, i => i
  | f + 1, i => if lg e i 2 = g + i then runN e g f (i + 1) else i
def runE (e : Rows) (g : Int) : Nat := runN e g e.length 0
theorem runN_spec {e : Rows} {g : Int} : ∀ (f i : Nat), i ≤ runN e g f i ∧ runN e g f i ≤ i + f ∧ (∀ k : Nat, i ≤ k → k < runN e g f i → lg e k 2 = g + k) ∧ (runN e g f i < i + f → lg e (runN e g f i : Nat) 2 ≠ g + (runN e g f i : Nat))
  | 0, i => ⟨Nat.le_refl _, Nat.le_refl _, fun k h1 h2 => by rw [runN] at h2; omega, fun h => by rw [runN] at h; omega⟩
  | f + 1, i => by
    rw [runN]
    split
    · rename_i h
      obtain ⟨a, b, c, d⟩ := runN_spec (e := e) (g := g) f (i + 1)
      refine ⟨by omega, by omega, fun k h1 h2 => ?_, fun h => d (by omega)⟩
      by_cases q : k = i
      · subst q; exact h
      · exact c k (by omega) h2
    · rename_i h
      exact ⟨Nat.le_refl _, by omega, fun k h1 h2 => by omega, fun _ => h⟩
theorem run_spec (e : Rows) (g : Int) : runE e g ≤ e.length ∧ (∀ k : Nat, k < runE e g → lg e k 2 = g + k) ∧ (runE e g < e.length → lg e (runE e g : Nat) 2 ≠ g + (runE e g : Nat)) := by
  obtain ⟨_, b, c, d⟩ := runN_spec (e := e) (g := g) e.length 0
  exact ⟨by unfold runE; omega, fun k hk => c k (Nat.zero_le _) hk, fun h => d (by unfold runE at h; omega)⟩
theorem run_uniq {e : Rows} {g : Int} {i : Nat} (hi : i ≤ e.length) (h1 : ∀ k : Nat, k < i → lg e k 2 = g + k) (h2 : i < e.length → lg e i 2 ≠ g + i) : i = runE e g := by
  obtain ⟨a, b, c⟩ := run_spec e g
  rcases Nat.lt_trichotomy i (runE e g) with h | h | h
  · exact absurd (b i h) (h2 (by omega))
  · exact h
  · exact absurd (h1 _ h) (c (by omega))
structure Win (g : Int) (e : Rows) : Prop where
  lo : ∀ i : Nat, i < e.length → g ≤ lg e i 2
  hi : ∀ i : Nat, i < e.length → lg e i 2 < g + 4
  up : ∀ i j : Nat, i < j → j < e.length → lg e i 2 < lg e j 2
theorem in_iff {g : Int} {r : Rows} : inB g r = true ↔ (0 ≤ g ∧ g ≤ 1000) ∧ alkB r = true ∧ Win (g + 1) r ∧ ∀ i : Nat, i < r.length → lg r i 2 < g + 4 := by
  unfold inB
  simp only [Bool.and_eq_true, decide_eq_true_eq]
  rw [and_assoc]
  refine and_congr_right fun _ => and_congr_right fun _ => ?_
  constructor
  · intro h
    have up1 : ∀ i : Nat, i + 1 < r.length → lg r i 2 < lg r (i + 1 : Nat) 2 := fun i hi => by
      have := (h (i + 1) hi).1
      unfold befS at this
      rw [if_neg (by omega)] at this
      exact this
    have up : ∀ d i : Nat, i + d + 1 < r.length → lg r i 2 < lg r (i + d + 1 : Nat) 2 := by
      intro d
      induction d with
      | zero => intro i hi; exact up1 i hi
      | succ d ih =>
        intro i hi
        have a := ih i (by omega)
        have b := up1 (i + d + 1) (by omega)
        rw [show i + (d + 1) + 1 = i + d + 1 + 1 by omega]
        omega
    have up' : ∀ i j : Nat, i < j → j < r.length → lg r i 2 < lg r j 2 := fun i j hij hj => by
      have := up (j - i - 1) i (by omega)
      rw [show i + (j - i - 1) + 1 = j by omega] at this
      exact this
    have h0 : ∀ i : Nat, i < r.length → g + 1 ≤ lg r i 2 := fun i hi => by
      have a := (h 0 (by omega)).1
      unfold befS at a
      rw [if_pos rfl] at a
      rcases Nat.eq_zero_or_pos i with e | e
      · subst e; omega
      · have := up' 0 i e hi; omega
    exact ⟨⟨h0, fun i hi => by have := (h i hi).2; omega, up'⟩, fun i hi => (h i hi).2⟩
  · rintro ⟨⟨h0, _, up⟩, h4⟩ i hi
    refine ⟨?_, h4 i hi⟩
    unfold befS
    split
    · rename_i e; subst e; have := h0 0 hi; omega
    · exact up (i - 1) i (by omega) hi
theorem win_len {g : Int} {e : Rows} (h : Win g e) : e.length ≤ 4 := by
  rcases Nat.lt_or_ge 4 e.length with q | q
  · have a := h.lo 0 (by omega)
    have b := h.up 0 1 (by omega) (by omega)
    have c := h.up 1 2 (by omega) (by omega)
    have d := h.up 2 3 (by omega) (by omega)
    have f := h.up 3 4 (by omega) (by omega)
    have := h.hi 4 (by omega)
    omega
  · exact q
theorem win_ris {g : Int} {e : Rows} (h : Win g e) : risS e = true := ris_of2 (fun i hi => h.up i (i + 1) (by omega) hi)
theorem lg_app_l {a b : Rows} {i : Nat} (h : i < a.length) (j : Nat) : lg (a ++ b) i j = lg a i j := by
  unfold lg cellAt
  rw [Int.toNat_natCast, List.getElem?_append_left h]
theorem lg_app_r {a b : Rows} {i : Nat} (h : a.length ≤ i) (j : Nat) : lg (a ++ b) i j = lg b (i - a.length : Nat) j := by
  unfold lg cellAt
  rw [Int.toNat_natCast, Int.toNat_natCast, List.getElem?_append_right h]
theorem lg_take {r : Rows} {k i : Nat} (h : i < k) (j : Nat) : lg (r.take k) i j = lg r i j := by
  unfold lg cellAt
  rw [Int.toNat_natCast, List.getElem?_take_of_lt h]
theorem lg_one (l : List D) (j : Nat) : lg [l] (0 : Nat) j = cI l j := rfl
theorem ins_lg {r : Rows} {k : Nat} (hk : k ≤ r.length) (l : List D) (i j : Nat) : lg (r.take k ++ ([l] ++ r.drop k)) i j = if i < k then lg r i j else if i = k then cI l j else lg r (i - 1 : Nat) j := by
  have hl : (r.take k).length = k := by rw [List.length_take]; omega
  split
  · rename_i h
    rw [lg_app_l (by omega), lg_take h]
  · rename_i h
    rw [lg_app_r (by omega), hl]
    split
    · rename_i e
      subst e
      rw [Nat.sub_self, lg_app_l (by simp), lg_one]
    · rename_i e
      rw [lg_app_r (by simp; omega), lg_drop]
      congr 1
      simp; omega
theorem ins_len {r : Rows} {k : Nat} (hk : k ≤ r.length) (l : List D) : (r.take k ++ ([l] ++ r.drop k)).length = r.length + 1 := by
  simp only [List.length_append, List.length_take, List.length_drop, List.length_cons, List.length_nil]; omega
theorem ins_win {g : Int} {r : Rows} (h : Win (g + 1) r) (h4 : ∀ i : Nat, i < r.length → lg r i 2 < g + 4) {l : List D} {q : Int} (hq : cI l 2 = q) : Win g (insR g r q l) := by
  unfold insR
  split
  · rename_i hp
    unfold putB at hp
    simp only [Bool.and_eq_true, Bool.not_eq_true', decide_eq_true_eq] at hp
    obtain ⟨a, b, c⟩ := lowS_spec r q
    have hne : ∀ i : Nat, i < r.length → lg r i 2 ≠ q := fun i hi e => by
      have := (isS_iff (win_ris h) (n := q)).2 ⟨i, hi, e⟩
      rw [this] at hp; exact absurd hp.1 (by decide)
    have hge : ∀ i : Nat, lowS r q ≤ i → i < r.length → q < lg r i 2 := fun i h1 h2 => by
      have h3 := c (by omega)
      have h5 := hne (lowS r q) (by omega)
      rcases Nat.eq_or_lt_of_le h1 with e | e
      · rw [← e]; omega
      · have := h.up _ _ e h2; omega
    refine ⟨fun i hi => ?_, fun i hi => ?_, fun i j hij hj => ?_⟩
    · rw [ins_len a] at hi
      rw [ins_lg a]
      split
      · have := h.lo i (by omega); omega
      · split
        · omega
        · have := h.lo (i - 1) (by omega); omega
    · rw [ins_len a] at hi
      rw [ins_lg a]
      split
      · exact h4 i (by omega)
      · split
        · omega
        · exact h4 (i - 1) (by omega)
    · rw [ins_len a] at hj
      rw [ins_lg a, ins_lg a]
      split
      · rename_i hi
        split
        · exact h.up i j hij (by omega)
        · split
          · have := b i hi; omega
          · rename_i g1 g2
            have q1 := b i hi
            have q2 := hge (j - 1) (by omega) (by omega)
            omega
      · rename_i hi
        rw [if_neg (show ¬ j < lowS r q by omega), if_neg (show ¬ j = lowS r q by omega)]
        split
        · rename_i g1
          have q2 := hge (j - 1) (by omega) (by omega)
          omega
        · rename_i g1
          exact h.up (i - 1) (j - 1) (by omega) (by omega)
  · exact ⟨fun i hi => by have := h.lo i hi; omega, h4, h.up⟩
theorem drop_win {g : Int} {e : Rows} (h : Win g e) : Win (g + (runE e g : Nat) + 1) (e.drop (runE e g)) ∧ ∀ i : Nat, i < (e.drop (runE e g)).length → lg (e.drop (runE e g)) i 2 < g + (runE e g : Nat) + 4 := by
  obtain ⟨a, b, c⟩ := run_spec e g
  have key : ∀ i : Nat, runE e g ≤ i → i < e.length → g + (runE e g : Nat) < lg e i 2 := fun i h1 h2 => by
    have h3 := c (by omega)
    have h4 : g + (runE e g : Nat) ≤ lg e (runE e g : Nat) 2 := by
      rcases Nat.eq_zero_or_pos (runE e g) with e0 | e0
      · have := h.lo (runE e g) (by omega); omega
      · have := b (runE e g - 1) (by omega)
        have := h.up (runE e g - 1) (runE e g) (by omega) (by omega)
        omega
    rcases Nat.eq_or_lt_of_le h1 with e' | e'
    · rw [← e']; omega
    · have := h.up _ _ e' h2; omega
  refine ⟨⟨fun i hi => ?_, fun i hi => ?_, fun i j hij hj => ?_⟩, fun i hi => ?_⟩
  · rw [List.length_drop] at hi
    rw [lg_drop]; have := key (runE e g + i) (by omega) (by omega); omega
  · rw [List.length_drop] at hi
    rw [lg_drop]; have := h.hi (runE e g + i) (by omega); omega
  · rw [List.length_drop] at hj
    rw [lg_drop, lg_drop]; exact h.up _ _ (by omega) (by omega)
  · rw [List.length_drop] at hi
    rw [lg_drop]; have := h.hi (runE e g + i) (by omega); omega
theorem run_zero {g : Int} {r : Rows} (h : Win (g + 1) r) : runE r g = 0 := by
  refine (run_uniq (Nat.zero_le _) (fun k hk => by omega) (fun h0 => ?_)).symm
  have := h.lo 0 h0; omega
end Go.Proofs.YtbbjlleaofgddaaGreat
/- Chapter 42: trees of the laws Repeated. -/
namespace Go.Proofs.YtbbjlleaofgddaaGreat
open Go.RowKit
def trLawRep : TT OpR :=
(.ite (.not (.fn 222 (.x (.app (.row (.i (.var 6) (.i (.var 7) (.i (.var 8) (.i (.var 9) (.i (.var 10) (.i (.var 11) (.x (.var 12) .nil)))))))) .nil) .nil)))
 (.ret ((.v (.one (.z (.bool (.lit true))))), [], 3))
 (.ite (.cmp .gtr (.len (.var 1)) (.lit 8))
 (.ret ((.v (.one (.z (.bool (.lit true))))), [], 3))
 (.ite (.not (.fn 223 (.x (.var 1) .nil)))
 (.ret ((.v (.one (.z (.bool (.lit true))))), [], 3))
 (.loop 0 8000 ⟨[], [(0, (.lit false))], []⟩
 (.ite (.var 8000)
 (.ite (.var 8004)
 (.ret ((.v (.one (.z (.bool (.lit true))))), [], 10))
 (.ob (.tru (.fn 203 (.x (.var 1) .nil)))
 (.loop 1 9000 ⟨[], [(0, (.lit false))], []⟩
 (.ite (.var 9000)
 (.ite (.var 9002)
 (.ret ((.v (.one (.z (.bool (.lit true))))), [], 11))
 (.ob (.tru (.cmp .leq (.len (.var 1)) (.lit 1000000)))
 (.loop 2 11000 ⟨[], [(0, (.lit false))], []⟩
 (.ite (.var 11000)
 (.loop 3 12000 ⟨[], [(0, (.lit false))], []⟩
 (.ite (.var 12000)
 (.loop 4 14000 ⟨[], [(0, (.lit false))], []⟩
 (.ite (.var 14000)
 (.loop 5 25000 ⟨[], [(0, (.lit false))], []⟩
 (.ite (.var 25000)
 (.ite (.var 25004)
 (.stuck "not possible")
 (.ob (.tru (.fn 203 (.x (.sub (.var 12002) (.var 14001) (.var 14002)) .nil)))
 (.loop 6 26000 ⟨[], [(0, (.lit false))], []⟩
 (.ite (.var 26000)
 (.ite (.var 26002)
 (.stuck "not possible")
 (.ob (.tru (.cmp .leq (.len (.sub (.var 12002) (.var 14001) (.var 14002))) (.lit 1000000)))
 (.loop 7 28000 ⟨[], [(0, (.lit false))], []⟩
 (.ite (.var 28000)
 (.loop 8 29000 ⟨[], [(0, (.lit false))], []⟩
 (.ite (.var 29000)
 (.loop 9 31000 ⟨[], [(0, (.lit false))], []⟩
 (.ite (.var 31000)
 (.ite (.fn 224 (.i (.var 14004) (.x (.sub (.var 12002) (.var 14001) (.var 14002)) (.i (.var 31004) (.x (.sub (.var 29002) (.var 31001) (.var 31002)) .nil)))))
 (.ite (.cmp .eql (.len (.var 31015)) (.lit 0))
 (.ite (.fn 221 (.i (.var 3) (.i (.var 2) (.i (.var 14004) (.b (.lit true) (.i (.lit 0) (.i (.lit 0) (.i (.lit 0) (.i (.lit 0) (.i (.lit 0) (.i (.lit 0) (.x .nil (.i (.var 3) (.i (.var 2) (.i (.var 31004) (.b (.lit true) (.i (.lit 0) (.i (.lit 0) (.i (.lit 0) (.i (.lit 0) (.i (.lit 0) (.i (.lit 0) (.x .nil .nil)))))))))))))))))))))))
 (.ret ((.v (.one (.z (.bool (.cmp .eql (.var 14004) (.ar .add .i64 (.var 0) (.len (.var 14015)))))))), [], 37))
 (.ret ((.v (.one (.z (.bool (.lit false))))), [], 37)))
 (.ret ((.v (.one (.z (.bool (.lit false))))), [], 37)))
 (.ret ((.v (.one (.z (.bool (.lit false))))), [], 37)))
 (.loop 10 32000 ⟨[(0, (.lit 0)), (1, (.len (.var 29002))), (2, (.lit 0)), (4, (.var 14004)), (2, (.lit 0))], [], [(3, .nil)]⟩
 (.ite (.cmp .gtr (.len (.sub (.var 29002) (.var 32000) (.var 32001))) (.lit 0))
 (.ob (.tru (.lit true))
 (.ob (.tru (.cmp .lss (.lit 0) (.len (.sub (.var 29002) (.var 32000) (.var 32001)))))
 (.ite (.cmp .eql (.rd (.var 29002) (.var 32000) 2) (.var 32004))
 (.ob (.tru (.lit true))
 (.ob (.tru (.cmp .lss (.lit 0) (.len (.sub (.var 29002) (.var 32000) (.var 32001)))))
 (.ob (.tru (.cmp .leq (.len (.app (.var 32003) (.app (.row (.i (.rd (.var 29002) (.var 32000) 4) (.i (.rd (.var 29002) (.var 32000) 5) (.i (.rd (.var 29002) (.var 32000) 6) (.i (.rd (.var 29002) (.var 32000) 7) (.i (.rd (.var 29002) (.var 32000) 8) (.i (.rd (.var 29002) (.var 32000) 9) (.x (.rd (.var 29002) (.var 32000) 10) .nil)))))))) .nil))) (.lit 1000000)))
 (.ob (.tru (.lit true))
 (.ob (.tru (.cmp .leq (.lit 1) (.len (.sub (.var 29002) (.var 32000) (.var 32001)))))
 (.ob (.tru (.lit true))
 (.next 10 ⟨[(0, (.plus (.var 32000) (.lit 1))), (1, (.plus (.var 32000) (.len (.sub (.var 29002) (.var 32000) (.var 32001))))), (2, (.plus (.var 32002) (.lit 1))), (4, (.ar .add .i64 (.var 32004) (.lit 1))), (2, (.plus (.var 32002) (.lit 1)))], [], [(3, (.app (.var 32003) (.app (.row (.i (.rd (.var 29002) (.var 32000) 4) (.i (.rd (.var 29002) (.var 32000) 5) (.i (.rd (.var 29002) (.var 32000) 6) (.i (.rd (.var 29002) (.var 32000) 7) (.i (.rd (.var 29002) (.var 32000) 8) (.i (.rd (.var 29002) (.var 32000) 9) (.x (.rd (.var 29002) (.var 32000) 10) .nil)))))))) .nil)))]⟩)))))))
 (.next 9 ⟨[(1, (.var 32000)), (2, (.var 32001)), (3, (.var 32002)), (4, (.var 32004)), (5, (.var 32000)), (6, (.var 32001)), (7, (.len (.sub (.var 29002) (.var 32000) (.var 32001)))), (3, (.var 32002))], [(8, (.cmp .gtr (.len (.sub (.var 29002) (.var 32000) (.var 32001))) (.lit 0))), (0, (.lit true))], [(15, (.var 32003))]⟩))))
 (.next 9 ⟨[(1, (.var 32000)), (2, (.var 32001)), (3, (.var 32002)), (4, (.var 32004)), (5, (.var 32000)), (6, (.var 32001)), (7, (.len (.sub (.var 29002) (.var 32000) (.var 32001)))), (3, (.var 32002))], [(8, (.cmp .gtr (.len (.sub (.var 29002) (.var 32000) (.var 32001))) (.lit 0))), (0, (.lit true))], [(15, (.var 32003))]⟩)))))
 (.ite (.var 28002)
 (.ob (.tru (.cmp .leq (.lit 0) (.fn 200 (.x (.sub (.var 12002) (.var 14001) (.var 14002)) (.i (.var 4) .nil)))))
 (.ob (.tru (.cmp .leq (.fn 200 (.x (.sub (.var 12002) (.var 14001) (.var 14002)) (.i (.var 4) .nil))) (.len (.sub (.var 12002) (.var 14001) (.var 14002)))))
 (.ob (.tru (.cmp .lss (.len (.sub (.var 12002) (.var 14001) (.var 14002))) (.lit 1000000)))
 (.next 8 ⟨[(1, (.lit 1)), (1, (.lit 1))], [(0, (.lit true))], [(2, (.app (.app (.sub (.sub (.var 12002) (.var 14001) (.var 14002)) (.lit 0) (.fn 200 (.x (.sub (.var 12002) (.var 14001) (.var 14002)) (.i (.var 4) .nil)))) (.app (.row (.i (.var 2) (.i (.var 3) (.i (.var 4) (.b (.var 5) (.i (.var 6) (.i (.var 7) (.i (.var 8) (.i (.var 9) (.i (.var 10) (.i (.var 11) (.x (.var 12) .nil)))))))))))) .nil)) (.sub (.sub (.var 12002) (.var 14001) (.var 14002)) (.fn 200 (.x (.sub (.var 12002) (.var 14001) (.var 14002)) (.i (.var 4) .nil))) (.len (.sub (.var 12002) (.var 14001) (.var 14002))))))]⟩))))
 (.next 8 ⟨[(1, (.lit 0)), (1, (.lit 0))], [(0, (.lit true))], [(2, (.sub (.var 12002) (.var 14001) (.var 14002)))]⟩))))
 (.ite (.not (.fn 204 (.x (.sub (.var 12002) (.var 14001) (.var 14002)) (.i (.var 4) .nil))))
 (.ite (.cmp .geq (.var 4) (.var 14004))
 (.next 7 ⟨[], [(3, (.lit true)), (4, (.cmp .geq (.var 4) (.var 14004))), (1, (.lit true)), (2, (.cmp .lss (.var 4) (.ar .add .i64 (.var 14004) (.lit 4)))), (0, (.lit true))], []⟩)
 (.next 7 ⟨[], [(3, (.lit true)), (4, (.cmp .geq (.var 4) (.var 14004))), (1, (.lit false)), (2, (.lit false)), (0, (.lit true))], []⟩))
 (.next 7 ⟨[], [(3, (.lit false)), (4, (.lit false)), (1, (.lit false)), (2, (.lit false)), (0, (.lit true))], []⟩))))))
 (.ite (.fn 204 (.x (.sub (.var 12002) (.var 14001) (.var 14002)) (.i (.var 4) .nil)))
 (.ob (.tru (.cmp .leq (.lit 0) (.fn 200 (.x (.sub (.var 12002) (.var 14001) (.var 14002)) (.i (.var 4) .nil)))))
 (.ob (.tru (.cmp .lss (.fn 200 (.x (.sub (.var 12002) (.var 14001) (.var 14002)) (.i (.var 4) .nil))) (.len (.sub (.var 12002) (.var 14001) (.var 14002)))))
 (.next 6 ⟨[], [(1, (.lit true)), (2, (.not (.fn 190 (.i (.rd (.var 12002) (.plus (.var 14001) (.fn 200 (.x (.sub (.var 12002) (.var 14001) (.var 14002)) (.i (.var 4) .nil)))) 4) (.i (.rd (.var 12002) (.plus (.var 14001) (.fn 200 (.x (.sub (.var 12002) (.var 14001) (.var 14002)) (.i (.var 4) .nil)))) 5) (.i (.rd (.var 12002) (.plus (.var 14001) (.fn 200 (.x (.sub (.var 12002) (.var 14001) (.var 14002)) (.i (.var 4) .nil)))) 6) (.i (.rd (.var 12002) (.plus (.var 14001) (.fn 200 (.x (.sub (.var 12002) (.var 14001) (.var 14002)) (.i (.var 4) .nil)))) 7) (.i (.rd (.var 12002) (.plus (.var 14001) (.fn 200 (.x (.sub (.var 12002) (.var 14001) (.var 14002)) (.i (.var 4) .nil)))) 8) (.i (.rd (.var 12002) (.plus (.var 14001) (.fn 200 (.x (.sub (.var 12002) (.var 14001) (.var 14002)) (.i (.var 4) .nil)))) 9) (.x (.rd (.var 12002) (.plus (.var 14001) (.fn 200 (.x (.sub (.var 12002) (.var 14001) (.var 14002)) (.i (.var 4) .nil)))) 10) (.i (.var 6) (.i (.var 7) (.i (.var 8) (.i (.var 9) (.i (.var 10) (.i (.var 11) (.x (.var 12) .nil))))))))))))))))), (0, (.lit true))], []⟩)))
 (.next 6 ⟨[], [(1, (.lit false)), (2, (.lit false)), (0, (.lit true))], []⟩))))))
 (.ite (.not (.fn 211 (.i (.var 14004) (.x (.sub (.var 12002) (.var 14001) (.var 14002)) .nil))))
 (.next 5 ⟨[], [(1, (.lit true)), (2, (.lit true)), (3, (.lit true)), (4, (.lit true)), (0, (.lit true))], []⟩)
 (.ite (.not (.fn 191 (.i (.var 2) (.i (.var 3) (.i (.var 4) (.b (.var 5) (.i (.var 6) (.i (.var 7) (.i (.var 8) (.i (.var 9) (.i (.var 10) (.i (.var 11) (.x (.var 12) .nil)))))))))))))
 (.next 5 ⟨[], [(1, (.lit false)), (2, (.not (.fn 191 (.i (.var 2) (.i (.var 3) (.i (.var 4) (.b (.var 5) (.i (.var 6) (.i (.var 7) (.i (.var 8) (.i (.var 9) (.i (.var 10) (.i (.var 11) (.x (.var 12) .nil)))))))))))))), (3, (.lit true)), (4, (.lit true)), (0, (.lit true))], []⟩)
 (.next 5 ⟨[], [(1, (.lit false)), (2, (.not (.fn 191 (.i (.var 2) (.i (.var 3) (.i (.var 4) (.b (.var 5) (.i (.var 6) (.i (.var 7) (.i (.var 8) (.i (.var 9) (.i (.var 10) (.i (.var 11) (.x (.var 12) .nil)))))))))))))), (3, (.lit false)), (4, (.not (.fn 201 (.x (.sub (.var 12002) (.var 14001) (.var 14002)) (.i (.var 2) (.i (.var 3) .nil)))))), (0, (.lit true))], []⟩)))))
 (.loop 5 15000 ⟨[(0, (.lit 0)), (1, (.len (.var 12002))), (2, (.lit 0)), (4, (.var 0)), (2, (.lit 0))], [], [(3, .nil)]⟩
 (.ite (.cmp .gtr (.len (.sub (.var 12002) (.var 15000) (.var 15001))) (.lit 0))
 (.ob (.tru (.lit true))
 (.ob (.tru (.cmp .lss (.lit 0) (.len (.sub (.var 12002) (.var 15000) (.var 15001)))))
 (.ite (.cmp .eql (.rd (.var 12002) (.var 15000) 2) (.var 15004))
 (.ob (.tru (.lit true))
 (.ob (.tru (.cmp .lss (.lit 0) (.len (.sub (.var 12002) (.var 15000) (.var 15001)))))
 (.ob (.tru (.cmp .leq (.len (.app (.var 15003) (.app (.row (.i (.rd (.var 12002) (.var 15000) 4) (.i (.rd (.var 12002) (.var 15000) 5) (.i (.rd (.var 12002) (.var 15000) 6) (.i (.rd (.var 12002) (.var 15000) 7) (.i (.rd (.var 12002) (.var 15000) 8) (.i (.rd (.var 12002) (.var 15000) 9) (.x (.rd (.var 12002) (.var 15000) 10) .nil)))))))) .nil))) (.lit 1000000)))
 (.ob (.tru (.lit true))
 (.ob (.tru (.cmp .leq (.lit 1) (.len (.sub (.var 12002) (.var 15000) (.var 15001)))))
 (.ob (.tru (.lit true))
 (.next 5 ⟨[(0, (.plus (.var 15000) (.lit 1))), (1, (.plus (.var 15000) (.len (.sub (.var 12002) (.var 15000) (.var 15001))))), (2, (.plus (.var 15002) (.lit 1))), (4, (.ar .add .i64 (.var 15004) (.lit 1))), (2, (.plus (.var 15002) (.lit 1)))], [], [(3, (.app (.var 15003) (.app (.row (.i (.rd (.var 12002) (.var 15000) 4) (.i (.rd (.var 12002) (.var 15000) 5) (.i (.rd (.var 12002) (.var 15000) 6) (.i (.rd (.var 12002) (.var 15000) 7) (.i (.rd (.var 12002) (.var 15000) 8) (.i (.rd (.var 12002) (.var 15000) 9) (.x (.rd (.var 12002) (.var 15000) 10) .nil)))))))) .nil)))]⟩)))))))
 (.next 4 ⟨[(1, (.var 15000)), (2, (.var 15001)), (3, (.var 15002)), (4, (.var 15004)), (5, (.var 15000)), (6, (.var 15001)), (7, (.len (.sub (.var 12002) (.var 15000) (.var 15001)))), (3, (.var 15002))], [(8, (.cmp .gtr (.len (.sub (.var 12002) (.var 15000) (.var 15001))) (.lit 0))), (0, (.lit true))], [(15, (.var 15003))]⟩))))
 (.next 4 ⟨[(1, (.var 15000)), (2, (.var 15001)), (3, (.var 15002)), (4, (.var 15004)), (5, (.var 15000)), (6, (.var 15001)), (7, (.len (.sub (.var 12002) (.var 15000) (.var 15001)))), (3, (.var 15002))], [(8, (.cmp .gtr (.len (.sub (.var 12002) (.var 15000) (.var 15001))) (.lit 0))), (0, (.lit true))], [(15, (.var 15003))]⟩)))))
 (.ite (.var 11002)
 (.ob (.tru (.cmp .leq (.lit 0) (.fn 200 (.x (.var 1) (.i (.var 4) .nil)))))
 (.ob (.tru (.cmp .leq (.fn 200 (.x (.var 1) (.i (.var 4) .nil))) (.len (.var 1))))
 (.ob (.tru (.cmp .lss (.len (.var 1)) (.lit 1000000)))
 (.next 3 ⟨[(1, (.lit 1)), (1, (.lit 1))], [(0, (.lit true))], [(2, (.app (.app (.sub (.var 1) (.lit 0) (.fn 200 (.x (.var 1) (.i (.var 4) .nil)))) (.app (.row (.i (.var 2) (.i (.var 3) (.i (.var 4) (.b (.var 5) (.i (.var 6) (.i (.var 7) (.i (.var 8) (.i (.var 9) (.i (.var 10) (.i (.var 11) (.x (.var 12) .nil)))))))))))) .nil)) (.sub (.var 1) (.fn 200 (.x (.var 1) (.i (.var 4) .nil))) (.len (.var 1)))))]⟩))))
 (.next 3 ⟨[(1, (.lit 0)), (1, (.lit 0))], [(0, (.lit true))], [(2, (.var 1))]⟩))))
 (.ite (.not (.fn 204 (.x (.var 1) (.i (.var 4) .nil))))
 (.ite (.cmp .geq (.var 4) (.var 0))
 (.next 2 ⟨[], [(3, (.lit true)), (4, (.cmp .geq (.var 4) (.var 0))), (1, (.lit true)), (2, (.cmp .lss (.var 4) (.ar .add .i64 (.var 0) (.lit 4)))), (0, (.lit true))], []⟩)
 (.next 2 ⟨[], [(3, (.lit true)), (4, (.cmp .geq (.var 4) (.var 0))), (1, (.lit false)), (2, (.lit false)), (0, (.lit true))], []⟩))
 (.next 2 ⟨[], [(3, (.lit false)), (4, (.lit false)), (1, (.lit false)), (2, (.lit false)), (0, (.lit true))], []⟩))))))
 (.ite (.fn 204 (.x (.var 1) (.i (.var 4) .nil)))
 (.ob (.tru (.cmp .leq (.lit 0) (.fn 200 (.x (.var 1) (.i (.var 4) .nil)))))
 (.ob (.tru (.cmp .lss (.fn 200 (.x (.var 1) (.i (.var 4) .nil))) (.len (.var 1))))
 (.next 1 ⟨[], [(1, (.lit true)), (2, (.not (.fn 190 (.i (.rd (.var 1) (.fn 200 (.x (.var 1) (.i (.var 4) .nil))) 4) (.i (.rd (.var 1) (.fn 200 (.x (.var 1) (.i (.var 4) .nil))) 5) (.i (.rd (.var 1) (.fn 200 (.x (.var 1) (.i (.var 4) .nil))) 6) (.i (.rd (.var 1) (.fn 200 (.x (.var 1) (.i (.var 4) .nil))) 7) (.i (.rd (.var 1) (.fn 200 (.x (.var 1) (.i (.var 4) .nil))) 8) (.i (.rd (.var 1) (.fn 200 (.x (.var 1) (.i (.var 4) .nil))) 9) (.x (.rd (.var 1) (.fn 200 (.x (.var 1) (.i (.var 4) .nil))) 10) (.i (.var 6) (.i (.var 7) (.i (.var 8) (.i (.var 9) (.i (.var 10) (.i (.var 11) (.x (.var 12) .nil))))))))))))))))), (0, (.lit true))], []⟩)))
 (.next 1 ⟨[], [(1, (.lit false)), (2, (.lit false)), (0, (.lit true))], []⟩))))))
 (.ite (.not (.fn 211 (.i (.var 0) (.x (.var 1) .nil))))
 (.next 0 ⟨[], [(1, (.lit true)), (2, (.lit true)), (3, (.lit true)), (4, (.lit true)), (0, (.lit true))], []⟩)
 (.ite (.not (.fn 191 (.i (.var 2) (.i (.var 3) (.i (.var 4) (.b (.var 5) (.i (.var 6) (.i (.var 7) (.i (.var 8) (.i (.var 9) (.i (.var 10) (.i (.var 11) (.x (.var 12) .nil)))))))))))))
 (.next 0 ⟨[], [(1, (.lit false)), (2, (.not (.fn 191 (.i (.var 2) (.i (.var 3) (.i (.var 4) (.b (.var 5) (.i (.var 6) (.i (.var 7) (.i (.var 8) (.i (.var 9) (.i (.var 10) (.i (.var 11) (.x (.var 12) .nil)))))))))))))), (3, (.lit true)), (4, (.lit true)), (0, (.lit true))], []⟩)
 (.next 0 ⟨[], [(1, (.lit false)), (2, (.not (.fn 191 (.i (.var 2) (.i (.var 3) (.i (.var 4) (.b (.var 5) (.i (.var 6) (.i (.var 7) (.i (.var 8) (.i (.var 9) (.i (.var 10) (.i (.var 11) (.x (.var 12) .nil)))))))))))))), (3, (.lit false)), (4, (.not (.fn 201 (.x (.var 1) (.i (.var 2) (.i (.var 3) .nil)))))), (0, (.lit true))], []⟩))))))))
def trLawRep_h : List (Nat × St) := [
(14, ⟨(List.append [(.v (.agg [(.z (.int .i64 (.var 0))), (.z (.ext letK (.var 1) false))])), (.v (.agg [(.z (.int .i64 (.var 2))), (.z (.int .i64 (.var 3))), (.z (.int .i64 (.var 4))), (.z (.bool (.var 5))), (.z (.int .i64 (.var 6))), (.z (.int .i64 (.var 7))), (.z (.int .i64 (.var 8))), (.z (.int .i64 (.var 9))), (.z (.int .i64 (.var 10))), (.z (.int .i64 (.var 11))), (.z (.ext partK (.var 12) false))])), (.v (.one (.z (.ptr 3 0)))), (.v (.one (.z (.ptr 4 0)))), (.v (.one (.z (.ptr 5 0)))), (.v (.one (.z (.const (.slice none 0 0))))), (.v (.one (.z (.ptr 6 0)))), (.v (.one (.z (.int .i64 (.lit 0))))), (.v (.one (.z (.int .i64 (.fn 200 (.x (.var 1) (.i (.var 4) .nil))))))), (.v (.one (.z (.bool (.fn 204 (.x (.var 1) (.i (.var 4) .nil))))))), (.v (.one (.z (.ovw 9 (.var 12001) 11 (.var 15000) (.var 15001) false)))), (.v (.one (.z (.own 15 (.var 15002))))), (.v (.one (.z (.int .i64 (.var 15004))))), (.v (.one (.z .any))), (.v (.agg [(.z (.int .i64 (.var 0))), (.z (.ext letK (.var 1) false))])), (.v (.one (.z (.bool (.fn 211 (.i (.var 0) (.x (.var 1) .nil))))))), (.v (.one (.z (.bool (.not (.fn 211 (.i (.var 0) (.x (.var 1) .nil)))))))), (.v (.one (.z (.bool (.var 8001))))), (.v (.one (.z .any))), (.v (.one (.z .any))), (.v (.one (.z .any))), (.v (.one (.z (.bool (.var 8002))))), (.v (.one (.z (.bool (.var 8003)))))] (List.append (List.replicate 8 V.any) (List.append [(.v (.one (.z (.bool (.var 8004))))), (.v (.one (.z .any))), (.v (.one (.z .any))), (.v (.one (.z .any))), (.v (.one (.z (.ptr 3 1)))), (.v (.one (.z (.ext letK (.var 1) false)))), (.v (.one (.z (.ptr 4 2)))), (.v (.one (.z (.int .i64 (.var 4))))), (.v (.one (.z .any))), (.v (.one (.z (.int .i64 (.fn 200 (.x (.var 1) (.i (.var 4) .nil))))))), (.v (.one (.z (.bool (.fn 204 (.x (.var 1) (.i (.var 4) .nil))))))), (.v (.one (.z (.bool (.fn 204 (.x (.var 1) (.i (.var 4) .nil))))))), (.v (.one (.z (.bool (.var 9001)))))] (List.append (List.replicate 10 V.any) (List.append [(.v (.one (.z (.bool (.var 9002))))), (.v (.one (.z .any))), (.v (.one (.z .any))), (.v (.one (.z (.ptr 3 1)))), (.v (.one (.z (.ext letK (.var 1) false)))), (.v (.one (.z (.own 9 (.lit 0))))), (.v (.one (.z (.bool (.fn 204 (.x (.var 1) (.i (.var 4) .nil))))))), (.v (.one (.z (.bool (.not (.fn 204 (.x (.var 1) (.i (.var 4) .nil)))))))), (.v (.one (.z (.bool (.var 11003)))))] (List.append (List.replicate 5 V.any) (List.append [(.v (.one (.z (.bool (.var 11004))))), (.v (.one (.z (.bool (.var 11001)))))] (List.append (List.replicate 6 V.any) (List.append [(.v (.one (.z (.bool (.var 11002)))))] (List.append (List.replicate 5 V.any) (List.append [(.v (.one (.z (.ptr 3 0)))), (.v (.one (.z (.int .i64 (.var 0)))))] (List.replicate 32 V.any)))))))))))), [(15, (.own 29 notK (.var 15003) (.var 15002))), (9, (.own 31 letK (.var 12002) (.var 12001))), (6, (.cells 31 [(.z (.int .i64 (.lit 0))), (.z (.int .i64 (.lit 0))), (.z (.int .i64 (.lit 0))), (.z (.bool (.lit false))), (.z (.int .i64 (.lit 0))), (.z (.int .i64 (.lit 0))), (.z (.int .i64 (.lit 0))), (.z (.int .i64 (.lit 0))), (.z (.int .i64 (.lit 0))), (.z (.int .i64 (.lit 0))), (.z (.const (.slice none 0 0)))])), (5, (.cells 26 [(.z (.int .i64 (.lit 0))), (.z (.const (.slice none 0 0)))])), (4, (.cells 31 [(.z (.int .i64 (.var 2))), (.z (.int .i64 (.var 3))), (.z (.int .i64 (.var 4))), (.z (.bool (.var 5))), (.z (.int .i64 (.var 6))), (.z (.int .i64 (.var 7))), (.z (.int .i64 (.var 8))), (.z (.int .i64 (.var 9))), (.z (.int .i64 (.var 10))), (.z (.int .i64 (.var 11))), (.z (.ext partK (.var 12) false))])), (3, (.cells 26 [(.z (.int .i64 (.var 0))), (.z (.ext letK (.var 1) false))])), (2, (.cells 29 [(.z (.int .i64 (.var 6))), (.z (.int .i64 (.var 7))), (.z (.int .i64 (.var 8))), (.z (.int .i64 (.var 9))), (.z (.int .i64 (.var 10))), (.z (.int .i64 (.var 11))), (.z (.ext partK (.var 12) false))])), (1, (.cells 31 [(.z (.int .i64 (.var 2))), (.z (.int .i64 (.var 3))), (.z (.int .i64 (.var 4))), (.z (.bool (.var 5))), (.z (.int .i64 (.var 6))), (.z (.int .i64 (.var 7))), (.z (.int .i64 (.var 8))), (.z (.int .i64 (.var 9))), (.z (.int .i64 (.var 10))), (.z (.int .i64 (.var 11))), (.z (.ext partK (.var 12) false))])), (0, (.cells 26 [(.z (.int .i64 (.var 0))), (.z (.ext letK (.var 1) false))]))], 16, []⟩),
(31, ⟨(List.append [(.v (.agg [(.z (.int .i64 (.var 14004))), (.z (.ovw 9 (.var 12001) 11 (.var 14001) (.var 14002) false))])), (.v (.agg [(.z (.int .i64 (.var 2))), (.z (.int .i64 (.var 3))), (.z (.int .i64 (.var 4))), (.z (.bool (.var 5))), (.z (.int .i64 (.var 6))), (.z (.int .i64 (.var 7))), (.z (.int .i64 (.var 8))), (.z (.int .i64 (.var 9))), (.z (.int .i64 (.var 10))), (.z (.int .i64 (.var 11))), (.z (.ext partK (.var 12) false))])), (.v (.one (.z (.ptr 20 0)))), (.v (.one (.z (.ptr 21 0)))), (.v (.one (.z (.ptr 22 0)))), (.v (.one (.z (.const (.slice none 0 0))))), (.v (.one (.z (.ptr 23 0)))), (.v (.one (.z (.int .i64 (.lit 0))))), (.v (.one (.z (.int .i64 (.fn 200 (.x (.sub (.var 12002) (.var 14001) (.var 14002)) (.i (.var 4) .nil))))))), (.v (.one (.z (.bool (.fn 204 (.x (.sub (.var 12002) (.var 14001) (.var 14002)) (.i (.var 4) .nil))))))), (.v (.one (.z (.ovw 26 (.var 29001) 11 (.var 32000) (.var 32001) false)))), (.v (.one (.z (.own 32 (.var 32002))))), (.v (.one (.z (.int .i64 (.var 32004))))), (.v (.one (.z .any))), (.v (.agg [(.z (.int .i64 (.var 14004))), (.z (.ovw 9 (.var 12001) 11 (.var 14001) (.var 14002) false))])), (.v (.one (.z (.bool (.fn 211 (.i (.var 14004) (.x (.sub (.var 12002) (.var 14001) (.var 14002)) .nil))))))), (.v (.one (.z (.bool (.not (.fn 211 (.i (.var 14004) (.x (.sub (.var 12002) (.var 14001) (.var 14002)) .nil)))))))), (.v (.one (.z (.bool (.var 25001))))), (.v (.one (.z .any))), (.v (.one (.z .any))), (.v (.one (.z .any))), (.v (.one (.z (.bool (.var 25002))))), (.v (.one (.z (.bool (.var 25003)))))] (List.append (List.replicate 8 V.any) (List.append [(.v (.one (.z (.bool (.var 25004))))), (.v (.one (.z .any))), (.v (.one (.z .any))), (.v (.one (.z .any))), (.v (.one (.z (.ptr 20 1)))), (.v (.one (.z (.ovw 9 (.var 12001) 11 (.var 14001) (.var 14002) false)))), (.v (.one (.z (.ptr 21 2)))), (.v (.one (.z (.int .i64 (.var 4))))), (.v (.one (.z .any))), (.v (.one (.z (.int .i64 (.fn 200 (.x (.sub (.var 12002) (.var 14001) (.var 14002)) (.i (.var 4) .nil))))))), (.v (.one (.z (.bool (.fn 204 (.x (.sub (.var 12002) (.var 14001) (.var 14002)) (.i (.var 4) .nil))))))), (.v (.one (.z (.bool (.fn 204 (.x (.sub (.var 12002) (.var 14001) (.var 14002)) (.i (.var 4) .nil))))))), (.v (.one (.z (.bool (.var 26001)))))] (List.append (List.replicate 10 V.any) (List.append [(.v (.one (.z (.bool (.var 26002))))), (.v (.one (.z .any))), (.v (.one (.z .any))), (.v (.one (.z (.ptr 20 1)))), (.v (.one (.z (.ovw 9 (.var 12001) 11 (.var 14001) (.var 14002) false)))), (.v (.one (.z (.own 26 (.lit 0))))), (.v (.one (.z (.bool (.fn 204 (.x (.sub (.var 12002) (.var 14001) (.var 14002)) (.i (.var 4) .nil))))))), (.v (.one (.z (.bool (.not (.fn 204 (.x (.sub (.var 12002) (.var 14001) (.var 14002)) (.i (.var 4) .nil)))))))), (.v (.one (.z (.bool (.var 28003)))))] (List.append (List.replicate 5 V.any) (List.append [(.v (.one (.z (.bool (.var 28004))))), (.v (.one (.z (.bool (.var 28001)))))] (List.append (List.replicate 6 V.any) (List.append [(.v (.one (.z (.bool (.var 28002)))))] (List.append (List.replicate 5 V.any) (List.append [(.v (.one (.z (.ptr 20 0)))), (.v (.one (.z (.int .i64 (.var 14004)))))] (List.replicate 32 V.any)))))))))))), [(32, (.own 29 notK (.var 32003) (.var 32002))), (26, (.own 31 letK (.var 29002) (.var 29001))), (23, (.cells 31 [(.z (.int .i64 (.lit 0))), (.z (.int .i64 (.lit 0))), (.z (.int .i64 (.lit 0))), (.z (.bool (.lit false))), (.z (.int .i64 (.lit 0))), (.z (.int .i64 (.lit 0))), (.z (.int .i64 (.lit 0))), (.z (.int .i64 (.lit 0))), (.z (.int .i64 (.lit 0))), (.z (.int .i64 (.lit 0))), (.z (.const (.slice none 0 0)))])), (22, (.cells 26 [(.z (.int .i64 (.lit 0))), (.z (.const (.slice none 0 0)))])), (21, (.cells 31 [(.z (.int .i64 (.var 2))), (.z (.int .i64 (.var 3))), (.z (.int .i64 (.var 4))), (.z (.bool (.var 5))), (.z (.int .i64 (.var 6))), (.z (.int .i64 (.var 7))), (.z (.int .i64 (.var 8))), (.z (.int .i64 (.var 9))), (.z (.int .i64 (.var 10))), (.z (.int .i64 (.var 11))), (.z (.ext partK (.var 12) false))])), (20, (.cells 26 [(.z (.int .i64 (.var 14004))), (.z (.ovw 9 (.var 12001) 11 (.var 14001) (.var 14002) false))])), (19, (.cells 31 [(.z (.int .i64 (.var 3))), (.z (.int .i64 (.var 2))), (.z (.int .i64 (.var 14004))), (.z (.bool (.lit true))), (.z (.int .i64 (.lit 0))), (.z (.int .i64 (.lit 0))), (.z (.int .i64 (.lit 0))), (.z (.int .i64 (.lit 0))), (.z (.int .i64 (.lit 0))), (.z (.int .i64 (.lit 0))), (.z (.const (.slice none 0 0)))])), (18, (.cells 26 [(.z (.int .i64 (.var 14004))), (.z (.ovw 9 (.var 12001) 11 (.var 14001) (.var 14002) false))])), (15, (.own 29 notK (.var 14015) (.var 14003))), (9, (.own 31 letK (.var 12002) (.var 12001))), (2, (.cells 29 [(.z (.int .i64 (.var 6))), (.z (.int .i64 (.var 7))), (.z (.int .i64 (.var 8))), (.z (.int .i64 (.var 9))), (.z (.int .i64 (.var 10))), (.z (.int .i64 (.var 11))), (.z (.ext partK (.var 12) false))])), (1, (.cells 31 [(.z (.int .i64 (.var 2))), (.z (.int .i64 (.var 3))), (.z (.int .i64 (.var 4))), (.z (.bool (.var 5))), (.z (.int .i64 (.var 6))), (.z (.int .i64 (.var 7))), (.z (.int .i64 (.var 8))), (.z (.int .i64 (.var 9))), (.z (.int .i64 (.var 10))), (.z (.int .i64 (.var 11))), (.z (.ext partK (.var 12) false))])), (0, (.cells 26 [(.z (.int .i64 (.var 0))), (.z (.ext letK (.var 1) false))]))], 33, []⟩)]
def trLawRep_j : List (FuncId × Nat × Nat × St) := [
]
set_option maxRecDepth 100000 in
theorem trLawRep_is : T.norm 0 (call Tryz.prog (ctX1 Tryz.prog) ⟨Lt.un (Lt.of []), trLawRep_h, trLawRep_j⟩ 200 6 (symArgs 0 [boxS, letS]) [] 0) TT.ret = trLawRep := by kernel_rfl
theorem trLawRep_low : trLawRep.low 1000 = true := by kernel_rfl
end Go.Proofs.YtbbjlleaofgddaaGreat
/- Chapter 42: the law Repeated. -/
namespace Go.Proofs.YtbbjlleaofgddaaGreat
open Go.RowKit
theorem Q5b191 (W : World) (ds l : List D) : (envOf Q5 W ds).fb 191 l = carL l := by simp only [envOf, Q5, Q4, Q3, Q2]
theorem Q5b203 (W : World) (ds l : List D) : (envOf Q5 W ds).fb 203 l = risSL l := by simp only [envOf, Q5, Q4, Q3]
theorem Q5b204 (W : World) (ds l : List D) : (envOf Q5 W ds).fb 204 l = isSL l := by simp only [envOf, Q5, Q4, Q3]
theorem Q5b211 (W : World) (ds l : List D) : (envOf Q5 W ds).fb 211 l = inL l := by simp only [envOf, Q5, Q4]
theorem Q5i200 (W : World) (ds l : List D) : (envOf Q5 W ds).fi 200 l = lowSL l := by simp only [envOf, Q5, Q4, Q3]
theorem in_two (g : Int) (r : Rows) : inL [.i g, .l r] = inB g r := rfl
theorem is_two (r : Rows) (n : Int) : isSL [.l r, .i n] = isS r n := rfl
theorem low_two (r : Rows) (n : Int) : lowSL [.l r, .i n] = lowS r n := rfl
theorem ris_one (r : Rows) : risSL [.l r] = risS r := rfl
theorem car_row (x : List D) : carL (letArgs x) = carR x := rfl
theorem ours_ins {r : Rows} {f t g q : Int} {L : List D} (h : oursB r f t = true) (hL : carR L = true) (hf : cI L 0 = f) (ht : cI L 1 = t) : oursB (insR g r q L) f t = true := by
  unfold insR
  split
  · unfold oursB at *
    rw [List.all_eq_true] at *
    intro x hx
    rw [List.mem_append, List.mem_append, List.mem_singleton] at hx
    rcases hx with hx | hx | hx
    · exact h x (List.mem_of_mem_take hx)
    · subst hx
      rw [hL, decide_eq_true ⟨hf, ht⟩]; rfl
    · exact h x (List.mem_of_mem_drop hx)
  · exact h
theorem ns14 (a0 a1 a2 a3 a4 a5 : Int) (a6 : Rows) (b0 b1 b2 b3 b4 b5 : Int) (b6 : Rows) : nsL [.i a0, .i a1, .i a2, .i a3, .i a4, .i a5, .l a6, .i b0, .i b1, .i b2, .i b3, .i b4, .i b5, .l b6] = true ↔ [D.i a0, .i a1, .i a2, .i a3, .i a4, .i a5, .l a6] = [.i b0, .i b1, .i b2, .i b3, .i b4, .i b5, .l b6] := by
  have e : nsL [.i a0, .i a1, .i a2, .i a3, .i a4, .i a5, .l a6, .i b0, .i b1, .i b2, .i b3, .i b4, .i b5, .l b6] = (decide (a0 = b0 ∧ a1 = b1 ∧ a2 = b2 ∧ a3 = b3 ∧ a4 = b4 ∧ a5 = b5) && rowsEqb a6 b6) := rfl
  rw [e]
  simp only [Bool.and_eq_true, decide_eq_true_eq, eqb_iff, List.cons.injEq, D.i.injEq, D.l.injEq, and_true]
  constructor
  · rintro ⟨⟨a, b, c, d, e, f⟩, g⟩; exact ⟨a, b, c, d, e, f, g⟩
  · rintro ⟨a, b, c, d, e, f, g⟩; exact ⟨⟨a, b, c, d, e, f⟩, g⟩
theorem ntR_at {r : Rows} {i : Nat} (hi : i < r.length) : ntR r[i] = [.i (lg r i 4), .i (lg r i 5), .i (lg r i 6), .i (lg r i 7), .i (lg r i 8), .i (lg r i 9), .l (lr r i 10)] := by
  simp only [ntR, lg_cI hi, lr_cR hi]
theorem low_at {g : Int} {r : Rows} (h : Win g r) {q : Int} {i : Nat} (hi : i < r.length) (e : lg r i 2 = q) : i = lowS r q :=
  low_uniq2 (by omega) (fun k hk => by have := h.up k i hk hi; omega) (fun _ => by omega)
def Agr (r : Rows) (q : Int) (L : List D) : Prop := ∀ x ∈ r, cI x 2 = q → ntR x = ntR L
theorem agr_at {r : Rows} {q : Int} {L : List D} (h : ∀ (i : Nat) (hi : i < r.length), lg r i 2 = q → ntR r[i] = ntR L) : Agr r q L := fun x hx e => by
  obtain ⟨i, hi, rfl⟩ := List.getElem_of_mem hx
  exact h i hi (by rw [lg_cI hi]; exact e)
theorem agr_ins {g q : Int} {r : Rows} {L : List D} (h : Agr r q L) : Agr (insR g r q L) q L := by
  unfold insR
  split
  · intro x hx e
    rw [List.mem_append, List.mem_append, List.mem_singleton] at hx
    rcases hx with hx | hx | hx
    · exact h x (List.mem_of_mem_take hx) e
    · rw [hx]
    · exact h x (List.mem_of_mem_drop hx) e
  · exact h
theorem agr_drop {q : Int} {r : Rows} {L : List D} (h : Agr r q L) (k : Nat) : Agr (r.drop k) q L := fun x hx => h x (List.mem_of_mem_drop hx)
theorem ours_num {r : Rows} {f t : Int} (h : oursB r f t = true) {i : Nat} (hi : i < r.length) : 0 ≤ lg r i 2 ∧ lg r i 2 < 1000 := by
  unfold oursB at h
  rw [List.all_eq_true] at h
  have := h _ (List.getElem_mem hi)
  unfold carR carB at this
  simp only [Bool.and_eq_true, decide_eq_true_eq] at this
  rw [lg_cI hi]
  exact this.1.1.2.2
theorem ins_at {g q : Int} {r : Rows} {L : List D} (hp : putB g r q = true) (hq : cI L 2 = q) : lowS r q < (insR g r q L).length ∧ lg (insR g r q L) (lowS r q : Nat) 2 = q := by
  obtain ⟨a, _, _⟩ := lowS_spec r q
  unfold insR
  rw [if_pos hp, ins_len a, ins_lg a, if_neg (by omega), if_pos rfl]
  exact ⟨by omega, hq⟩
theorem put_once {g q : Int} {r : Rows} {L : List D} (hw : Win (g + 1) r) (h4 : ∀ i : Nat, i < r.length → lg r i 2 < g + 4) (hq : cI L 2 = q) : putB (g + (runE (insR g r q L) g : Nat)) ((insR g r q L).drop (runE (insR g r q L) g)) q = false := by
  have hE := ins_win hw h4 hq
  obtain ⟨hD, hD4⟩ := drop_win hE
  cases hp : putB g r q with
  | false =>
    have e : insR g r q L = r := by unfold insR; rw [hp, if_neg (by decide)]
    rw [e, run_zero hw, List.drop_zero]
    simpa using hp
  | true =>
    obtain ⟨a, b⟩ := ins_at (L := L) hp hq
    obtain ⟨c1, c2, c3⟩ := run_spec (insR g r q L) g
    generalize insR g r q L = e at *
    rcases Nat.lt_or_ge (lowS r q) (runE e g) with h | h
    · have := c2 _ h
      unfold putB
      rw [decide_eq_false (by omega), Bool.and_false]
    · have : isS (e.drop (runE e g)) q = true := (isS_iff (win_ris hD)).2 ⟨lowS r q - runE e g, by rw [List.length_drop]; omega, by rw [lg_drop, show runE e g + (lowS r q - runE e g) = lowS r q by omega]; exact b⟩
      unfold putB
      rw [this]; rfl
theorem in_next {g q f t : Int} {r : Rows} {L : List D} (hin : inB g r = true) (hour : oursB r f t = true) (hcar : carR L = true) (hf : cI L 0 = f) (ht : cI L 1 = t) (hq : cI L 2 = q) : inB (g + (runE (insR g r q L) g : Nat)) ((insR g r q L).drop (runE (insR g r q L) g)) = true := by
  obtain ⟨hg, halk, hw, h4⟩ := in_iff.1 hin
  have hE := ins_win hw h4 hq
  have ho := ours_ins (g := g) (q := q) hour hcar hf ht
  obtain ⟨hD, hD4⟩ := drop_win hE
  obtain ⟨c1, c2, c3⟩ := run_spec (insR g r q L) g
  refine in_iff.2 ⟨⟨by omega, ?_⟩, alk_of (ours_drop ho _), hD, hD4⟩
  rcases Nat.eq_zero_or_pos (runE (insR g r q L) g) with e | e
  · omega
  · have a := c2 (runE (insR g r q L) g - 1) (by omega)
    have b := ours_num ho (i := runE (insR g r q L) g - 1) (by omega)
    omega
theorem le_self (a b c : Int) : leL [.i a, .i b, .i c, .b true, .i 0, .i 0, .i 0, .i 0, .i 0, .i 0, .l [], .i a, .i b, .i c, .b true, .i 0, .i 0, .i 0, .i 0, .i 0, .i 0, .l []] = true := by
  have w : letWf [.i a, .i b, .i c, .b true, .i 0, .i 0, .i 0, .i 0, .i 0, .i 0, .l []] := ⟨rfl, Nat.zero_le _, fun _ h => by cases h⟩
  exact (le_eq w w).2 rfl
theorem subR_zero (r : Rows) (k : Nat) : subR r 0 (k : Int) = r.take k := by simp [subR]
theorem sub_back {i n : Nat} (h : i ≤ n) : (i : Int) + ((n - i : Nat) : Int) = (n : Nat) := by omega
theorem meas_next {i n : Nat} (h : i < n) : n - ((i : Int) + 1).toNat < n - i := by omega
theorem map_take {e : Rows} {i : Nat} (hi : i < e.length) : (e.take (i + 1)).map ntR = (e.take i).map ntR ++ [[.i (lg e i 4), .i (lg e i 5), .i (lg e i 6), .i (lg e i 7), .i (lg e i 8), .i (lg e i 9), .l (lr e i 10)]] := by
  rw [← ntR_at hi, List.take_succ_eq_append_getElem hi, List.map_append]; rfl
set_option maxHeartbeats 2000000 in
theorem gRepLaw : Gives Tryz.prog 6 [boxS, letS] (fun _ => .bool true) := by
  refine GivesIf.all (fn_gives Q5 (by kernel_rfl) (fun ρ h => ctX1_ok (Sees.of h 230)) (by kernel_rfl) trLawRep_is trLawRep_low (by decide) (fun W vals ds hr _ => ?_))
  have hwf := rep_args hr
  have hlen := (rAt_wf hwf (j := 1) rfl).1
  simp only [trLawRep, TT.sat_ret, TT.sat_ite, TT.sat_ob, TT.sat_next, TT.sat_stuck, put_i, put_b, put_d, put_fi, put_fb, put_fd, Ob.ok, B.ev, E.ev, X.ev, AL.ev, cmp_t, cmp_f, arEv, V.plain, V2.plain, S.plain, S0.plain, V.val, V2.val, S.val, S0.val, bV, iV, List.all_cons, List.all_nil, Bool.and_true, Bool.and_self, envOf_i, envOf_b, envOf_d, List.map_cons, List.map_nil, true_and, Bool.not_eq_true', Bool.not_eq_false', Bool.not_not, Bool.and_eq_true, and_f, cell_lg, cell_lb, cell_lr, cmpP, val_i, val_b, val_d, aget, Nat.reduceBEq, beq_self_eq_true, Bool.false_eq_true, if_true, if_false, Nat.reduceLT, Nat.reduceSub, Nat.sub_self, Nat.lt_irrefl]
  clear hr hwf
  have eL : [D.i (iAt ds 2), D.i (iAt ds 3), D.i (iAt ds 4), D.b (bAt ds 5), D.i (iAt ds 6), D.i (iAt ds 7), D.i (iAt ds 8), D.i (iAt ds 9), D.i (iAt ds 10), D.i (iAt ds 11), D.l (rAt ds 12)] = aOf ds 2 := rfl
  have eN : ntR (aOf ds 2) = [D.i (iAt ds 6), D.i (iAt ds 7), D.i (iAt ds 8), D.i (iAt ds 9), D.i (iAt ds 10), D.i (iAt ds 11), D.l (rAt ds 12)] := rfl
  have l0 : cI (aOf ds 2) 0 = iAt ds 2 := rfl
  have l1 : cI (aOf ds 2) 1 = iAt ds 3 := rfl
  have l2 : cI (aOf ds 2) 2 = iAt ds 4 := rfl
  have eC : carL (aOf ds 2) = carR (aOf ds 2) := rfl
  generalize aOf ds 2 = L at *
  generalize e2 : iAt ds 2 = f at *
  generalize e3 : iAt ds 3 = t at *
  generalize e4 : iAt ds 4 = q at *
  generalize e0 : iAt ds 0 = g at *
  generalize er : rAt ds 1 = r at *
  refine ⟨fun _ => trivial, fun _ => ⟨fun _ => trivial, fun h8 => ⟨fun _ => trivial, fun _ => ?_⟩⟩⟩
  refine TT.sat_join (fun u => u.b 4 = false → inB g r = true ∧ carR L = true ∧ oursB r f t = true) (fun u hu => ?_) (fun u hu hU => ?_)
  · simp only [TT.sat_ret, TT.sat_ite, TT.sat_ob, TT.sat_next, TT.sat_stuck, put_i, put_b, put_d, put_fi, put_fb, put_fd, Ob.ok, B.ev, E.ev, X.ev, AL.ev, cmp_t, cmp_f, arEv, V.plain, V2.plain, S.plain, S0.plain, V.val, V2.val, S.val, S0.val, bV, iV, List.all_cons, List.all_nil, Bool.and_true, Bool.and_self, envOf_i, envOf_b, envOf_d, List.map_cons, List.map_nil, true_and, Bool.not_eq_true', Bool.not_eq_false', Bool.not_not, Bool.and_eq_true, and_f, cell_lg, cell_lb, cell_lr, cmpP, val_i, val_b, val_d, aget, Nat.reduceBEq, beq_self_eq_true, Bool.false_eq_true, if_true, if_false, Nat.reduceLT, Nat.reduceSub, Nat.sub_self, Nat.lt_irrefl, hu, Q5b211, Q5b191, Q5b201, in_two, ours_three, er, e0, e2, e3, e4, eL, eC]
    exact ⟨fun _ h => (by cases h), fun o => ⟨fun _ h => (by cases h), fun a h => ⟨o, a, h⟩⟩⟩
  simp only [TT.sat_ret, TT.sat_ite, TT.sat_ob, TT.sat_next, TT.sat_stuck, put_i, put_b, put_d, put_fi, put_fb, put_fd, Ob.ok, B.ev, E.ev, X.ev, AL.ev, cmp_t, cmp_f, arEv, V.plain, V2.plain, S.plain, S0.plain, V.val, V2.val, S.val, S0.val, bV, iV, List.all_cons, List.all_nil, Bool.and_true, Bool.and_self, envOf_i, envOf_b, envOf_d, List.map_cons, List.map_nil, true_and, Bool.not_eq_true', Bool.not_eq_false', Bool.not_not, Bool.and_eq_true, and_f, cell_lg, cell_lb, cell_lr, cmpP, val_i, val_b, val_d, aget, Nat.reduceBEq, beq_self_eq_true, Bool.false_eq_true, if_true, if_false, Nat.reduceLT, Nat.reduceSub, Nat.sub_self, Nat.lt_irrefl, hu, er, Q5b203, ris_one]
  refine ⟨fun _ => trivial, fun h => ?_⟩
  obtain ⟨hin, hcar, hour⟩ := hU h
  obtain ⟨hg, halk, hwin, h4⟩ := in_iff.1 hin
  have hris := win_ris hwin
  refine ⟨hris, ?_⟩
  clear hU h
  have hlow := lowS_spec r q
  have hlow := lowS_spec r q
  refine TT.sat_join (fun v => v.b 2 = false → Agr r q L) (fun v hv => ?_) (fun v hv hV => ?_)
  · simp only [TT.sat_ret, TT.sat_ite, TT.sat_ob, TT.sat_next, TT.sat_stuck, put_i, put_b, put_d, put_fi, put_fb, put_fd, Ob.ok, B.ev, E.ev, X.ev, AL.ev, cmp_t, cmp_f, arEv, V.plain, V2.plain, S.plain, S0.plain, V.val, V2.val, S.val, S0.val, bV, iV, List.all_cons, List.all_nil, Bool.and_true, Bool.and_self, envOf_i, envOf_b, envOf_d, List.map_cons, List.map_nil, true_and, Bool.not_eq_true', Bool.not_eq_false', Bool.not_not, Bool.and_eq_true, and_f, cell_lg, cell_lb, cell_lr, cmpP, val_i, val_b, val_d, aget, Nat.reduceBEq, beq_self_eq_true, Bool.false_eq_true, if_true, if_false, Nat.reduceLT, Nat.reduceSub, Nat.sub_self, Nat.lt_irrefl, hu, hv, er, e4, Q5b204, Q5i200, Q5b190, is_two, low_two]
    refine ⟨fun h => ?_, fun h _ => agr_at fun i hi e => ?_⟩
    · unfold isS at h
      rw [decide_eq_true_eq] at h
      refine ⟨by omega, by omega, fun hn => agr_at fun i hi e => ?_⟩
      obtain rfl := low_at hwin hi e
      rw [ntR_at hi, eN]
      exact (ns14 _ _ _ _ _ _ _ _ _ _ _ _ _ _).1 hn
    · rw [(isS_iff hris).2 ⟨i, hi, e⟩] at h; cases h
  simp only [TT.sat_ret, TT.sat_ite, TT.sat_ob, TT.sat_next, TT.sat_stuck, put_i, put_b, put_d, put_fi, put_fb, put_fd, Ob.ok, B.ev, E.ev, X.ev, AL.ev, cmp_t, cmp_f, arEv, V.plain, V2.plain, S.plain, S0.plain, V.val, V2.val, S.val, S0.val, bV, iV, List.all_cons, List.all_nil, Bool.and_true, Bool.and_self, envOf_i, envOf_b, envOf_d, List.map_cons, List.map_nil, true_and, Bool.not_eq_true', Bool.not_eq_false', Bool.not_not, Bool.and_eq_true, and_f, cell_lg, cell_lb, cell_lr, cmpP, val_i, val_b, val_d, aget, Nat.reduceBEq, beq_self_eq_true, Bool.false_eq_true, if_true, if_false, Nat.reduceLT, Nat.reduceSub, Nat.sub_self, Nat.lt_irrefl, hv, er]
  refine ⟨fun _ => trivial, fun h => ⟨by omega, ?_⟩⟩
  have hagr := hV h
  clear hV h
  refine TT.sat_join (fun w => w.b 2 = putB g r q) (fun w hw => ?_) (fun w hw hW => ?_)
  · simp only [TT.sat_ret, TT.sat_ite, TT.sat_ob, TT.sat_next, TT.sat_stuck, put_i, put_b, put_d, put_fi, put_fb, put_fd, Ob.ok, B.ev, E.ev, X.ev, AL.ev, cmp_t, cmp_f, arEv, V.plain, V2.plain, S.plain, S0.plain, V.val, V2.val, S.val, S0.val, bV, iV, List.all_cons, List.all_nil, Bool.and_true, Bool.and_self, envOf_i, envOf_b, envOf_d, List.map_cons, List.map_nil, true_and, Bool.not_eq_true', Bool.not_eq_false', Bool.not_not, Bool.and_eq_true, and_f, cell_lg, cell_lb, cell_lr, cmpP, val_i, val_b, val_d, aget, Nat.reduceBEq, beq_self_eq_true, Bool.false_eq_true, if_true, if_false, Nat.reduceLT, Nat.reduceSub, Nat.sub_self, Nat.lt_irrefl, hw, er, e4, e0, Q5b204, is_two, wrap_in (g + 4) (by omega) (by omega)]
    have lss : ∀ a b : Int, cmpEv .lss a b = decide (a < b) := fun _ _ => rfl
    refine ⟨fun h => ⟨fun a => ?_, fun a => ?_⟩, fun h => ?_⟩
    · rw [putB, h, lss]
      simp only [Bool.not_false, Bool.true_and]
      exact decide_eq_decide.2 ⟨fun b => ⟨a, b⟩, fun b => b.2⟩
    · rw [putB, decide_eq_false (fun b => a b.1), Bool.and_false]
    · rw [putB, h]; rfl
  refine TT.sat_join (fun x => x.d 2 = insR g r q L) (fun x hx => ?_) (fun x hx hX => ?_)
  · simp only [TT.sat_ret, TT.sat_ite, TT.sat_ob, TT.sat_next, TT.sat_stuck, put_i, put_b, put_d, put_fi, put_fb, put_fd, Ob.ok, B.ev, E.ev, X.ev, AL.ev, cmp_t, cmp_f, arEv, V.plain, V2.plain, S.plain, S0.plain, V.val, V2.val, S.val, S0.val, bV, iV, List.all_cons, List.all_nil, Bool.and_true, Bool.and_self, envOf_i, envOf_b, envOf_d, List.map_cons, List.map_nil, true_and, Bool.not_eq_true', Bool.not_eq_false', Bool.not_not, Bool.and_eq_true, and_f, cell_lg, cell_lb, cell_lr, cmpP, val_i, val_b, val_d, aget, Nat.reduceBEq, beq_self_eq_true, Bool.false_eq_true, if_true, if_false, Nat.reduceLT, Nat.reduceSub, Nat.sub_self, Nat.lt_irrefl, hx, hW, er, e2, e3, e4, eL, Q5i200, low_two, X.ev, subR_end, subR_zero, List.append_nil, Int.toNat_natCast]
    refine ⟨fun h => ⟨by omega, by omega, by omega, ?_⟩, fun h => ?_⟩
    · unfold insR; rw [if_pos h, List.append_assoc]
    · unfold insR; rw [h, if_neg (by decide)]
  have hE := ins_win hwin h4 (l := L) l2
  have hO2 := put_once hwin h4 l2
  have hI2 := in_next hin hour hcar l0 l1 l2
  have hA2 := agr_ins (g := g) hagr
  have hEo := ours_ins (g := g) (q := q) hour hcar l0 l1
  have hEl := win_len hE
  obtain ⟨m1, m2, m3⟩ := run_spec (insR g r q L) g
  generalize eE : insR g r q L = e at *
  refine TT.sat_join (fun y => y.i 1 = (runE e g : Nat) ∧ y.i 2 = (e.length : Nat) ∧ y.i 4 = g + (runE e g : Nat) ∧ y.d 15 = (e.take (runE e g)).map ntR) (fun y hy => ?_) (fun y hy hY => ?_)
  · refine TT.sat_loop (fun z => ∃ i : Nat, z.i 0 = i ∧ i ≤ e.length ∧ z.i 1 = (e.length : Nat) ∧ z.i 4 = g + i ∧ z.d 3 = (e.take i).map ntR ∧ ∀ k : Nat, k < i → lg e k 2 = g + k) (fun z => e.length - (z.i 0).toNat)
      ⟨0, by simp [val_i, aget, E.ev], by omega, by simp [val_i, aget, E.ev, X.ev, hX, put_d], ?_, by simp [val_d, aget, X.ev], fun k hk => by omega⟩ (fun z hz => ?_)
    · simp only [TT.sat_ret, TT.sat_ite, TT.sat_ob, TT.sat_next, TT.sat_stuck, put_i, put_b, put_d, put_fi, put_fb, put_fd, Ob.ok, B.ev, E.ev, X.ev, AL.ev, cmp_t, cmp_f, arEv, V.plain, V2.plain, S.plain, S0.plain, V.val, V2.val, S.val, S0.val, bV, iV, List.all_cons, List.all_nil, Bool.and_true, Bool.and_self, envOf_i, envOf_b, envOf_d, List.map_cons, List.map_nil, true_and, Bool.not_eq_true', Bool.not_eq_false', Bool.not_not, Bool.and_eq_true, and_f, cell_lg, cell_lb, cell_lr, cmpP, val_i, val_b, val_d, aget, Nat.reduceBEq, beq_self_eq_true, Bool.false_eq_true, if_true, if_false, Nat.reduceLT, Nat.reduceSub, Nat.sub_self, Nat.lt_irrefl, e0]; omega
    obtain ⟨i, i0, i1, i2, i3, i4, i5⟩ := hz
    simp only [TT.sat_ret, TT.sat_ite, TT.sat_ob, TT.sat_next, TT.sat_stuck, put_i, put_b, put_d, put_fi, put_fb, put_fd, Ob.ok, B.ev, E.ev, X.ev, AL.ev, cmp_t, cmp_f, arEv, V.plain, V2.plain, S.plain, S0.plain, V.val, V2.val, S.val, S0.val, bV, iV, List.all_cons, List.all_nil, Bool.and_true, Bool.and_self, envOf_i, envOf_b, envOf_d, List.map_cons, List.map_nil, true_and, Bool.not_eq_true', Bool.not_eq_false', Bool.not_not, Bool.and_eq_true, and_f, cell_lg, cell_lb, cell_lr, cmpP, val_i, val_b, val_d, aget, Nat.reduceBEq, beq_self_eq_true, Bool.false_eq_true, if_true, if_false, Nat.reduceLT, Nat.reduceSub, Nat.sub_self, Nat.lt_irrefl, hX, i0, i2, i3, i4, X.ev, subR_end]
    rw [if_neg (by decide), Int.toNat_natCast]
    have done : (i < e.length → lg e i 2 ≠ g + i) → (i : Int) = (runE e g : Nat) ∧ g + (i : Int) = g + (runE e g : Nat) ∧ (e.take i).map ntR = (e.take (runE e g)).map ntR := fun h => by
      rw [← run_uniq i1 i5 h]; exact ⟨rfl, rfl, rfl⟩
    refine ⟨fun hc => ⟨hc, fun hq => ?_, fun hq => done (fun _ => hq)⟩, fun hc => done (fun h => by rw [List.length_drop] at hc; omega)⟩
    have hdl : (e.drop i).length = e.length - i := List.length_drop
    rw [hdl] at hc ⊢
    have hi : i < e.length := by omega
    rw [wrap_in (g + (i : Int) + 1) (by omega) (by omega)]
    refine ⟨by omega, ?_, by omega, ⟨i + 1, ?_, by omega, ?_, by omega, ?_, fun k hk => ?_⟩, ?_⟩
    · simp only [List.length_append, List.length_map, List.length_take, List.length_cons, List.length_nil]; omega
    · exact Int.natCast_succ i
    · exact sub_back i1
    · rw [map_take hi, List.append_nil]
    · by_cases ek : k = i
      · subst ek; exact hq
      · exact i5 k (by omega)
    · exact meas_next hi
  obtain ⟨y1, y2, y4, y5⟩ := hY
  have hD := drop_win hE
  have hm1 : (((runE e g : Nat) : Int)).toNat = runE e g := Int.toNat_natCast _
  obtain ⟨hG, _, hW', h4'⟩ := in_iff.1 hI2
  have hA3 := agr_drop hA2 (runE e g)
  have hO3 := ours_drop hEo (runE e g)
  have hlow' := lowS_spec (e.drop (runE e g)) q
  have hins : insR (g + (runE e g : Nat)) (e.drop (runE e g)) q L = e.drop (runE e g) := by unfold insR; rw [hO2, if_neg (by decide)]
  have hr0 := run_zero hW'
  have hdl : (e.drop (runE e g)).length ≤ 4 := by rw [List.length_drop]; omega
  have lgd : ∀ (i : Nat) j, lg e ((runE e g : Nat) + (i : Int)) j = lg (e.drop (runE e g)) i j := fun i j => by rw [lg_drop, Int.natCast_add]
  have lrd : ∀ (i : Nat) j, lr e ((runE e g : Nat) + (i : Int)) j = lr (e.drop (runE e g)) i j := fun i j => by
    unfold lr cellAt
    rw [← Int.natCast_add, Int.toNat_natCast, Int.toNat_natCast, List.getElem?_drop]
  refine TT.sat_join (fun z => z.b 4 = false) (fun z hz => ?_) (fun z hz hZ => ?_)
  · simp only [TT.sat_ret, TT.sat_ite, TT.sat_ob, TT.sat_next, TT.sat_stuck, put_i, put_b, put_d, put_fi, put_fb, put_fd, Ob.ok, B.ev, E.ev, X.ev, AL.ev, cmp_t, cmp_f, arEv, V.plain, V2.plain, S.plain, S0.plain, V.val, V2.val, S.val, S0.val, bV, iV, List.all_cons, List.all_nil, Bool.and_true, Bool.and_self, envOf_i, envOf_b, envOf_d, List.map_cons, List.map_nil, true_and, Bool.not_eq_true', Bool.not_eq_false', Bool.not_not, Bool.and_eq_true, and_f, cell_lg, cell_lb, cell_lr, cmpP, val_i, val_b, val_d, aget, Nat.reduceBEq, beq_self_eq_true, Bool.false_eq_true, if_true, if_false, Nat.reduceLT, Nat.reduceSub, Nat.sub_self, Nat.lt_irrefl, hz, Q5b211, Q5b191, Q5b201, in_two, ours_three, er, e0, e2, e3, e4, eL, eC, hX, y1, y2, y4, subR_end, hm1, hI2, hcar, hO3]
    exact ⟨fun h => (by cases h), fun _ => ⟨fun h => (by cases h), fun _ => trivial⟩⟩
  simp only [TT.sat_ret, TT.sat_ite, TT.sat_ob, TT.sat_next, TT.sat_stuck, put_i, put_b, put_d, put_fi, put_fb, put_fd, Ob.ok, B.ev, E.ev, X.ev, AL.ev, cmp_t, cmp_f, arEv, V.plain, V2.plain, S.plain, S0.plain, V.val, V2.val, S.val, S0.val, bV, iV, List.all_cons, List.all_nil, Bool.and_true, Bool.and_self, envOf_i, envOf_b, envOf_d, List.map_cons, List.map_nil, true_and, Bool.not_eq_true', Bool.not_eq_false', Bool.not_not, Bool.and_eq_true, and_f, cell_lg, cell_lb, cell_lr, cmpP, val_i, val_b, val_d, aget, Nat.reduceBEq, beq_self_eq_true, Bool.false_eq_true, if_true, if_false, Nat.reduceLT, Nat.reduceSub, Nat.sub_self, Nat.lt_irrefl, hz, hZ, hX, y1, y2, y4, subR_end, hm1, Q5b203, ris_one, win_ris hW']
  refine ⟨fun h => (by cases h), fun _ => ?_⟩
  refine TT.sat_join (fun z => z.b 2 = false) (fun z hz => ?_) (fun z hz hZ => ?_)
  · simp only [TT.sat_ret, TT.sat_ite, TT.sat_ob, TT.sat_next, TT.sat_stuck, put_i, put_b, put_d, put_fi, put_fb, put_fd, Ob.ok, B.ev, E.ev, X.ev, AL.ev, cmp_t, cmp_f, arEv, V.plain, V2.plain, S.plain, S0.plain, V.val, V2.val, S.val, S0.val, bV, iV, List.all_cons, List.all_nil, Bool.and_true, Bool.and_self, envOf_i, envOf_b, envOf_d, List.map_cons, List.map_nil, true_and, Bool.not_eq_true', Bool.not_eq_false', Bool.not_not, Bool.and_eq_true, and_f, cell_lg, cell_lb, cell_lr, cmpP, val_i, val_b, val_d, aget, Nat.reduceBEq, beq_self_eq_true, Bool.false_eq_true, if_true, if_false, Nat.reduceLT, Nat.reduceSub, Nat.sub_self, Nat.lt_irrefl, hz, e4, hX, y1, y2, y4, subR_end, hm1, Q5b204, Q5i200, Q5b190, is_two, low_two, lgd, lrd]
    refine ⟨fun h => ?_, fun _ => trivial⟩
    unfold isS at h
    rw [decide_eq_true_eq] at h
    refine ⟨by omega, by omega, ?_⟩
    have hx := hA3 _ (List.getElem_mem h.1) (by rw [← lg_cI h.1]; exact h.2)
    rw [ntR_at h.1, eN] at hx
    exact (ns14 _ _ _ _ _ _ _ _ _ _ _ _ _ _).2 hx
  simp only [TT.sat_ret, TT.sat_ite, TT.sat_ob, TT.sat_next, TT.sat_stuck, put_i, put_b, put_d, put_fi, put_fb, put_fd, Ob.ok, B.ev, E.ev, X.ev, AL.ev, cmp_t, cmp_f, arEv, V.plain, V2.plain, S.plain, S0.plain, V.val, V2.val, S.val, S0.val, bV, iV, List.all_cons, List.all_nil, Bool.and_true, Bool.and_self, envOf_i, envOf_b, envOf_d, List.map_cons, List.map_nil, true_and, Bool.not_eq_true', Bool.not_eq_false', Bool.not_not, Bool.and_eq_true, and_f, cell_lg, cell_lb, cell_lr, cmpP, val_i, val_b, val_d, aget, Nat.reduceBEq, beq_self_eq_true, Bool.false_eq_true, if_true, if_false, Nat.reduceLT, Nat.reduceSub, Nat.sub_self, Nat.lt_irrefl, hz, hZ, hX, y1, y2, y4, subR_end, hm1]
  refine ⟨fun h => (by cases h), fun _ => ⟨by omega, ?_⟩⟩
  refine TT.sat_join (fun z => z.b 2 = false) (fun z hz => ?_) (fun z hz hZ => ?_)
  · simp only [TT.sat_ret, TT.sat_ite, TT.sat_ob, TT.sat_next, TT.sat_stuck, put_i, put_b, put_d, put_fi, put_fb, put_fd, Ob.ok, B.ev, E.ev, X.ev, AL.ev, cmp_t, cmp_f, arEv, V.plain, V2.plain, S.plain, S0.plain, V.val, V2.val, S.val, S0.val, bV, iV, List.all_cons, List.all_nil, Bool.and_true, Bool.and_self, envOf_i, envOf_b, envOf_d, List.map_cons, List.map_nil, true_and, Bool.not_eq_true', Bool.not_eq_false', Bool.not_not, Bool.and_eq_true, and_f, cell_lg, cell_lb, cell_lr, cmpP, val_i, val_b, val_d, aget, Nat.reduceBEq, beq_self_eq_true, Bool.false_eq_true, if_true, if_false, Nat.reduceLT, Nat.reduceSub, Nat.sub_self, Nat.lt_irrefl, hz, e4, hX, y1, y2, y4, subR_end, hm1, Q5b204, is_two, wrap_in (g + (runE e g : Nat) + 4) (by omega) (by omega)]
    have lss : ∀ a b : Int, cmpEv .lss a b = decide (a < b) := fun _ _ => rfl
    unfold putB at hO2
    refine ⟨fun h => ⟨fun a => ?_, fun _ => trivial⟩, fun _ => trivial⟩
    rw [h] at hO2
    simp only [Bool.not_false, Bool.true_and, decide_eq_false_iff_not] at hO2
    exact fun b => hO2 ⟨a, b⟩
  refine TT.sat_join (fun x => x.d 2 = e.drop (runE e g)) (fun x hx => ?_) (fun x hx hX2 => ?_)
  · simp only [TT.sat_ret, TT.sat_ite, TT.sat_ob, TT.sat_next, TT.sat_stuck, put_i, put_b, put_d, put_fi, put_fb, put_fd, Ob.ok, B.ev, E.ev, X.ev, AL.ev, cmp_t, cmp_f, arEv, V.plain, V2.plain, S.plain, S0.plain, V.val, V2.val, S.val, S0.val, bV, iV, List.all_cons, List.all_nil, Bool.and_true, Bool.and_self, envOf_i, envOf_b, envOf_d, List.map_cons, List.map_nil, true_and, Bool.not_eq_true', Bool.not_eq_false', Bool.not_not, Bool.and_eq_true, and_f, cell_lg, cell_lb, cell_lr, cmpP, val_i, val_b, val_d, aget, Nat.reduceBEq, beq_self_eq_true, Bool.false_eq_true, if_true, if_false, Nat.reduceLT, Nat.reduceSub, Nat.sub_self, Nat.lt_irrefl, hx, hZ, hX, y1, y2, subR_end, hm1, X.ev]
    exact ⟨fun h => h.elim, fun _ => trivial⟩
  refine TT.sat_join (fun v => v.i 1 = 0 ∧ v.i 2 = ((e.drop (runE e g)).length : Nat) ∧ v.i 4 = g + (runE e g : Nat) ∧ v.d 15 = []) (fun v hv => ?_) (fun v hv hV => ?_)
  · refine TT.sat_loop (fun z => z.i 0 = 0 ∧ z.i 1 = ((e.drop (runE e g)).length : Nat) ∧ z.i 4 = g + (runE e g : Nat) ∧ z.d 3 = []) (fun z => 0) ⟨?_, ?_, ?_, ?_⟩ (fun z hz => ?_)
    · simp only [TT.sat_ret, TT.sat_ite, TT.sat_ob, TT.sat_next, TT.sat_stuck, put_i, put_b, put_d, put_fi, put_fb, put_fd, Ob.ok, B.ev, E.ev, X.ev, AL.ev, cmp_t, cmp_f, arEv, V.plain, V2.plain, S.plain, S0.plain, V.val, V2.val, S.val, S0.val, bV, iV, List.all_cons, List.all_nil, Bool.and_true, Bool.and_self, envOf_i, envOf_b, envOf_d, List.map_cons, List.map_nil, true_and, Bool.not_eq_true', Bool.not_eq_false', Bool.not_not, Bool.and_eq_true, and_f, cell_lg, cell_lb, cell_lr, cmpP, val_i, val_b, val_d, aget, Nat.reduceBEq, beq_self_eq_true, Bool.false_eq_true, if_true, if_false, Nat.reduceLT, Nat.reduceSub, Nat.sub_self, Nat.lt_irrefl]
    · simp only [TT.sat_ret, TT.sat_ite, TT.sat_ob, TT.sat_next, TT.sat_stuck, put_i, put_b, put_d, put_fi, put_fb, put_fd, Ob.ok, B.ev, E.ev, X.ev, AL.ev, cmp_t, cmp_f, arEv, V.plain, V2.plain, S.plain, S0.plain, V.val, V2.val, S.val, S0.val, bV, iV, List.all_cons, List.all_nil, Bool.and_true, Bool.and_self, envOf_i, envOf_b, envOf_d, List.map_cons, List.map_nil, true_and, Bool.not_eq_true', Bool.not_eq_false', Bool.not_not, Bool.and_eq_true, and_f, cell_lg, cell_lb, cell_lr, cmpP, val_i, val_b, val_d, aget, Nat.reduceBEq, beq_self_eq_true, Bool.false_eq_true, if_true, if_false, Nat.reduceLT, Nat.reduceSub, Nat.sub_self, Nat.lt_irrefl, hX2]
    · simp only [TT.sat_ret, TT.sat_ite, TT.sat_ob, TT.sat_next, TT.sat_stuck, put_i, put_b, put_d, put_fi, put_fb, put_fd, Ob.ok, B.ev, E.ev, X.ev, AL.ev, cmp_t, cmp_f, arEv, V.plain, V2.plain, S.plain, S0.plain, V.val, V2.val, S.val, S0.val, bV, iV, List.all_cons, List.all_nil, Bool.and_true, Bool.and_self, envOf_i, envOf_b, envOf_d, List.map_cons, List.map_nil, true_and, Bool.not_eq_true', Bool.not_eq_false', Bool.not_not, Bool.and_eq_true, and_f, cell_lg, cell_lb, cell_lr, cmpP, val_i, val_b, val_d, aget, Nat.reduceBEq, beq_self_eq_true, Bool.false_eq_true, if_true, if_false, Nat.reduceLT, Nat.reduceSub, Nat.sub_self, Nat.lt_irrefl, y4]
    · simp only [TT.sat_ret, TT.sat_ite, TT.sat_ob, TT.sat_next, TT.sat_stuck, put_i, put_b, put_d, put_fi, put_fb, put_fd, Ob.ok, B.ev, E.ev, X.ev, AL.ev, cmp_t, cmp_f, arEv, V.plain, V2.plain, S.plain, S0.plain, V.val, V2.val, S.val, S0.val, bV, iV, List.all_cons, List.all_nil, Bool.and_true, Bool.and_self, envOf_i, envOf_b, envOf_d, List.map_cons, List.map_nil, true_and, Bool.not_eq_true', Bool.not_eq_false', Bool.not_not, Bool.and_eq_true, and_f, cell_lg, cell_lb, cell_lr, cmpP, val_i, val_b, val_d, aget, Nat.reduceBEq, beq_self_eq_true, Bool.false_eq_true, if_true, if_false, Nat.reduceLT, Nat.reduceSub, Nat.sub_self, Nat.lt_irrefl, X.ev, val_d]
    obtain ⟨i0, i1, i2, i3⟩ := hz
    simp only [TT.sat_ret, TT.sat_ite, TT.sat_ob, TT.sat_next, TT.sat_stuck, put_i, put_b, put_d, put_fi, put_fb, put_fd, Ob.ok, B.ev, E.ev, X.ev, AL.ev, cmp_t, cmp_f, arEv, V.plain, V2.plain, S.plain, S0.plain, V.val, V2.val, S.val, S0.val, bV, iV, List.all_cons, List.all_nil, Bool.and_true, Bool.and_self, envOf_i, envOf_b, envOf_d, List.map_cons, List.map_nil, true_and, Bool.not_eq_true', Bool.not_eq_false', Bool.not_not, Bool.and_eq_true, and_f, cell_lg, cell_lb, cell_lr, cmpP, val_i, val_b, val_d, aget, Nat.reduceBEq, beq_self_eq_true, Bool.false_eq_true, if_true, if_false, Nat.reduceLT, Nat.reduceSub, Nat.sub_self, Nat.lt_irrefl, hX2, i0, i1, i2, i3, X.ev, subR_end]
    rw [if_neg (by decide), Int.toNat_zero, List.drop_zero]
    refine ⟨fun hc => ⟨hc, fun hq => absurd hq ?_, fun _ => trivial⟩, fun _ => trivial⟩
    have := hW'.lo 0 (by omega)
    exact fun h => by have h' : lg (e.drop (runE e g)) ((0 : Nat) : Int) 2 = _ := h; omega
  obtain ⟨v1, v2, v4, v5⟩ := hV
  have hgm : IntKind.i64.wrap (g + (((e.take (runE e g)).map ntR).length : Nat)) = g + (runE e g : Nat) := by
    rw [List.length_map, List.length_take, Nat.min_eq_left m1, wrap_in _ (by omega) (by omega)]
  simp only [TT.sat_ret, TT.sat_ite, TT.sat_ob, TT.sat_next, TT.sat_stuck, put_i, put_b, put_d, put_fi, put_fb, put_fd, Ob.ok, B.ev, E.ev, X.ev, AL.ev, cmp_t, cmp_f, arEv, V.plain, V2.plain, S.plain, S0.plain, V.val, V2.val, S.val, S0.val, bV, iV, List.all_cons, List.all_nil, Bool.and_true, Bool.and_self, envOf_i, envOf_b, envOf_d, List.map_cons, List.map_nil, true_and, Bool.not_eq_true', Bool.not_eq_false', Bool.not_not, Bool.and_eq_true, and_f, cell_lg, cell_lb, cell_lr, cmpP, val_i, val_b, val_d, aget, Nat.reduceBEq, beq_self_eq_true, Bool.false_eq_true, if_true, if_false, Nat.reduceLT, Nat.reduceSub, Nat.sub_self, Nat.lt_irrefl, hv, hX, hX2, e0, e2, e3, y1, y2, y4, y5, v1, v2, v4, v5, Q5b224, Q5b221, bx_four, le_self, X.ev, subR_end, hm1, Int.toNat_zero, List.drop_zero, rowsEqb_self, hgm]
  refine ⟨fun _ => ⟨fun _ => ⟨fun _ => ?_, fun h => (by cases h)⟩, fun h => absurd rfl h⟩, fun h => absurd (decide_true (h := inferInstance)) h⟩
  rw [eql_dec, decide_eq_true rfl]
end Go.Proofs.YtbbjlleaofgddaaGreat
