/- The walk of sort.Search at a closure that lays blocks of its own. -/
import Derived.Test.YtfefbckpocbeaaaGreatA
import Derived.Deep.LoopGhost
import Derived.Shelf.Abstract
namespace Go.Proofs.YtfefbckpocbeaaaGreat
open Go.RowKit

def SearchPost (n : Nat) (p : Nat → Bool) (w : World) (e : Ending) (w' : World) : Prop :=
  ∃ r : Nat, e = .returned (.int .i64 r) ∧ r ≤ n ∧ (∀ t, t < r → p t = false) ∧ (∀ t, r ≤ t → t < n → p t = true) ∧ Below w.heap.size w w'

set_option maxHeartbeats 1000000 in
theorem search_any (g : Nat) (cb : Array Value) (n : Nat) (p : Nat → Bool) (w : World) (eg : ∀ args w, (callFunc g args).run Tryz.prog w = .ok (.enter g args) w) (hsz : n < 4611686018427387904)
    (hf : ∀ (w1 : World) (i : Nat), Below w.heap.size w w1 → i < n → Calls Tryz.prog g (#[.int .i64 i] ++ cb) w1 (Ret w1 (.bool (p i))))
    (hmono : ∀ a b, a ≤ b → b < n → p a = true → p b = true) :
    Calls Tryz.prog 42 #[.int .i64 n, .func (.func g) #[] cb] w (SearchPost n p w) := by
  have HF := Lib.hid hf
  have M := Lib.hid hmono
  clear hf hmono
  go_enter Tryz.func42, Tryz.ntmps42
  go_wp2
  go_loopg [5, 6] n (fun kx s5 s6 wr => ∃ (lo hi : Nat), s5 = .int .i64 lo ∧ s6 = .int .i64 hi ∧ lo ≤ hi ∧ hi ≤ n ∧ hi - lo ≤ kx ∧ Below w.heap.size w wr ∧
    Hid ((∀ t, t < lo → p t = false) ∧ (∀ t, hi ≤ t → t < n → p t = true)))
  case atStart => exact ⟨0, n, rfl, rfl, Nat.zero_le _, Nat.le_refl _, by omega, Below.refl _ _, ⟨fun t ht => absurd ht (Nat.not_lt_zero _), fun t h1 h2 => by omega⟩⟩
  case round =>
    obtain ⟨lo, hi, rfl, rfl, hlh, hin, hg, hB, I⟩ := hrel
    by_cases hlt : lo < hi
    · have hc := HF.out wr ((lo + hi) / 2) hB (by omega)
      rw [show (((lo + hi) / 2 : Nat) : Int) = ((lo : Int) + (hi : Int)) / 2 by omega] at hc
      cases hp : p ((lo + hi) / 2) <;> rw [hp] at hc
      · have HP := Lib.hid hp
        clear hp
        go_wp2_with (go_at_fn g; refine hc.mono ?_; rintro e w' ⟨rfl, hb⟩)
        go_roundg (hi - ((lo + hi) / 2 + 1))
        case measure => omega
        case rel =>
          have I2 : Hid ((∀ t, t < (lo + hi) / 2 + 1 → p t = false) ∧ (∀ t, hi ≤ t → t < n → p t = true)) := ⟨fun t ht => (by
            cases h : p t with
            | false => rfl
            | true => have := M.out t ((lo + hi) / 2) (by omega) (by omega) h; rw [HP.out] at this; cases this), I.out.2⟩
          exact ⟨(lo + hi) / 2 + 1, hi, by rw [show ((lo : Int) + (hi : Int)) / 2 + 1 = (((lo + hi) / 2 + 1 : Nat) : Int) by omega], rfl, by omega, hin, Nat.le_refl _, hB.trans (hb.mono hB.size), I2⟩
      · have HP := Lib.hid hp
        clear hp
        go_wp2_with (go_at_fn g; refine hc.mono ?_; rintro e w' ⟨rfl, hb⟩)
        go_roundg ((lo + hi) / 2 - lo)
        case measure => omega
        case rel =>
          have I2 : Hid ((∀ t, t < lo → p t = false) ∧ (∀ t, (lo + hi) / 2 ≤ t → t < n → p t = true)) := ⟨I.out.1, fun t ht htn => M.out ((lo + hi) / 2) t ht htn HP.out⟩
          exact ⟨lo, (lo + hi) / 2, rfl, by rw [show ((lo : Int) + (hi : Int)) / 2 = (((lo + hi) / 2 : Nat) : Int) by omega], by omega, by omega, Nat.le_refl _, hB.trans (hb.mono hB.size), I2⟩
    · obtain rfl : hi = lo := by omega
      go_wp2
      go_ret
      exact ⟨hi, rfl, hin, I.out.1, I.out.2, hB⟩
theorem search_lit (g : Nat) (cb : Array Value) (N : Int) (n : Nat) (hN : N = (n : Int)) (p : Nat → Bool) (w : World) (eg : ∀ args w, (callFunc g args).run Tryz.prog w = .ok (.enter g args) w) (hsz : n < 4611686018427387904)
    (hf : ∀ (w1 : World) (i : Nat), Below w.heap.size w w1 → i < n → Calls Tryz.prog g (#[.int .i64 i] ++ cb) w1 (Ret w1 (.bool (p i))))
    (hmono : ∀ a b, a ≤ b → b < n → p a = true → p b = true) :
    Calls Tryz.prog 42 #[.int .i64 N, .func (.func g) #[] cb] w (SearchPost n p w) := by
  subst hN
  exact search_any g cb n p w eg hsz hf hmono

/-- The same search, as a plain function with fuel. -/
def bsearch (p : Nat → Bool) : Nat → Nat → Nat → Nat
  | 0, lo, _ => lo
  | k + 1, lo, hi => if lo < hi then (if p ((lo + hi) / 2) then bsearch p k lo ((lo + hi) / 2) else bsearch p k ((lo + hi) / 2 + 1) hi) else lo
theorem bsearch_spec (p : Nat → Bool) (n : Nat) (hmono : ∀ a b, a ≤ b → b < n → p a = true → p b = true) (k : Nat) : ∀ lo hi, hi ≤ n → lo ≤ hi → hi - lo < 2 ^ k →
    (∀ t, t < lo → p t = false) → (∀ t, hi ≤ t → t < n → p t = true) →
    bsearch p k lo hi ≤ n ∧ (∀ t, t < bsearch p k lo hi → p t = false) ∧ (∀ t, bsearch p k lo hi ≤ t → t < n → p t = true) := by
  induction k with
  | zero => intro lo hi h1 h2 h3 h4 h5; simp at h3; have : lo = hi := by omega
            subst this; exact ⟨h1, h4, h5⟩
  | succ k ih =>
    intro lo hi h1 h2 h3 h4 h5
    unfold bsearch
    split
    · rw [Nat.pow_succ] at h3
      cases hp : p ((lo + hi) / 2)
      · simp only [Bool.false_eq_true, if_false]
        refine ih _ _ h1 (by omega) (by omega) (fun t ht => ?_) h5
        cases h : p t with
        | false => rfl
        | true => rw [hmono t ((lo + hi) / 2) (by omega) (by omega) h] at hp; cases hp
      · simp only [if_true]
        refine ih _ _ (by omega) (by omega) (by omega) h4 (fun t ht htn => hmono ((lo + hi) / 2) t ht htn hp)
    · have : lo = hi := by omega
      subst this; exact ⟨h1, h4, h5⟩
theorem search_unique {n : Nat} {p : Nat → Bool} {r s : Nat} (h1 : r ≤ n) (h2 : ∀ t, t < r → p t = false) (h3 : ∀ t, r ≤ t → t < n → p t = true)
    (k1 : s ≤ n) (k2 : ∀ t, t < s → p t = false) (k3 : ∀ t, s ≤ t → t < n → p t = true) : r = s := by
  rcases Nat.lt_trichotomy r s with h | h | h
  · have a := k2 r h; rw [h3 r (Nat.le_refl _) (by omega)] at a; cases a
  · exact h
  · have a := h2 s h; rw [k3 s (Nat.le_refl _) (by omega)] at a; cases a
end Go.Proofs.YtfefbckpocbeaaaGreat
