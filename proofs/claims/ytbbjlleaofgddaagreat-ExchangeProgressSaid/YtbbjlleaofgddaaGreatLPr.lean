/- LPr, merged: Ar, As, At0, At1, Ay0, Ay, Ax. -/
import Derived.Test.YtbbjlleaofgddaaGreatLRep
import Derived.Test.YtbbjlleaofgddaaGreatLPrT
import Derived.Test.YtbbjlleaofgddaaGreatMK
set_option linter.unusedSimpArgs false
set_option linter.unusedVariables false
/- Chapter 42: a run of the link, by numbers. No program. -/
namespace Go.Proofs.YtbbjlleaofgddaaGreat
open Go.RowKit
structure RS where
  s : Nat
  g : Nat
  h : Nat
  e : List Nat
  w : List Nat
  b : List Nat
def RS.start : RS := ⟨0, 0, 0, [], [], []⟩
def lowL : List Nat → Nat → Nat
  | [], _ => 0
  | a :: e, l => if a < l then lowL e l + 1 else 0
def putL : List Nat → Nat → List Nat
  | [], l => [l]
  | a :: e, l => if a < l then a :: putL e l else l :: a :: e
def insL (g : Nat) (e : List Nat) (l : Nat) : List Nat := if l ∉ e ∧ g ≤ l ∧ l < g + 4 then putL e l else e
def runL : List Nat → Nat → Nat
  | [], _ => 0
  | a :: e, g => if a = g then runL e (g + 1) + 1 else 0
def RS.take (x : RS) (l : Nat) : RS := { x with g := x.g + runL (insL x.g x.e l) x.g, e := (insL x.g x.e l).drop (runL (insL x.g x.e l) x.g), b := x.b ++ [x.g + runL (insL x.g x.e l) x.g] }
def RS.hear (x : RS) (a : Nat) : RS := { x with s := max x.s a }
def RS.out (x : RS) : List Nat := (List.range (min 4 (x.h - x.s))).map fun k => x.s + k
def RS.step (n : Nat) (x : RS) (k : Nat) : RS :=
  let i := k / 8 % x.w.length
  let j := k / 8 % x.b.length
  match k % 8 with
  | 0 => { x with w := x.w ++ x.out }
  | 1 => if x.w.length = 0 then x else { x with w := x.w.eraseIdx i }.take (x.w.getD i 0)
  | 2 => if x.w.length = 0 then x else x.take (x.w.getD i 0)
  | 3 => if x.w.length = 0 then x else { x with w := x.w.eraseIdx i }
  | 4 => if x.b.length = 0 then x else { x with b := x.b.eraseIdx j }.hear (x.b.getD j 0)
  | 5 => if x.b.length = 0 then x else x.hear (x.b.getD j 0)
  | 6 => if x.b.length = 0 then x else { x with b := x.b.eraseIdx j }
  | _ => if x.h < n then { x with h := x.h + 1 } else x
def RS.run (n : Nat) (l : List Nat) : RS := l.foldl (RS.step n) RS.start
structure RS.Ok (n : Nat) (x : RS) : Prop where
  sg : x.s ≤ x.g
  gh : x.g ≤ x.h
  hn : x.h ≤ n
  lo : ∀ k ∈ x.e, x.g < k
  hi : ∀ k ∈ x.e, k < x.g + 4
  eh : ∀ k ∈ x.e, k < x.h
  up : x.e.Pairwise (· < ·)
  wh : ∀ k ∈ x.w, k < x.h
  bg : ∀ k ∈ x.b, k ≤ x.g
theorem RS.start_ok (n : Nat) : RS.start.Ok n := ⟨Nat.le_refl _, Nat.le_refl _, Nat.zero_le _, fun k h => (by cases h), fun k h => (by cases h), fun k h => (by cases h), List.Pairwise.nil, fun k h => (by cases h), fun k h => (by cases h)⟩
theorem mem_putL {k l : Nat} : ∀ {e : List Nat}, k ∈ putL e l ↔ k = l ∨ k ∈ e
  | [] => by simp [putL]
  | a :: e => by
    rw [putL]
    split
    · rw [List.mem_cons, mem_putL (e := e), List.mem_cons]
      constructor
      · rintro (h | h | h)
        · exact .inr (.inl h)
        · exact .inl h
        · exact .inr (.inr h)
      · rintro (h | h | h)
        · exact .inr (.inl h)
        · exact .inl h
        · exact .inr (.inr h)
    · simp
theorem putL_eq {l : Nat} : ∀ {e : List Nat}, putL e l = e.take (lowL e l) ++ ([l] ++ e.drop (lowL e l))
  | [] => by simp [putL, lowL]
  | a :: e => by
    rw [putL, lowL]
    split
    · rw [putL_eq (e := e)]; simp
    · simp
theorem putL_up {l : Nat} : ∀ {e : List Nat}, e.Pairwise (· < ·) → l ∉ e → (putL e l).Pairwise (· < ·)
  | [], _, _ => by simp [putL]
  | a :: e, h, hl => by
    rw [List.pairwise_cons] at h
    rw [List.mem_cons, not_or] at hl
    rw [putL]
    split
    · rename_i c
      rw [List.pairwise_cons]
      refine ⟨fun k hk => ?_, putL_up h.2 hl.2⟩
      rcases mem_putL.1 hk with rfl | hk
      · exact c
      · exact h.1 k hk
    · rename_i c
      rw [List.pairwise_cons, List.pairwise_cons]
      refine ⟨fun k hk => ?_, h⟩
      rcases List.mem_cons.1 hk with rfl | hk
      · omega
      · have := h.1 k hk; omega
theorem lowL_spec {l : Nat} : ∀ (e : List Nat), lowL e l ≤ e.length ∧ (∀ (i : Nat) (hi : i < e.length), i < lowL e l → e[i] < l) ∧ ∀ (h : lowL e l < e.length), ¬ e[lowL e l] < l
  | [] => ⟨Nat.le_refl _, fun i hi => (by cases hi), fun h => (by cases h)⟩
  | a :: e => by
    obtain ⟨h1, h2, h3⟩ := lowL_spec (l := l) e
    rw [lowL]
    split
    · rename_i c
      refine ⟨by simp; omega, fun i hi h => ?_, fun h => ?_⟩
      · cases i with
        | zero => exact c
        | succ i => exact h2 i (by simpa using hi) (by omega)
      · exact h3 (by simpa using h)
    · rename_i c
      exact ⟨Nat.zero_le _, fun i hi h => (by omega), fun h => c⟩
theorem mem_insL {g l k : Nat} {e : List Nat} (h : k ∈ insL g e l) : k ∈ e ∨ k = l ∧ g ≤ l ∧ l < g + 4 := by
  unfold insL at h
  split at h
  · rename_i hp
    rcases mem_putL.1 h with h | h
    · exact .inr ⟨h, hp.2⟩
    · exact .inl h
  · exact .inl h
theorem insL_up {g l : Nat} {e : List Nat} (h : e.Pairwise (· < ·)) : (insL g e l).Pairwise (· < ·) := by
  unfold insL
  split
  · rename_i hp; exact putL_up h hp.1
  · exact h
theorem runL_spec : ∀ (e : List Nat) (g : Nat), runL e g ≤ e.length ∧ (∀ (i : Nat) (hi : i < e.length), i < runL e g → e[i] = g + i) ∧ ∀ (h : runL e g < e.length), e[runL e g] ≠ g + runL e g
  | [], g => ⟨Nat.le_refl _, fun i hi => (by cases hi), fun h => (by cases h)⟩
  | a :: e, g => by
    obtain ⟨h1, h2, h3⟩ := runL_spec e (g + 1)
    rw [runL]
    split
    · rename_i c
      refine ⟨by simp; omega, fun i hi h => ?_, fun h => ?_⟩
      · cases i with
        | zero => exact c
        | succ i =>
          have := h2 i (by simpa using hi) (by omega)
          rw [List.getElem_cons_succ, this]; omega
      · have := h3 (by simpa using h)
        rw [List.getElem_cons_succ]; omega
    · rename_i c
      exact ⟨Nat.zero_le _, fun i hi h => (by omega), fun h => c⟩
theorem rest_gt {e : List Nat} {g : Nat} (hu : e.Pairwise (· < ·)) (hlo : ∀ k ∈ e, g ≤ k) : ∀ k ∈ e.drop (runL e g), g + runL e g < k := by
  obtain ⟨h1, h2, h3⟩ := runL_spec e g
  intro k hk
  obtain ⟨i, hi, rfl⟩ := List.getElem_of_mem hk
  rw [List.length_drop] at hi
  rw [List.getElem_drop]
  have hp := List.pairwise_iff_getElem.1 hu
  have hm : g + runL e g < e[runL e g]'(by omega) := by
    have := h3 (by omega)
    rcases Nat.eq_zero_or_pos (runL e g) with z | z
    · have := hlo _ (List.getElem_mem (show runL e g < e.length by omega))
      omega
    · have a := h2 (runL e g - 1) (by omega) (by omega)
      have b := hp (runL e g - 1) (runL e g) (by omega) (by omega) (by omega)
      omega
  rcases Nat.eq_zero_or_pos i with z | z
  · subst z; simpa using hm
  · have := hp (runL e g) (runL e g + i) (by omega) (by omega) (by omega)
    omega
theorem RS.Ok.take_ok {n : Nat} {x : RS} (h : x.Ok n) {l : Nat} (hl : l < x.h) : (x.take l).Ok n := by
  have hin : ∀ k ∈ insL x.g x.e l, x.g ≤ k ∧ k < x.g + 4 ∧ k < x.h := fun k hk => by
    rcases mem_insL hk with q | ⟨rfl, q⟩
    · exact ⟨Nat.le_of_lt (h.lo k q), h.hi k q, h.eh k q⟩
    · exact ⟨q.1, q.2, hl⟩
  have hu := insL_up (g := x.g) (l := l) h.up
  have hr := rest_gt hu (fun k hk => (hin k hk).1)
  obtain ⟨r1, r2, r3⟩ := runL_spec (insL x.g x.e l) x.g
  refine ⟨by show x.s ≤ x.g + _; have := h.sg; omega, ?_, h.hn, fun k hk => hr k hk, fun k hk => ?_, fun k hk => (hin k (List.mem_of_mem_drop hk)).2.2, hu.sublist (List.drop_sublist _ _), h.wh, fun k hk => ?_⟩
  · show x.g + runL (insL x.g x.e l) x.g ≤ x.h
    rcases Nat.eq_zero_or_pos (runL (insL x.g x.e l) x.g) with z | z
    · have := h.gh; omega
    · have a := r2 (runL (insL x.g x.e l) x.g - 1) (by omega) (by omega)
      have b := (hin _ (List.getElem_mem (show runL (insL x.g x.e l) x.g - 1 < (insL x.g x.e l).length by omega))).2.2
      omega
  · have := (hin k (List.mem_of_mem_drop hk)).2.1
    show k < x.g + _ + 4
    omega
  · show k ≤ x.g + _
    rcases List.mem_append.1 hk with q | q
    · have := h.bg k q; omega
    · rw [List.mem_singleton] at q; omega
theorem RS.Ok.hear_ok {n : Nat} {x : RS} (h : x.Ok n) {a : Nat} (ha : a ≤ x.g) : (x.hear a).Ok n :=
  ⟨by show max x.s a ≤ x.g; have := h.sg; omega, h.gh, h.hn, h.lo, h.hi, h.eh, h.up, h.wh, h.bg⟩
theorem getD_mem {l : List Nat} {i : Nat} (h : i < l.length) : l.getD i 0 ∈ l := by
  rw [List.getD_eq_getElem?_getD, List.getElem?_eq_getElem h]; exact List.getElem_mem h
theorem RS.Ok.w_ok {n : Nat} {x : RS} (h : x.Ok n) {w : List Nat} (hw : ∀ k ∈ w, k < x.h) : ({ x with w := w } : RS).Ok n := ⟨h.sg, h.gh, h.hn, h.lo, h.hi, h.eh, h.up, hw, h.bg⟩
theorem RS.Ok.b_ok {n : Nat} {x : RS} (h : x.Ok n) {b : List Nat} (hb : ∀ k ∈ b, k ≤ x.g) : ({ x with b := b } : RS).Ok n := ⟨h.sg, h.gh, h.hn, h.lo, h.hi, h.eh, h.up, h.wh, hb⟩
theorem RS.Ok.step_ok {n : Nat} {x : RS} (h : x.Ok n) (k : Nat) : (x.step n k).Ok n := by
  unfold RS.step
  have iw : x.w.length ≠ 0 → x.w.getD (k / 8 % x.w.length) 0 < x.h := fun q => h.wh _ (getD_mem (Nat.mod_lt _ (by omega)))
  have jb : x.b.length ≠ 0 → x.b.getD (k / 8 % x.b.length) 0 ≤ x.g := fun q => h.bg _ (getD_mem (Nat.mod_lt _ (by omega)))
  dsimp only
  split
  · refine h.w_ok fun k hk => ?_
    rcases List.mem_append.1 hk with q | q
    · exact h.wh k q
    · unfold RS.out at q
      obtain ⟨i, hi, rfl⟩ := List.mem_map.1 q
      rw [List.mem_range] at hi
      omega
  · split
    · exact h
    · rename_i q
      exact RS.Ok.take_ok (h.w_ok fun k hk => h.wh k (List.mem_of_mem_eraseIdx hk)) (iw q)
  · split
    · exact h
    · rename_i q; exact RS.Ok.take_ok h (iw q)
  · split
    · exact h
    · exact h.w_ok fun k hk => h.wh k (List.mem_of_mem_eraseIdx hk)
  · split
    · exact h
    · rename_i q
      exact RS.Ok.hear_ok (h.b_ok fun k hk => h.bg k (List.mem_of_mem_eraseIdx hk)) (jb q)
  · split
    · exact h
    · rename_i q; exact RS.Ok.hear_ok h (jb q)
  · split
    · exact h
    · exact h.b_ok fun k hk => h.bg k (List.mem_of_mem_eraseIdx hk)
  · split
    · rename_i q
      exact ⟨h.sg, by show x.g ≤ x.h + 1; have := h.gh; omega, q, h.lo, h.hi, fun k hk => by show k < x.h + 1; have := h.eh k hk; omega, h.up, fun k hk => by show k < x.h + 1; have := h.wh k hk; omega, h.bg⟩
    · exact h
theorem RS.fold_ok {n : Nat} : ∀ (l : List Nat) {x : RS}, x.Ok n → (l.foldl (RS.step n) x).Ok n
  | [], _, h => h
  | k :: l, _, h => RS.fold_ok l (h.step_ok k)
theorem RS.run_ok (n : Nat) (l : List Nat) : (RS.run n l).Ok n := RS.fold_ok l (RS.start_ok n)
end Go.Proofs.YtbbjlleaofgddaaGreat
/- Chapter 42: what the numbers of a run stand for. No program. -/
namespace Go.Proofs.YtbbjlleaofgddaaGreat
open Go.RowKit
def letR (N : Rows) (k : Nat) : List D := [.i 1, .i 2, .i k, .b false, .i (lg N k 0), .i (lg N k 1), .i (lg N k 2), .i (lg N k 3), .i (lg N k 4), .i (lg N k 5), .l (lr N k 6)]
def ackR (g : Nat) : List D := [.i 2, .i 1, .i g, .b true, .i 0, .i 0, .i 0, .i 0, .i 0, .i 0, .l []]
def lts (N : Rows) (l : List Nat) : Rows := l.map (letR N)
def RS.q (x : RS) : List Nat := (List.range (x.h - x.s)).map fun k => x.s + k
theorem lts_len (N : Rows) (l : List Nat) : (lts N l).length = l.length := List.length_map ..
theorem lg_lets {N : Rows} {l : List Nat} {i : Nat} (h : i < l.length) : lg (lts N l) i 2 = (l[i] : Nat) := by
  rw [lg_cI (by rw [lts_len]; exact h)]
  unfold lts
  rw [List.getElem_map]; rfl
theorem not_at {N : Rows} (h : areNB N = true) {k : Nat} (hk : k < N.length) : noticeL [.i (lg N k 0), .i (lg N k 1), .i (lg N k 2), .i (lg N k 3), .i (lg N k 4), .i (lg N k 5), .l (lr N k 6)] = true := by
  unfold areNB at h
  rw [Bool.and_eq_true, List.all_eq_true] at h
  have := h.2 _ (List.getElem_mem hk)
  unfold ntR0 at this
  simp only [← lg_cI hk, ← lr_cR hk] at this
  exact this
theorem not_len {N : Rows} (h : areNB N = true) : N.length ≤ 200 := by
  unfold areNB at h
  rw [Bool.and_eq_true, decide_eq_true_eq] at h
  exact h.1
theorem letR_car {N : Rows} (h : areNB N = true) {k : Nat} (hk : k < N.length) : carR (letR N k) = true := by
  have e : carR (letR N k) = ((!false && decide (wayP 1 2 ∧ 0 ≤ (k : Int) ∧ (k : Int) < 1000)) && noticeL [.i (lg N k 0), .i (lg N k 1), .i (lg N k 2), .i (lg N k 3), .i (lg N k 4), .i (lg N k 5), .l (lr N k 6)]) := rfl
  have := not_len h
  rw [e, not_at h hk, decide_eq_true ⟨by unfold wayP; omega, by omega, by omega⟩]; rfl
theorem lts_ours {N : Rows} (h : areNB N = true) {l : List Nat} (hl : ∀ k ∈ l, k < N.length) : oursB (lts N l) 1 2 = true := by
  unfold oursB lts
  rw [List.all_eq_true]
  intro x hx
  obtain ⟨k, hk, rfl⟩ := List.mem_map.1 hx
  rw [letR_car h (hl k hk)]; rfl
theorem lts_win {N : Rows} {e : List Nat} {g : Nat} (hu : e.Pairwise (· < ·)) (hlo : ∀ k ∈ e, g ≤ k) (hhi : ∀ k ∈ e, k < g + 4) : Win g (lts N e) := by
  refine ⟨fun i hi => ?_, fun i hi => ?_, fun i j hij hj => ?_⟩
  · rw [lts_len] at hi
    rw [lg_lets hi]
    have := hlo _ (List.getElem_mem hi); omega
  · rw [lts_len] at hi
    rw [lg_lets hi]
    have := hhi _ (List.getElem_mem hi); omega
  · rw [lts_len] at hj
    rw [lg_lets (show i < e.length by omega), lg_lets hj]
    have := List.pairwise_iff_getElem.1 hu i j (by omega) hj hij
    omega
theorem lts_low {N : Rows} {e : List Nat} (l : Nat) : lowS (lts N e) l = lowL e l := by
  obtain ⟨a, b, c⟩ := lowL_spec (l := l) e
  refine (low_uniq2 (by rw [lts_len]; exact a) (fun k hk => ?_) (fun h => ?_)).symm
  · rw [lg_lets (show k < e.length by omega)]
    have := b k (by omega) hk; omega
  · rw [lts_len] at h
    rw [lg_lets h]
    have := c h; omega
theorem lts_is {N : Rows} {e : List Nat} (hu : risS (lts N e) = true) (l : Nat) : isS (lts N e) l = decide (l ∈ e) := by
  rw [Bool.eq_iff_iff, isS_iff hu, decide_eq_true_eq]
  constructor
  · rintro ⟨k, hk, h⟩
    rw [lts_len] at hk
    rw [lg_lets hk] at h
    have : e[k] = l := by omega
    rw [← this]; exact List.getElem_mem hk
  · intro h
    obtain ⟨k, hk, rfl⟩ := List.getElem_of_mem h
    exact ⟨k, by rw [lts_len]; exact hk, lg_lets hk⟩
theorem lts_ins {N : Rows} {e : List Nat} {g : Nat} (hu : risS (lts N e) = true) (l : Nat) : insR g (lts N e) l (letR N l) = lts N (insL g e l) := by
  have hp : putB g (lts N e) l = decide (l ∉ e ∧ g ≤ l ∧ l < g + 4) := by
    unfold putB
    rw [lts_is hu, Bool.eq_iff_iff]
    simp only [Bool.and_eq_true, Bool.not_eq_true', decide_eq_true_eq, decide_eq_false_iff_not]
    constructor
    · rintro ⟨a, b, c⟩; exact ⟨a, by omega, by omega⟩
    · rintro ⟨a, b, c⟩; exact ⟨a, by omega, by omega⟩
  unfold insR insL
  rw [hp]
  by_cases h : l ∉ e ∧ g ≤ l ∧ l < g + 4
  · rw [decide_eq_true h, if_pos rfl, if_pos h, lts_low, putL_eq]
    unfold lts
    rw [List.map_append, List.map_append, List.map_take, List.map_drop]; rfl
  · rw [decide_eq_false h, if_neg (by decide), if_neg h]
theorem lts_run {N : Rows} {e : List Nat} {g : Nat} : runE (lts N e) g = runL e g := by
  obtain ⟨a, b, c⟩ := runL_spec e g
  refine (run_uniq (by rw [lts_len]; exact a) (fun k hk => ?_) (fun h => ?_)).symm
  · rw [lg_lets (show k < e.length by omega)]
    have := b k (by omega) hk; omega
  · rw [lts_len] at h
    rw [lg_lets h]
    have := c h; omega
theorem lts_drop (N : Rows) (l : List Nat) (k : Nat) : (lts N l).drop k = lts N (l.drop k) := by unfold lts; rw [List.map_drop]
theorem lts_take (N : Rows) (l : List Nat) (k : Nat) : (lts N l).take k = lts N (l.take k) := by unfold lts; rw [List.map_take]
theorem lts_app (N : Rows) (l m : List Nat) : lts N l ++ lts N m = lts N (l ++ m) := by unfold lts; rw [List.map_append]
theorem letR_agr {N : Rows} {e : List Nat} (l : Nat) : Agr (lts N e) l (letR N l) := by
  intro x hx h
  unfold lts at hx
  obtain ⟨k, hk, rfl⟩ := List.mem_map.1 hx
  have : (k : Int) = l := h
  have : k = l := by omega
  rw [this]
variable {n : Nat} {x : RS} {N : Rows}
theorem RS.Ok.q_len (_ : x.Ok n) : x.q.length = x.h - x.s := by unfold RS.q; rw [List.length_map, List.length_range]
theorem q_get (x : RS) {i : Nat} (h : i < x.h - x.s) : x.q[i]? = some (x.s + i) := by
  unfold RS.q
  rw [List.getElem?_map, List.getElem?_range h]; rfl
theorem RS.Ok.q_mem (h : x.Ok n) : ∀ k ∈ x.q, k < x.h := by
  intro k hk
  unfold RS.q at hk
  obtain ⟨i, hi, rfl⟩ := List.mem_map.1 hk
  rw [List.mem_range] at hi
  omega
theorem alk_empty : alkB [] = true := rfl
theorem RS.Ok.outB (h : x.Ok N.length) (hN : areNB N = true) : outB x.s (lts N x.q) = true := by
  have hn := not_len hN
  have h1 := h.sg
  have h2 := h.gh
  have h3 := h.hn
  refine out_iff.2 ⟨⟨by omega, by omega, by rw [lts_len, h.q_len]; omega⟩, alk_of (lts_ours hN (fun k hk => by have := h.q_mem k hk; omega)), fun i hi => ?_⟩
  rw [lts_len] at hi
  rw [lg_lets hi]
  have e := q_get x (i := i) (by rw [← h.q_len]; exact hi)
  rw [List.getElem?_eq_getElem hi, Option.some.injEq] at e
  rw [e]; omega
theorem RS.Ok.inB (h : x.Ok N.length) (hN : areNB N = true) : inB x.g (lts N x.e) = true := by
  have hn := not_len hN
  have h2 := h.gh
  have h3 := h.hn
  refine in_iff.2 ⟨⟨by omega, by omega⟩, alk_of (lts_ours hN (fun k hk => by have := h.eh k hk; omega)), ?_, fun i hi => ?_⟩
  · have := lts_win (N := N) (g := x.g + 1) h.up (fun k hk => h.lo k hk) (fun k hk => by have := h.hi k hk; omega)
    exact this
  · rw [lts_len] at hi
    rw [lg_lets hi]
    have := h.hi _ (List.getElem_mem hi); omega
theorem ackR_ack {g : Nat} (h : g ≤ 1000) : ackL (ackR g) = true := by
  have e : ackL (ackR g) = ((true && decide (wayP 2 1 ∧ 0 ≤ (g : Int) ∧ (g : Int) ≤ 1000)) && nsL [.i 0, .i 0, .i 0, .i 0, .i 0, .i 0, .l [], .i 0, .i 0, .i 0, .i 0, .i 0, .i 0, .l []]) := rfl
  rw [e, (ns14 _ _ _ _ _ _ _ _ _ _ _ _ _ _).2 rfl, decide_eq_true ⟨by unfold wayP; omega, by omega, by omega⟩]; rfl
theorem q_drop (x : RS) (k : Nat) : x.q.drop k = ({ x with s := x.s + k } : RS).q := by
  unfold RS.q
  rw [← List.map_drop]
  apply List.ext_getElem?
  intro i
  simp only [List.getElem?_map, List.getElem?_drop]
  by_cases h : k + i < x.h - x.s
  · rw [List.getElem?_range h, List.getElem?_range (by show i < x.h - (x.s + k); omega)]
    simp; omega
  · rw [List.getElem?_eq_none (by rw [List.length_range]; omega), List.getElem?_eq_none (by rw [List.length_range]; show x.h - (x.s + k) ≤ i; omega)]; rfl
theorem q_more (x : RS) (h : x.s ≤ x.h) : x.q ++ [x.h] = ({ x with h := x.h + 1 } : RS).q := by
  unfold RS.q
  rw [show ({ x with h := x.h + 1 } : RS).h - ({ x with h := x.h + 1 } : RS).s = (x.h - x.s) + 1 by show x.h + 1 - x.s = _; omega, List.range_succ, List.map_append]
  simp only [List.map_cons, List.map_nil]
  congr 2
  omega
theorem out_q (x : RS) : x.out = x.q.take 4 := by
  unfold RS.out RS.q
  rw [← List.map_take, List.take_range]
end Go.Proofs.YtbbjlleaofgddaaGreat
/- Chapter 42: cells of the letters of a run. No program. -/
namespace Go.Proofs.YtbbjlleaofgddaaGreat
open Go.RowKit
theorem lg_sub {r : Rows} {lo hi : Int} {i : Nat} (h : i < (subR r lo hi).length) (hlo : 0 ≤ lo) (j : Nat) : lg r (lo + (i : Int)) j = lg (subR r lo hi) i j := by
  obtain ⟨k, rfl⟩ := Int.eq_ofNat_of_zero_le hlo
  unfold subR at *
  rw [List.length_take] at h
  unfold lg cellAt
  rw [← Int.natCast_add, Int.toNat_natCast, Int.toNat_natCast, Int.toNat_natCast, List.getElem?_take_of_lt (by rw [Int.toNat_natCast] at h; omega), List.getElem?_drop]
theorem lr_sub {r : Rows} {lo hi : Int} {i : Nat} (h : i < (subR r lo hi).length) (hlo : 0 ≤ lo) (j : Nat) : lr r (lo + (i : Int)) j = lr (subR r lo hi) i j := by
  obtain ⟨k, rfl⟩ := Int.eq_ofNat_of_zero_le hlo
  unfold subR at *
  rw [List.length_take] at h
  unfold lr cellAt
  rw [← Int.natCast_add, Int.toNat_natCast, Int.toNat_natCast, Int.toNat_natCast, List.getElem?_take_of_lt (by rw [Int.toNat_natCast] at h; omega), List.getElem?_drop]
theorem lts_get {N : Rows} {l : List Nat} {p : Nat} (h : p < l.length) : (lts N l)[(p : Int).toNat]? = some (letR N (l.getD p 0)) := by
  unfold lts
  rw [Int.toNat_natCast, List.getElem?_map, List.getD_eq_getElem?_getD, List.getElem?_eq_getElem h]; rfl
theorem lts_lg {N : Rows} {l : List Nat} {p : Nat} (h : p < l.length) (j : Nat) : lg (lts N l) p j = cI (letR N (l.getD p 0)) j := by
  unfold lg cellAt; rw [lts_get h]; rfl
theorem lts_lb {N : Rows} {l : List Nat} {p : Nat} (h : p < l.length) (j : Nat) : lb (lts N l) p j = cB (letR N (l.getD p 0)) j := by
  unfold lb cellAt; rw [lts_get h]; rfl
theorem lts_lr {N : Rows} {l : List Nat} {p : Nat} (h : p < l.length) (j : Nat) : lr (lts N l) p j = cR (letR N (l.getD p 0)) j := by
  unfold lr cellAt; rw [lts_get h]; rfl
def acks (b : List Nat) : Rows := b.map ackR
theorem acks_len (b : List Nat) : (acks b).length = b.length := List.length_map ..
theorem acks_get {l : List Nat} {p : Nat} (h : p < l.length) : (acks l)[(p : Int).toNat]? = some (ackR (l.getD p 0)) := by
  unfold acks
  rw [Int.toNat_natCast, List.getElem?_map, List.getD_eq_getElem?_getD, List.getElem?_eq_getElem h]; rfl
theorem acks_lg {l : List Nat} {p : Nat} (h : p < l.length) (j : Nat) : lg (acks l) p j = cI (ackR (l.getD p 0)) j := by
  unfold lg cellAt; rw [acks_get h]; rfl
theorem acks_lb {l : List Nat} {p : Nat} (h : p < l.length) (j : Nat) : lb (acks l) p j = cB (ackR (l.getD p 0)) j := by
  unfold lb cellAt; rw [acks_get h]; rfl
theorem acks_lr {l : List Nat} {p : Nat} (h : p < l.length) (j : Nat) : lr (acks l) p j = cR (ackR (l.getD p 0)) j := by
  unfold lr cellAt; rw [acks_get h]; rfl
theorem cut_erase (r : Rows) {p : Nat} (h : p < r.length) : subR r 0 (p : Int) ++ subR r ((p : Int) + 1) ((r.length : Nat) : Int) = r.eraseIdx p := by
  rw [subR_end, subR_zero, show ((p : Int) + 1).toNat = p + 1 by omega, List.eraseIdx_eq_take_drop_succ]
theorem erase_map {α β : Type} (f : α → β) : ∀ (l : List α) (p : Nat), (l.map f).eraseIdx p = (l.eraseIdx p).map f
  | [], p => by simp
  | a :: l, 0 => by simp
  | a :: l, p + 1 => by simp [erase_map f l p]
theorem lts_erase (N : Rows) (l : List Nat) (p : Nat) : (lts N l).eraseIdx p = lts N (l.eraseIdx p) := by unfold lts; rw [erase_map]
theorem acks_erase (l : List Nat) (p : Nat) : (acks l).eraseIdx p = acks (l.eraseIdx p) := by unfold acks; rw [erase_map]
theorem acks_app (l : List Nat) (a : Nat) : acks l ++ [ackR a] = acks (l ++ [a]) := by unfold acks; rw [List.map_append]; rfl
theorem ntR_letR {N : Rows} (hN : ∀ row ∈ N, notWf row) {k : Nat} (hk : k < N.length) : ntR (letR N k) = N[k] := by
  have := (hN _ (List.getElem_mem hk)).1
  rw [this]
  simp only [← lg_cI hk, ← lr_cR hk]
  rfl
theorem told_eq {N : Rows} (hN : ∀ row ∈ N, notWf row) {e : List Nat} {g : Nat} (hg : g + runL e g ≤ N.length) : N.take g ++ ((lts N e).take (runL e g)).map ntR = N.take (g + runL e g) := by
  obtain ⟨h1, h2, _⟩ := runL_spec e g
  rw [List.take_add]
  congr 1
  unfold lts
  apply List.ext_getElem
  · simp only [List.length_map, List.length_take, List.length_drop]; omega
  · intro i h3 h4
    simp only [List.length_map, List.length_take] at h3
    simp only [List.getElem_map, List.getElem_take, List.getElem_drop]
    rw [h2 i (by omega) (by omega), ntR_letR hN (by omega)]
/-! A script -/
def scr (S : Rows) (i : Nat) : List Nat := (List.range i).map fun (k : Nat) => (lg S k 0).toNat
theorem scr_next (S : Rows) (i : Nat) : scr S (i + 1) = scr S i ++ [(lg S i 0).toNat] := by
  unfold scr; rw [List.range_succ, List.map_append]; rfl
theorem run_next (n : Nat) (S : Rows) (i : Nat) : RS.run n (scr S (i + 1)) = (RS.run n (scr S i)).step n (lg S i 0).toNat := by
  unfold RS.run; rw [scr_next, List.foldl_append]; rfl
theorem step_len {n : Nat} (x : RS) (k : Nat) : (x.step n k).w.length ≤ x.w.length + 4 ∧ (x.step n k).b.length ≤ x.b.length + 1 := by
  have e1 : ∀ (l : List Nat) i, (l.eraseIdx i).length ≤ l.length := fun l i => List.length_eraseIdx_le _ _
  unfold RS.step
  dsimp only
  split
  · refine ⟨?_, by show x.b.length ≤ _; omega⟩
    show (x.w ++ x.out).length ≤ _
    unfold RS.out
    rw [List.length_append, List.length_map, List.length_range]; omega
  · split
    · omega
    · refine ⟨Nat.le_trans (e1 _ _) (by omega), ?_⟩
      show (x.b ++ [_]).length ≤ _
      rw [List.length_append]; simp
  · split
    · omega
    · refine ⟨by show x.w.length ≤ _; omega, ?_⟩
      show (x.b ++ [_]).length ≤ _
      rw [List.length_append]; simp
  · split
    · omega
    · exact ⟨Nat.le_trans (e1 _ _) (by omega), by show x.b.length ≤ _; omega⟩
  · split
    · omega
    · exact ⟨by show x.w.length ≤ _; omega, Nat.le_trans (e1 _ _) (by omega)⟩
  · split
    · omega
    · exact ⟨by show x.w.length ≤ _; omega, by show x.b.length ≤ _; omega⟩
  · split
    · omega
    · exact ⟨by show x.w.length ≤ _; omega, Nat.le_trans (e1 _ _) (by omega)⟩
  · split
    · exact ⟨by show x.w.length ≤ _; omega, by show x.b.length ≤ _; omega⟩
    · omega
theorem run_len (n : Nat) (S : Rows) : ∀ i, (RS.run n (scr S i)).w.length ≤ 4 * i ∧ (RS.run n (scr S i)).b.length ≤ i
  | 0 => ⟨Nat.le_refl _, Nat.le_refl _⟩
  | i + 1 => by
    obtain ⟨a, b⟩ := run_len n S i
    obtain ⟨c, d⟩ := step_len (n := n) (RS.run n (scr S i)) (lg S i 0).toNat
    rw [run_next]
    omega
theorem tm8 (K : Nat) : (K : Int).tmod 8 = ((K % 8 : Nat) : Int) := rfl
theorem td8 (K : Nat) : (K : Int).tdiv 8 = ((K / 8 : Nat) : Int) := rfl
theorem tmN (K n : Nat) : (K : Int).tmod (n : Int) = ((K % n : Nat) : Int) := rfl
end Go.Proofs.YtbbjlleaofgddaaGreat
/- Chapter 42: what Run answers: plain parts. -/
namespace Go.Proofs.YtbbjlleaofgddaaGreat
open Go.RowKit
theorem lsAre_two {ρ : Env} {q : OpR} {l1 l2 : NL} {ds : List D} {s1 s2 : S0} {x1 x2 : X} (h1 : lrows q.2.1 l1.e l1.ks s1 = some x1) (e1 : x1.ev ρ = l1.rows ds) (h2 : lrows q.2.1 l2.e l2.ks s2 = some x2) (e2 : x2.ev ρ = l2.rows ds)
    (hne : ∀ id v v', s1 = .own id v → s2 = .own id v' → False) : LsAre ρ q [l1, l2] ds [s1, s2] := by
  refine ⟨rfl, fun k l s hk hs => ?_, fun i j id v v' hi hj => ?_⟩
  · match k with
    | 0 =>
      simp only [List.getElem?_cons_zero, Option.some.injEq] at hk hs
      subst hk hs
      exact ⟨x1, h1, e1⟩
    | 1 =>
      simp only [List.getElem?_cons_succ, List.getElem?_cons_zero, Option.some.injEq] at hk hs
      subst hk hs
      exact ⟨x2, h2, e2⟩
    | k + 2 => simp at hk
  · match i, j with
    | 0, 0 => rfl
    | 1, 1 => rfl
    | 0, 1 =>
      simp only [List.getElem?_cons_succ, List.getElem?_cons_zero, Option.some.injEq] at hi hj
      exact (hne _ _ _ hi hj).elim
    | 1, 0 =>
      simp only [List.getElem?_cons_succ, List.getElem?_cons_zero, Option.some.injEq] at hi hj
      exact (hne _ _ _ hj hi).elim
    | i + 2, _ => simp at hi
    | 0, j + 2 => simp at hj
    | 1, j + 2 => simp at hj
def runOB (N S : Rows) : Bool := areNB N && (decide (S.length ≤ 1000) && decide (∀ i, i < S.length → 0 ≤ lg S i 0))
def runO (ds : List D) : Bool := runOB (rAt ds 0) (rAt ds 1)
def runX (ds : List D) : RS := RS.run (rAt ds 0).length (scr (rAt ds 1) (rAt ds 1).length)
def runSq (ds : List D) : Int := if runO ds then (runX ds).s else 0
def runEr (ds : List D) : Int := if runO ds then 0 else 1
def runQ (ds : List D) : Rows := if runO ds then lts (rAt ds 0) (runX ds).q else []
def runT (ds : List D) : Rows := if runO ds then (rAt ds 0).take (runX ds).g else []
def nlRQ : NL := ⟨31, letK, 0, runQ⟩
def nlRT : NL := ⟨29, notK, 1, runT⟩
def runRes (_w0 : World) (ds : List D) (vs : List Value) (u : Value) : Prop := ∃ a b, vs = [a, b] ∧ u = .tuple #[.agg #[.int .i64 (runSq ds), a], b, .int .i64 (runEr ds)]
def scrOk (ds : List D) : Prop := ∀ i, i < (rAt ds 1).length → lg (rAt ds 1) i 0 ≤ 9223372036854775807
theorem run_den {ρ : Env} {σ : As} {s1 s2 : S0} {k e : E} {u : Value} (h : V.den ρ σ (.tup [.agg [.z (.int .i64 k), .z s1], .one (.z s2), .one (.z (.int .i64 e))]) u) :
    ∃ v1 v2, S0.den ρ σ s1 v1 ∧ S0.den ρ σ s2 v2 ∧ u = .tuple #[.agg #[.int .i64 (k.ev ρ), v1], v2, .int .i64 (e.ev ρ)] := by
  obtain ⟨vs, h, rfl⟩ := h
  obtain ⟨w1, vs, rfl, h1, h⟩ := DL.cons_inv h
  obtain ⟨w2, vs, rfl, h2, h⟩ := DL.cons_inv h
  obtain ⟨w3, vs, rfl, h3, h⟩ := DL.cons_inv h
  obtain rfl := DL.nil_inv h
  obtain rfl : w3 = .int .i64 (e.ev ρ) := h3
  obtain ⟨us, h1, rfl⟩ := h1
  obtain ⟨v1, us, rfl, g1, h1⟩ := DL.cons_inv h1
  obtain ⟨v2, us, rfl, g2, h1⟩ := DL.cons_inv h1
  obtain rfl := DL.nil_inv h1
  obtain rfl : v1 = .int .i64 (k.ev ρ) := g1
  exact ⟨v2, w2, g2, h2, rfl⟩
theorem run_end {ρ : Env} {w0 : World} {ds : List D} {s1 s2 : S0} {k e : E} {m : Mem} {n : Nat} {x1 x2 : X} (h1 : lrows m 31 letK s1 = some x1) (e1 : x1.ev ρ = runQ ds) (h2 : lrows m 29 notK s2 = some x2) (e2 : x2.ev ρ = runT ds)
    (hne : ∀ id v v', s1 = .own id v → s2 = .own id v' → False) (hk : k.ev ρ = runSq ds) (he : e.ev ρ = runEr ds) :
    ∃ ss, LsAre ρ ((.tup [.agg [.z (.int .i64 k), .z s1], .one (.z s2), .one (.z (.int .i64 e))]), m, n) [nlRQ, nlRT] ds ss ∧ ∀ (σ : As) u, ρ.w = w0 → V.den ρ σ (.tup [.agg [.z (.int .i64 k), .z s1], .one (.z s2), .one (.z (.int .i64 e))]) u → ∃ vs, DL (S0.den ρ σ) ss vs ∧ runRes w0 ds vs u := by
  refine ⟨[s1, s2], lsAre_two (l1 := nlRQ) (l2 := nlRT) h1 e1 h2 e2 hne, fun σ u _ hu => ?_⟩
  obtain ⟨v1, v2, g1, g2, rfl⟩ := run_den hu
  rw [hk, he]
  exact ⟨[v1, v2], ⟨g1, g2, trivial⟩, v1, v2, rfl, rfl⟩
theorem Q5b170 (W : World) (ds l : List D) : (envOf Q5 W ds).fb 170 l = noticeL l := by simp only [envOf, Q5, Q4, Q3, Q2, Q1, N4]
theorem Q5b202 (W : World) (ds l : List D) : (envOf Q5 W ds).fb 202 l = areNL l := by simp only [envOf, Q5, Q4, Q3]
theorem are_one (r : Rows) : areNL [.l r] = areNB r := rfl
structure Inv (N S : Rows) (i : Nat) (v : LV) : Prop where
  le : i ≤ S.length
  i0 : v.i 0 = i
  sq : v.i 15 = (RS.run N.length (scr S i)).s
  qu : v.d 4 = lts N (RS.run N.length (scr S i)).q
  got : v.i 6 = (RS.run N.length (scr S i)).g
  lo : 0 ≤ v.i 9
  early : subR (v.d 8) (v.i 9) (v.i 10) = lts N (RS.run N.length (scr S i)).e
  way : v.d 2 = lts N (RS.run N.length (scr S i)).w
  back : v.d 12 = acks (RS.run N.length (scr S i)).b
  told : v.d 14 = N.take (RS.run N.length (scr S i)).g
  left : v.d 5 = N.drop (RS.run N.length (scr S i)).h
theorem ge_dec (a b : Int) : cmpEv .geq a b = decide (a ≥ b) := rfl
theorem lss_dec (a b : Int) : cmpEv .lss a b = decide (a < b) := rfl
theorem step_kind {N R : Rows} {i : Nat} {v : LV} (h : Inv N R i v) (hi : i < R.length) {y : RS} (hy : (RS.run N.length (scr R i)).step N.length (lg R i 0).toNat = y) {u : LV} (i0 : u.i 0 = (i : Int) + 1) (sq : u.i 15 = y.s) (qu : u.d 4 = lts N y.q) (got : u.i 6 = y.g) (lo : 0 ≤ u.i 9) (early : subR (u.d 8) (u.i 9) (u.i 10) = lts N y.e)
    (way : u.d 2 = lts N y.w) (back : u.d 12 = acks y.b) (told : u.d 14 = N.take y.g) (left : u.d 5 = N.drop y.h) : Inv N R (i + 1) u := by
  have e : RS.run N.length (scr R (i + 1)) = y := by rw [run_next, hy]
  exact ⟨by omega, by rw [i0]; rfl, by rw [e]; exact sq, by rw [e]; exact qu, by rw [e]; exact got, lo, by rw [e]; exact early, by rw [e]; exact way, by rw [e]; exact back, by rw [e]; exact told, by rw [e]; exact left⟩
theorem sub_take4 (r : Rows) : subR r 0 (min 4 ((r.length : Nat) : Int)) = r.take 4 := by
  unfold subR
  rw [Int.toNat_zero, List.drop_zero, Nat.sub_zero]
  rcases Nat.lt_or_ge r.length 4 with h | h
  · rw [List.take_of_length_le (by omega), List.take_of_length_le (by omega)]
  · rw [show (min 4 ((r.length : Nat) : Int)).toNat = 4 by omega]
section
variable {n K : Nat} {x : RS}
theorem stepc0 (h : K % 8 = 0) : x.step n K = { x with w := x.w ++ x.out } := by unfold RS.step; rw [h]; rfl
theorem stepc1 (h : K % 8 = 1) (h0 : x.w.length ≠ 0) : x.step n K = ({ x with w := x.w.eraseIdx (K / 8 % x.w.length) } : RS).take (x.w.getD (K / 8 % x.w.length) 0) := by unfold RS.step; rw [h]; exact if_neg h0
theorem stepc2 (h : K % 8 = 2) (h0 : x.w.length ≠ 0) : x.step n K = x.take (x.w.getD (K / 8 % x.w.length) 0) := by unfold RS.step; rw [h]; exact if_neg h0
theorem stepc3 (h : K % 8 = 3) (h0 : x.w.length ≠ 0) : x.step n K = { x with w := x.w.eraseIdx (K / 8 % x.w.length) } := by unfold RS.step; rw [h]; exact if_neg h0
theorem stepc4 (h : K % 8 = 4) (h0 : x.b.length ≠ 0) : x.step n K = ({ x with b := x.b.eraseIdx (K / 8 % x.b.length) } : RS).hear (x.b.getD (K / 8 % x.b.length) 0) := by unfold RS.step; rw [h]; exact if_neg h0
theorem stepc5 (h : K % 8 = 5) (h0 : x.b.length ≠ 0) : x.step n K = x.hear (x.b.getD (K / 8 % x.b.length) 0) := by unfold RS.step; rw [h]; exact if_neg h0
theorem stepc6 (h : K % 8 = 6) (h0 : x.b.length ≠ 0) : x.step n K = { x with b := x.b.eraseIdx (K / 8 % x.b.length) } := by unfold RS.step; rw [h]; exact if_neg h0
theorem stepc7 (h : K % 8 = 7) (h0 : x.h < n) : x.step n K = { x with h := x.h + 1 } := by unfold RS.step; rw [h]; exact if_pos h0
theorem stepw (h : K % 8 = 1 ∨ K % 8 = 2 ∨ K % 8 = 3) (h0 : x.w.length = 0) : x.step n K = x := by unfold RS.step; rcases h with h | h | h <;> (rw [h]; exact if_pos h0)
theorem stepb (h : K % 8 = 4 ∨ K % 8 = 5 ∨ K % 8 = 6) (h0 : x.b.length = 0) : x.step n K = x := by unfold RS.step; rcases h with h | h | h <;> (rw [h]; exact if_pos h0)
theorem stepl (h : K % 8 = 7) (h0 : ¬ x.h < n) : x.step n K = x := by unfold RS.step; rw [h]; exact if_neg h0
end
end Go.Proofs.YtbbjlleaofgddaaGreat
/- Chapter 42: what a script brings about that gets all across. No program. -/
namespace Go.Proofs.YtbbjlleaofgddaaGreat
open Go.RowKit
def rows1 (l : List Nat) : Rows := l.map fun (k : Nat) => [D.i (k : Int)]
theorem rows1_len (l : List Nat) : (rows1 l).length = l.length := List.length_map ..
theorem rows1_app (l m : List Nat) : rows1 l ++ rows1 m = rows1 (l ++ m) := by unfold rows1; rw [List.map_append]
theorem lg_appL {a b : Rows} {i : Nat} (h : i < a.length) (j : Nat) : lg (a ++ b) i j = lg a i j := by
  unfold lg cellAt
  rw [Int.toNat_natCast, List.getElem?_append_left h]
theorem lg_appR {a : Rows} {l : List Nat} {i : Nat} (h : i < l.length) : lg (a ++ rows1 l) ((a.length + i : Nat) : Int) 0 = (l[i] : Nat) := by
  unfold lg cellAt rows1
  rw [Int.toNat_natCast, List.getElem?_append_right (by omega), show a.length + i - a.length = i by omega, List.getElem?_map, List.getElem?_eq_getElem h]; rfl
theorem scr_app (a : Rows) (l : List Nat) : scr (a ++ rows1 l) (a ++ rows1 l).length = scr a a.length ++ l := by
  unfold scr
  rw [List.length_append, rows1_len]
  apply List.ext_getElem
  · simp
  · intro i h1 h2
    simp only [List.length_map, List.length_range] at h1
    rw [List.getElem_map, List.getElem_range]
    by_cases h : i < a.length
    · rw [List.getElem_append_left (by simpa using h), List.getElem_map, List.getElem_range, lg_appL h]
    · rw [List.getElem_append_right (by simpa using h)]
      simp only [List.length_map, List.length_range]
      have e := lg_appR (a := a) (l := l) (i := i - a.length) (by omega)
      rw [show a.length + (i - a.length) = i by omega] at e
      rw [e]; simp
theorem app_le {a : Rows} {l : List Nat} {m : Int} (h : ∀ i, i < a.length → lg a i 0 ≤ m) (hl : ∀ k ∈ l, (k : Int) ≤ m) : ∀ i, i < (a ++ rows1 l).length → lg (a ++ rows1 l) i 0 ≤ m := by
  intro i hi
  rw [List.length_append, rows1_len] at hi
  by_cases c : i < a.length
  · rw [lg_appL c]; exact h i c
  · have e := lg_appR (a := a) (l := l) (i := i - a.length) (by omega)
    rw [show a.length + (i - a.length) = i by omega] at e
    rw [e]; exact hl _ (List.getElem_mem _)
/-! The steps -/
theorem sev {n : Nat} : ∀ (k : Nat) (x : RS), x.h ≤ n → let r := (List.replicate k 7).foldl (RS.step n) x; r.w = x.w ∧ r.b = x.b ∧ r.h = min n (x.h + k)
  | 0, x, h => ⟨rfl, rfl, by show x.h = _; omega⟩
  | k + 1, x, h => by
    rw [List.replicate_succ, List.foldl_cons]
    by_cases c : x.h < n
    · have e : x.step n 7 = { x with h := x.h + 1 } := stepc7 rfl c
      rw [e]
      obtain ⟨a1, a2, a3⟩ := sev k { x with h := x.h + 1 } c
      exact ⟨a1, a2, by rw [a3]; show min n (x.h + 1 + k) = _; omega⟩
    · have e : x.step n 7 = x := stepl rfl c
      rw [e]
      obtain ⟨a1, a2, a3⟩ := sev k x h
      exact ⟨a1, a2, by rw [a3]; omega⟩
theorem step3 {n : Nat} (x : RS) : (x.step n 3).w.length = x.w.length - 1 ∧ (x.step n 3).b = x.b ∧ (x.step n 3).h = x.h := by
  by_cases c : x.w.length = 0
  · rw [stepw (.inr (.inr rfl)) c]; exact ⟨by omega, rfl, rfl⟩
  · rw [stepc3 rfl c]
    refine ⟨?_, rfl, rfl⟩
    show (x.w.eraseIdx _).length = _
    rw [List.length_eraseIdx_of_lt (Nat.mod_lt _ (by omega))]
theorem step6 {n : Nat} (x : RS) : (x.step n 6).b.length = x.b.length - 1 ∧ (x.step n 6).w = x.w ∧ (x.step n 6).h = x.h := by
  by_cases c : x.b.length = 0
  · rw [stepb (.inr (.inr rfl)) c]; exact ⟨by omega, rfl, rfl⟩
  · rw [stepc6 rfl c]
    refine ⟨?_, rfl, rfl⟩
    show (x.b.eraseIdx _).length = _
    rw [List.length_eraseIdx_of_lt (Nat.mod_lt _ (by omega))]
def lose (k : Nat) : List Nat := (List.replicate k [3, 6]).flatten
theorem lost {n : Nat} : ∀ (k : Nat) (x : RS), let r := (lose k).foldl (RS.step n) x; r.w.length = x.w.length - k ∧ r.b.length = x.b.length - k ∧ r.h = x.h
  | 0, x => ⟨rfl, rfl, rfl⟩
  | k + 1, x => by
    have e : lose (k + 1) = 3 :: 6 :: lose k := rfl
    rw [e, List.foldl_cons, List.foldl_cons]
    obtain ⟨a1, a2, a3⟩ := lost (n := n) k ((x.step n 3).step n 6)
    obtain ⟨b1, b2, b3⟩ := step6 (n := n) (x.step n 3)
    obtain ⟨c1, c2, c3⟩ := step3 (n := n) x
    refine ⟨by rw [a1, b2, c1]; omega, by rw [a2, b1, c2]; omega, by rw [a3, b3, c3]⟩
theorem take_ge {n : Nat} {x : RS} (h : x.Ok n) {l : Nat} (hl : l ≤ x.g) : l + 1 ≤ (x.take l).g := by
  show l + 1 ≤ x.g + runL (insL x.g x.e l) x.g
  by_cases c : l = x.g
  · subst c
    have hn : x.g ∉ x.e := fun q => by have := h.lo _ q; omega
    have e : insL x.g x.e x.g = x.g :: x.e := by
      unfold insL
      rw [if_pos ⟨hn, by omega, by omega⟩]
      cases he : x.e with
      | nil => rfl
      | cons a e =>
        have := h.lo a (by rw [he]; exact List.mem_cons_self ..)
        rw [putL, if_neg (by omega)]
    rw [e, runL, if_pos rfl]; omega
  · omega
def from' (k m : Nat) : List Nat := (List.range m).map fun i => k + i
theorem from_succ (k m : Nat) : from' k (m + 1) = k :: from' (k + 1) m := by
  unfold from'
  rw [List.range_succ_eq_map, List.map_cons, List.map_map]
  congr 1
  apply List.map_congr_left
  intro a _
  show k + (a + 1) = k + 1 + a
  omega
theorem ones {n : Nat} : ∀ (c j k : Nat) (x : RS), x.Ok n → j ≤ c → x.w = from' k j → k ≤ x.g → let r := (List.replicate c 1).foldl (RS.step n) x; r.Ok n ∧ r.w = [] ∧ r.b.length ≤ x.b.length + j ∧ r.s = x.s ∧ r.h = x.h ∧ ∀ v, (v ≤ k + j ∧ 0 < j ∨ ∃ a ∈ x.b, v ≤ a) → ∃ a ∈ r.b, v ≤ a
  | 0, j, k, x, ho, hj, hw, hk => by
    obtain rfl : j = 0 := by omega
    exact ⟨ho, hw, by show x.b.length ≤ _; omega, rfl, rfl, fun v h => by rcases h with h | h; · omega
                                                                          · exact h⟩
  | c + 1, 0, k, x, ho, hj, hw, hk => by
    rw [List.replicate_succ, List.foldl_cons]
    have e : x.step n 1 = x := stepw (.inl rfl) (by rw [hw]; rfl)
    rw [e]
    exact ones c 0 k x ho (by omega) hw hk
  | c + 1, j + 1, k, x, ho, hj, hw, hk => by
    rw [List.replicate_succ, List.foldl_cons]
    rw [from_succ] at hw
    have hz : x.w.length ≠ 0 := by rw [hw]; simp
    have e : x.step n 1 = ({ x with w := from' (k + 1) j } : RS).take k := by
      rw [stepc1 rfl hz, show 1 / 8 % x.w.length = 0 by rw [show 1 / 8 = 0 from rfl, Nat.zero_mod], hw]; rfl
    have hO := ho.step_ok 1
    rw [e] at hO
    rw [e]
    have hO' : ({ x with w := from' (k + 1) j } : RS).Ok n := ho.w_ok (fun a ha => ho.wh a (by rw [hw]; exact List.mem_cons_of_mem _ ha))
    have hg := take_ge hO' hk
    obtain ⟨a0, a1, a2, a3, a4, a5⟩ := ones c j (k + 1) _ hO (by omega) rfl hg
    have hb : (({ x with w := from' (k + 1) j } : RS).take k).b = x.b ++ [(({ x with w := from' (k + 1) j } : RS).take k).g] := rfl
    refine ⟨a0, a1, ?_, a3, a4, fun v hv => a5 v ?_⟩
    · rw [hb, List.length_append] at a2
      simp only [List.length_cons, List.length_nil] at a2
      omega
    · rw [hb]
      rcases hv with ⟨h1, _⟩ | ⟨a, h1, h2⟩
      · by_cases z : 0 < j
        · exact .inl ⟨by omega, z⟩
        · exact .inr ⟨_, List.mem_append_right _ (List.mem_singleton.2 rfl), by omega⟩
      · exact .inr ⟨a, List.mem_append_left _ h1, h2⟩
theorem fours {n : Nat} : ∀ (c : Nat) (x : RS), x.b.length ≤ c → let r := (List.replicate c 4).foldl (RS.step n) x; r.w = x.w ∧ r.b = [] ∧ r.h = x.h ∧ x.s ≤ r.s ∧ ∀ a ∈ x.b, a ≤ r.s
  | 0, x, hb => by
    have e : x.b = [] := List.length_eq_zero_iff.1 (by omega)
    exact ⟨rfl, e, rfl, Nat.le_refl _, fun a ha => by rw [e] at ha; cases ha⟩
  | c + 1, x, hb => by
    rw [List.replicate_succ, List.foldl_cons]
    cases hx : x.b with
    | nil =>
      have e : x.step n 4 = x := stepb (.inl rfl) (by rw [hx]; rfl)
      rw [e]
      obtain ⟨a1, a2, a3, a4, a5⟩ := fours (n := n) c x (by rw [hx]; exact Nat.zero_le _)
      exact ⟨a1, a2, a3, a4, fun a ha => by cases ha⟩
    | cons b t =>
      have hz : x.b.length ≠ 0 := by rw [hx]; simp
      have e : x.step n 4 = ({ x with b := t } : RS).hear b := by
        rw [stepc4 rfl hz, show 4 / 8 % x.b.length = 0 by rw [show 4 / 8 = 0 from rfl, Nat.zero_mod], hx]; rfl
      rw [e]
      obtain ⟨a1, a2, a3, a4, a5⟩ := fours (n := n) c (({ x with b := t } : RS).hear b) (by rw [hx] at hb; simp at hb; exact hb)
      have a4 : max x.s b ≤ _ := a4
      refine ⟨a1, a2, a3, by omega, fun a ha => ?_⟩
      rcases List.mem_cons.1 ha with rfl | h
      · omega
      · exact a5 a h
def round1 : List Nat := 0 :: (List.replicate 4 1 ++ List.replicate 4 4)
theorem round_s {n : Nat} {x : RS} (ho : x.Ok n) (hh : x.h = n) (hw : x.w = []) (hb : x.b = []) : let r := round1.foldl (RS.step n) x; r.w = [] ∧ r.b = [] ∧ r.h = n ∧ min (x.s + 4) n ≤ r.s := by
  unfold round1
  rw [List.foldl_cons, List.foldl_append]
  have e : x.step n 0 = { x with w := from' x.s (min 4 (n - x.s)) } := by
    rw [stepc0 rfl, hw, List.nil_append]
    unfold RS.out from'
    rw [hh]
  have hO := ho.step_ok 0
  rw [e] at hO ⊢
  obtain ⟨a0, a1, a2, a3, a4, a5⟩ := ones 4 (min 4 (n - x.s)) x.s _ hO (by omega) rfl ho.sg
  generalize List.foldl (RS.step n) ({ x with w := from' x.s (min 4 (n - x.s)) } : RS) (List.replicate 4 1) = y at *
  have a2 : y.b.length ≤ x.b.length + _ := a2
  have a3 : y.s = x.s := a3
  have a4 : y.h = x.h := a4
  rw [hb, List.length_nil] at a2
  obtain ⟨b1, b2, b3, b4, b5⟩ := fours (n := n) 4 y (by omega)
  refine ⟨by rw [b1, a1], b2, by rw [b3, a4, hh], ?_⟩
  have hs := ho.sg
  have hg := ho.gh
  by_cases c : x.s < n
  · obtain ⟨a, h1, h2⟩ := a5 (min (x.s + 4) n) (.inl ⟨by omega, by omega⟩)
    have := b5 a h1
    omega
  · omega
def rounds (k : Nat) : List Nat := (List.replicate k round1).flatten
theorem rounds_s {n : Nat} : ∀ (k : Nat) {x : RS}, x.Ok n → x.h = n → x.w = [] → x.b = [] → let r := (rounds k).foldl (RS.step n) x; min (x.s + 4 * k) n ≤ r.s
  | 0, x, ho, hh, hw, hb => by show min (x.s + 4 * 0) n ≤ x.s; omega
  | k + 1, x, ho, hh, hw, hb => by
    have e : rounds (k + 1) = round1 ++ rounds k := rfl
    rw [e, List.foldl_append]
    obtain ⟨a1, a2, a3, a4⟩ := round_s ho hh hw hb
    have b := rounds_s k (RS.fold_ok round1 ho) a3 a1 a2
    generalize List.foldl (RS.step n) x round1 = y at *
    have b : min (y.s + 4 * k) n ≤ _ := b
    omega
def prog (n m : Nat) : List Nat := List.replicate n 7 ++ (lose (4 * m) ++ rounds (n / 4 + 1))
theorem prog_all {n : Nat} {R : Rows} : RS.run n (scr R R.length ++ prog n R.length) = RS.run n (scr R R.length ++ prog n R.length) ∧ (RS.run n (scr R R.length ++ prog n R.length)).s = n := by
  refine ⟨rfl, ?_⟩
  have hO := RS.run_ok n (scr R R.length ++ prog n R.length)
  have key : n ≤ (RS.run n (scr R R.length ++ prog n R.length)).s := by
    obtain ⟨l1, l2⟩ := run_len n R R.length
    have h0 := RS.run_ok n (scr R R.length)
    have e : RS.run n (scr R R.length ++ prog n R.length) = (rounds (n / 4 + 1)).foldl (RS.step n) ((lose (4 * R.length)).foldl (RS.step n) ((List.replicate n 7).foldl (RS.step n) (RS.run n (scr R R.length)))) := by
      unfold RS.run prog
      rw [List.foldl_append, List.foldl_append, List.foldl_append]
    rw [e]
    generalize RS.run n (scr R R.length) = x at *
    obtain ⟨a1, a2, a3⟩ := sev (n := n) n x h0.hn
    have h1 := RS.fold_ok (List.replicate n 7) h0
    generalize List.foldl (RS.step n) x (List.replicate n 7) = y at *
    obtain ⟨b1, b2, b3⟩ := lost (n := n) (4 * R.length) y
    have h2 := RS.fold_ok (lose (4 * R.length)) h1
    generalize List.foldl (RS.step n) y (lose (4 * R.length)) = z at *
    rw [a1] at b1
    rw [a2] at b2
    have c := rounds_s (n / 4 + 1) h2 (by rw [b3, a3]; omega) (List.length_eq_zero_iff.1 (by omega)) (List.length_eq_zero_iff.1 (by omega))
    have c : min (z.s + 4 * (n / 4 + 1)) n ≤ _ := c
    omega
  have h1 := hO.sg
  have h2 := hO.gh
  have h3 := hO.hn
  omega
theorem prog_len (n m : Nat) : (prog n m).length = n + 8 * m + 9 * (n / 4 + 1) := by
  unfold prog
  have e1 : ∀ k, (lose k).length = 2 * k := fun k => by
    unfold lose; rw [List.length_flatten]; simp; omega
  have e2 : ∀ k, (rounds k).length = 9 * k := fun k => by
    unfold rounds; rw [List.length_flatten]; simp [round1]; omega
  rw [List.length_append, List.length_append, List.length_replicate, e1, e2]; omega
theorem prog_le (n m : Nat) : ∀ k ∈ prog n m, k ≤ 7 := by
  intro k hk
  unfold prog lose rounds at hk
  rw [List.mem_append, List.mem_append] at hk
  rcases hk with h | h | h
  · rw [List.mem_replicate] at h; omega
  · rw [List.mem_flatten] at h
    obtain ⟨l, h1, h2⟩ := h
    rw [List.mem_replicate] at h1
    rw [h1.2] at h2
    simp at h2; omega
  · rw [List.mem_flatten] at h
    obtain ⟨l, h1, h2⟩ := h
    rw [List.mem_replicate] at h1
    rw [h1.2] at h2
    unfold round1 at h2
    simp at h2; omega
end Go.Proofs.YtbbjlleaofgddaaGreat
/- Chapter 42: the law Progress. -/
namespace Go.Proofs.YtbbjlleaofgddaaGreat
open Go.RowKit
theorem cRunI_ok {ρ : Env} (h : Sees ρ Q5 230) : CtOne Tryz.prog ρ 27 (cRunI Tryz.prog) := by
  have key : CtOne Tryz.prog ρ 27 (fun args mem nx => call Tryz.prog (ctX2 Tryz.prog) ⟨[(27, 2000012)], hProg, []⟩ 200 27 args mem nx) := ct_inline (by kernel_rfl) (by kernel_rfl) (fun ρ' ha => ctX2_ok (h.agree ha))
  exact key
theorem ctX6_ok {ρ : Env} (h : Sees ρ Q5 230) : CtOk Tryz.prog ρ (ctX6 Tryz.prog) := .cons (cRunI_ok h) (ctX0_ok h)
theorem bx_same (N : Rows) : bxL [D.i ((N.length : Nat) : Int), D.l [], D.i ((N.length : Nat) : Int), D.l []] = true := by
  unfold bxL
  rw [Bool.and_eq_true, decide_eq_true_eq]
  exact ⟨rfl, rfl⟩
theorem eq_same (N : Rows) : eqRL [D.l N, D.l N] = true := by
  rw [eqRL_two]; exact eqb_iff.2 rfl
set_option maxHeartbeats 4000000 in
theorem gProgLaw : GivesIf Tryz.prog 5 [nots, ints] scrOk (fun _ => .bool true) := by
  refine fn_gives Q5 (by kernel_rfl) (fun ρ h => ctX6_ok (Sees.of h 230)) (by kernel_rfl) trLawProg_is trLawProg_low (by decide) (fun W vals ds hr hok => ?_)
  have hwf := rep_args hr
  have wN := rAt_wf (j := 0) hwf rfl
  have wS := rAt_wf (j := 1) hwf rfl
  have hN : ∀ row ∈ rAt ds 0, notWf row := fun row hrow => not_row (wN.2 row hrow)
  have hlS := wS.1
  unfold scrOk at hok
  clear hr hwf wN wS
  simp only [trLawProg, TT.sat_ret, TT.sat_ite, TT.sat_ob, TT.sat_next, TT.sat_stuck, put_i, put_b, put_d, put_fi, put_fb, put_fd, Ob.ok, B.ev, E.ev, X.ev, AL.ev, cmp_t, cmp_f, arEv, V.plain, V2.plain, S.plain, S0.plain, V.val, V2.val, S.val, S0.val, bV, iV, List.all_cons, List.all_nil, Bool.and_true, Bool.and_self, envOf_i, envOf_b, envOf_d, List.map_cons, List.map_nil, true_and, Bool.not_eq_true', Bool.not_eq_false', Bool.not_not, Bool.and_eq_true, and_f, cell_lg, cell_lb, cell_lr, cmpP, val_i, val_b, val_d, aget, Nat.reduceBEq, beq_self_eq_true, Bool.false_eq_true, if_true, if_false, Nat.reduceLT, Nat.reduceSub, Nat.sub_self, Nat.lt_irrefl, Q5b222, X.ev]
  generalize e0 : rAt ds 0 = N at *
  generalize e9 : rAt ds 1 = O at *
  refine ⟨fun _ => trivial, fun hf => ⟨fun _ => trivial, fun h40 => ⟨by omega, ?_⟩⟩⟩
  have hl12 : N.length ≤ 12 := by
    have hf : fewL [D.l N] = true := by simpa using hf
    unfold fewL at hf
    simp only [Bool.and_eq_true, decide_eq_true_eq] at hf
    exact hf.1
  clear hf
  refine TT.sat_loop (fun v => ∃ i : Nat, v.i 1 = i ∧ i ≤ N.length ∧ v.d 2 = O ++ rows1 (List.replicate i 7)) (fun v => N.length - (v.i 1).toNat) ⟨0, ?_, Nat.zero_le _, ?_⟩ (fun a ha => ?_)
  · simp only [val_i, aget, E.ev]; rfl
  · simp only [TT.sat_ret, TT.sat_ite, TT.sat_ob, TT.sat_next, TT.sat_stuck, put_i, put_b, put_d, put_fi, put_fb, put_fd, Ob.ok, B.ev, E.ev, X.ev, AL.ev, cmp_t, cmp_f, arEv, V.plain, V2.plain, S.plain, S0.plain, V.val, V2.val, S.val, S0.val, bV, iV, List.all_cons, List.all_nil, Bool.and_true, Bool.and_self, envOf_i, envOf_b, envOf_d, List.map_cons, List.map_nil, true_and, Bool.not_eq_true', Bool.not_eq_false', Bool.not_not, Bool.and_eq_true, and_f, cell_lg, cell_lb, cell_lr, cmpP, val_i, val_b, val_d, aget, Nat.reduceBEq, beq_self_eq_true, Bool.false_eq_true, if_true, if_false, Nat.reduceLT, Nat.reduceSub, Nat.sub_self, Nat.lt_irrefl, val_d, X.ev, e9]; simp [rows1]
  obtain ⟨ai, a1, a2, a3⟩ := ha
  simp only [TT.sat_ret, TT.sat_ite, TT.sat_ob, TT.sat_next, TT.sat_stuck, put_i, put_b, put_d, put_fi, put_fb, put_fd, Ob.ok, B.ev, E.ev, X.ev, AL.ev, cmp_t, cmp_f, arEv, V.plain, V2.plain, S.plain, S0.plain, V.val, V2.val, S.val, S0.val, bV, iV, List.all_cons, List.all_nil, Bool.and_true, Bool.and_self, envOf_i, envOf_b, envOf_d, List.map_cons, List.map_nil, true_and, Bool.not_eq_true', Bool.not_eq_false', Bool.not_not, Bool.and_eq_true, and_f, cell_lg, cell_lb, cell_lr, cmpP, val_i, val_b, val_d, aget, Nat.reduceBEq, beq_self_eq_true, Bool.false_eq_true, if_true, if_false, Nat.reduceLT, Nat.reduceSub, Nat.sub_self, Nat.lt_irrefl, a1, a3, e0, X.ev]
  refine ⟨fun hc => ⟨?_, ⟨ai + 1, ?_, by omega, ?_⟩, ?_⟩, fun hc => ?_⟩
  · simp only [List.length_append, rows1_len, List.length_replicate, List.length_cons, List.length_nil]; omega
  · rw [wrap_in ((ai : Int) + 1) (by omega) (by omega)]; rfl
  · rw [List.replicate_succ', ← rows1_app]; simp [rows1]
  · rw [wrap_in ((ai : Int) + 1) (by omega) (by omega)]; omega
  obtain rfl : ai = N.length := by omega
  have hw4 : IntKind.i64.wrap (4 * ((O.length : Nat) : Int)) = ((4 * O.length : Nat) : Int) := by rw [wrap_in _ (by omega) (by omega)]; omega
  refine TT.sat_loop (fun v => ∃ i : Nat, v.i 1 = i ∧ i ≤ 4 * O.length ∧ v.d 2 = O ++ rows1 (List.replicate N.length 7 ++ lose i)) (fun v => 4 * O.length - (v.i 1).toNat) ⟨0, ?_, Nat.zero_le _, ?_⟩ (fun b hb => ?_)
  · simp only [val_i, aget, E.ev]; rfl
  · simp only [TT.sat_ret, TT.sat_ite, TT.sat_ob, TT.sat_next, TT.sat_stuck, put_i, put_b, put_d, put_fi, put_fb, put_fd, Ob.ok, B.ev, E.ev, X.ev, AL.ev, cmp_t, cmp_f, arEv, V.plain, V2.plain, S.plain, S0.plain, V.val, V2.val, S.val, S0.val, bV, iV, List.all_cons, List.all_nil, Bool.and_true, Bool.and_self, envOf_i, envOf_b, envOf_d, List.map_cons, List.map_nil, true_and, Bool.not_eq_true', Bool.not_eq_false', Bool.not_not, Bool.and_eq_true, and_f, cell_lg, cell_lb, cell_lr, cmpP, val_i, val_b, val_d, aget, Nat.reduceBEq, beq_self_eq_true, Bool.false_eq_true, if_true, if_false, Nat.reduceLT, Nat.reduceSub, Nat.sub_self, Nat.lt_irrefl, val_d, X.ev, a3]; simp [lose]
  obtain ⟨bi, b1, b2, b3⟩ := hb
  simp only [TT.sat_ret, TT.sat_ite, TT.sat_ob, TT.sat_next, TT.sat_stuck, put_i, put_b, put_d, put_fi, put_fb, put_fd, Ob.ok, B.ev, E.ev, X.ev, AL.ev, cmp_t, cmp_f, arEv, V.plain, V2.plain, S.plain, S0.plain, V.val, V2.val, S.val, S0.val, bV, iV, List.all_cons, List.all_nil, Bool.and_true, Bool.and_self, envOf_i, envOf_b, envOf_d, List.map_cons, List.map_nil, true_and, Bool.not_eq_true', Bool.not_eq_false', Bool.not_not, Bool.and_eq_true, and_f, cell_lg, cell_lb, cell_lr, cmpP, val_i, val_b, val_d, aget, Nat.reduceBEq, beq_self_eq_true, Bool.false_eq_true, if_true, if_false, Nat.reduceLT, Nat.reduceSub, Nat.sub_self, Nat.lt_irrefl, b1, b3, e9, X.ev, hw4]
  have ll : ∀ k, (lose k).length = 2 * k := fun k => by unfold lose; rw [List.length_flatten]; simp; omega
  have lr' : ∀ k, (rounds k).length = 9 * k := fun k => by unfold rounds; rw [List.length_flatten]; simp [round1]; omega
  refine ⟨fun hc => ⟨?_, ⟨bi + 1, ?_, by omega, ?_⟩, ?_⟩, fun hc => ?_⟩
  · simp only [List.length_append, rows1_len, List.length_replicate, List.length_cons, List.length_nil, ll]; omega
  · rw [wrap_in ((bi : Int) + 1) (by omega) (by omega)]; rfl
  · have e : lose (bi + 1) = lose bi ++ [3, 6] := by unfold lose; rw [List.replicate_succ']; simp
    rw [e, ← List.append_assoc (List.replicate N.length 7), ← rows1_app]; simp [rows1]
  · rw [wrap_in ((bi : Int) + 1) (by omega) (by omega)]; omega
  obtain rfl : bi = 4 * O.length := by omega
  have hw5 : IntKind.i64.wrap (IntKind.i64.wrap (((N.length : Nat) : Int).tdiv 4) + 1) = ((N.length / 4 + 1 : Nat) : Int) := by
    have e : ((N.length : Nat) : Int).tdiv 4 = ((N.length / 4 : Nat) : Int) := rfl
    rw [e, wrap_in ((N.length / 4 : Nat) : Int) (by omega) (by omega), wrap_in _ (by omega) (by omega)]; rfl
  refine TT.sat_loop (fun v => ∃ i : Nat, v.i 1 = i ∧ i ≤ N.length / 4 + 1 ∧ v.d 2 = O ++ rows1 (List.replicate N.length 7 ++ (lose (4 * O.length) ++ rounds i))) (fun v => N.length / 4 + 1 - (v.i 1).toNat) ⟨0, ?_, Nat.zero_le _, ?_⟩ (fun w hw => ?_)
  · simp only [val_i, aget, E.ev]; rfl
  · simp only [TT.sat_ret, TT.sat_ite, TT.sat_ob, TT.sat_next, TT.sat_stuck, put_i, put_b, put_d, put_fi, put_fb, put_fd, Ob.ok, B.ev, E.ev, X.ev, AL.ev, cmp_t, cmp_f, arEv, V.plain, V2.plain, S.plain, S0.plain, V.val, V2.val, S.val, S0.val, bV, iV, List.all_cons, List.all_nil, Bool.and_true, Bool.and_self, envOf_i, envOf_b, envOf_d, List.map_cons, List.map_nil, true_and, Bool.not_eq_true', Bool.not_eq_false', Bool.not_not, Bool.and_eq_true, and_f, cell_lg, cell_lb, cell_lr, cmpP, val_i, val_b, val_d, aget, Nat.reduceBEq, beq_self_eq_true, Bool.false_eq_true, if_true, if_false, Nat.reduceLT, Nat.reduceSub, Nat.sub_self, Nat.lt_irrefl, val_d, X.ev, b3]; simp [rounds]
  obtain ⟨ci, c1, c2, c3⟩ := hw
  simp only [TT.sat_ret, TT.sat_ite, TT.sat_ob, TT.sat_next, TT.sat_stuck, put_i, put_b, put_d, put_fi, put_fb, put_fd, Ob.ok, B.ev, E.ev, X.ev, AL.ev, cmp_t, cmp_f, arEv, V.plain, V2.plain, S.plain, S0.plain, V.val, V2.val, S.val, S0.val, bV, iV, List.all_cons, List.all_nil, Bool.and_true, Bool.and_self, envOf_i, envOf_b, envOf_d, List.map_cons, List.map_nil, true_and, Bool.not_eq_true', Bool.not_eq_false', Bool.not_not, Bool.and_eq_true, and_f, cell_lg, cell_lb, cell_lr, cmpP, val_i, val_b, val_d, aget, Nat.reduceBEq, beq_self_eq_true, Bool.false_eq_true, if_true, if_false, Nat.reduceLT, Nat.reduceSub, Nat.sub_self, Nat.lt_irrefl, c1, c3, e0, X.ev, hw5]
  refine ⟨fun hc => ⟨?_, ⟨ci + 1, ?_, by omega, ?_⟩, ?_⟩, fun hc => ?_⟩
  · simp only [List.length_append, rows1_len, List.length_replicate, List.length_cons, List.length_nil, ll, lr']; omega
  · rw [wrap_in ((ci : Int) + 1) (by omega) (by omega)]; rfl
  · have e : rounds (ci + 1) = rounds ci ++ round1 := by unfold rounds; rw [List.replicate_succ']; simp
    rw [e, ← List.append_assoc (lose _), ← List.append_assoc (List.replicate N.length 7), ← rows1_app]; simp [rows1, round1]
  · rw [wrap_in ((ci : Int) + 1) (by omega) (by omega)]; omega
  obtain rfl : ci = N.length / 4 + 1 := by omega
  have c3 : w.d 2 = O ++ rows1 (prog N.length O.length) := c3
  have hRl : (w.d 2).length ≤ 1000 := by rw [c3, List.length_append, rows1_len, prog_len]; omega
  have hRm : ∀ i, i < (w.d 2).length → lg (w.d 2) i 0 ≤ 9223372036854775807 := by
    rw [c3]; exact app_le hok (fun k hk => by have := prog_le _ _ k hk; omega)
  have hRs : (RS.run N.length (scr (w.d 2) (w.d 2).length)).s = N.length := by rw [c3, scr_app]; exact prog_all.2
  clear hok hlS ll lr' hw4 hw5 a1 a2 a3 b1 b2 b3 c1 c2 c3 e9 h40 hc
  generalize e1 : w.d 2 = R at *
  have hok := hRm
  refine TT.sat_join (fun u => u.b 4 = !runOB N R) (fun u hu => ?_) (fun u hu hU => ?_)
  · simp only [TT.sat_ret, TT.sat_ite, TT.sat_ob, TT.sat_next, TT.sat_stuck, put_i, put_b, put_d, put_fi, put_fb, put_fd, Ob.ok, B.ev, E.ev, X.ev, AL.ev, cmp_t, cmp_f, arEv, V.plain, V2.plain, S.plain, S0.plain, V.val, V2.val, S.val, S0.val, bV, iV, List.all_cons, List.all_nil, Bool.and_true, Bool.and_self, envOf_i, envOf_b, envOf_d, List.map_cons, List.map_nil, true_and, Bool.not_eq_true', Bool.not_eq_false', Bool.not_not, Bool.and_eq_true, and_f, cell_lg, cell_lb, cell_lr, cmpP, val_i, val_b, val_d, aget, Nat.reduceBEq, beq_self_eq_true, Bool.false_eq_true, if_true, if_false, Nat.reduceLT, Nat.reduceSub, Nat.sub_self, Nat.lt_irrefl, hu, e0, e1, Q5b202, are_one]
    refine ⟨fun h => ?_, fun h => ⟨fun h2 => ?_, fun h2 => ?_⟩⟩
    · unfold runOB; rw [h]; rfl
    · unfold runOB; rw [decide_eq_false (show ¬ R.length ≤ 1000 by omega), Bool.false_and, Bool.and_false]; rfl
    refine TT.sat_loop (fun v => ∃ i : Nat, v.i 0 = i ∧ i ≤ R.length ∧ ∀ k : Nat, k < i → 0 ≤ lg R k 0) (fun v => R.length - (v.i 0).toNat) ⟨0, by simp [val_i, aget, E.ev], by omega, fun k hk => by omega⟩ (fun v hv => ?_)
    obtain ⟨i, i0, i1, i2⟩ := hv
    simp only [TT.sat_ret, TT.sat_ite, TT.sat_ob, TT.sat_next, TT.sat_stuck, put_i, put_b, put_d, put_fi, put_fb, put_fd, Ob.ok, B.ev, E.ev, X.ev, AL.ev, cmp_t, cmp_f, arEv, V.plain, V2.plain, S.plain, S0.plain, V.val, V2.val, S.val, S0.val, bV, iV, List.all_cons, List.all_nil, Bool.and_true, Bool.and_self, envOf_i, envOf_b, envOf_d, List.map_cons, List.map_nil, true_and, Bool.not_eq_true', Bool.not_eq_false', Bool.not_not, Bool.and_eq_true, and_f, cell_lg, cell_lb, cell_lr, cmpP, val_i, val_b, val_d, aget, Nat.reduceBEq, beq_self_eq_true, Bool.false_eq_true, if_true, if_false, Nat.reduceLT, Nat.reduceSub, Nat.sub_self, Nat.lt_irrefl, i0, e1]
    rw [if_neg (by decide), if_neg (by decide)]
    refine ⟨fun hc => ⟨by omega, hc, fun hn => ?_, fun hp => ?_⟩, fun hc => ?_⟩
    · rw [ge_dec, decide_eq_true (by omega)]
      unfold runOB
      rw [decide_eq_false (p := ∀ i, i < R.length → 0 ≤ lg R i 0) (fun q => by have := q i (by omega); omega), Bool.and_false, Bool.and_false]; rfl
    · rw [wrap_in ((i : Int) + 1) (by omega) (by omega)]
      refine ⟨⟨i + 1, rfl, by omega, fun k hk => ?_⟩, by omega⟩
      by_cases e : k = i
      · subst e; omega
      · exact i2 k (by omega)
    · unfold runOB
      rw [h, decide_eq_true (show R.length ≤ 1000 by omega), decide_eq_true (p := ∀ i, i < R.length → 0 ≤ lg R i 0) (fun k hk => i2 k (by omega))]; rfl
  simp only [TT.sat_ret, TT.sat_ite, TT.sat_ob, TT.sat_next, TT.sat_stuck, put_i, put_b, put_d, put_fi, put_fb, put_fd, Ob.ok, B.ev, E.ev, X.ev, AL.ev, cmp_t, cmp_f, arEv, V.plain, V2.plain, S.plain, S0.plain, V.val, V2.val, S.val, S0.val, bV, iV, List.all_cons, List.all_nil, Bool.and_true, Bool.and_self, envOf_i, envOf_b, envOf_d, List.map_cons, List.map_nil, true_and, Bool.not_eq_true', Bool.not_eq_false', Bool.not_not, Bool.and_eq_true, and_f, cell_lg, cell_lb, cell_lr, cmpP, val_i, val_b, val_d, aget, Nat.reduceBEq, beq_self_eq_true, Bool.false_eq_true, if_true, if_false, Nat.reduceLT, Nat.reduceSub, Nat.sub_self, Nat.lt_irrefl, hu, hU]
  refine ⟨fun h => ?_, fun h => ?_⟩
  · trivial
  have hO : runOB N R = true := by simpa using h
  unfold runOB at hO
  simp only [Bool.and_eq_true, decide_eq_true_eq] at hO
  obtain ⟨hA, hlR, hpos⟩ := hO
  have hnl := not_len hA
  refine TT.sat_loop (fun v => ∃ i : Nat, Inv N R i v) (fun v => R.length - (v.i 0).toNat) ⟨0, ?_⟩ (fun v hv => ?_)
  · refine ⟨Nat.zero_le _, ?_, ?_, ?_, ?_, ?_, ?_, ?_, ?_, ?_, ?_⟩
    all_goals simp only [TT.sat_ret, TT.sat_ite, TT.sat_ob, TT.sat_next, TT.sat_stuck, put_i, put_b, put_d, put_fi, put_fb, put_fd, Ob.ok, B.ev, E.ev, X.ev, AL.ev, cmp_t, cmp_f, arEv, V.plain, V2.plain, S.plain, S0.plain, V.val, V2.val, S.val, S0.val, bV, iV, List.all_cons, List.all_nil, Bool.and_true, Bool.and_self, envOf_i, envOf_b, envOf_d, List.map_cons, List.map_nil, true_and, Bool.not_eq_true', Bool.not_eq_false', Bool.not_not, Bool.and_eq_true, and_f, cell_lg, cell_lb, cell_lr, cmpP, val_i, val_b, val_d, aget, Nat.reduceBEq, beq_self_eq_true, Bool.false_eq_true, if_true, if_false, Nat.reduceLT, Nat.reduceSub, Nat.sub_self, Nat.lt_irrefl, val_i, val_d, X.ev, e0, e1]
    all_goals first | exact Int.le_refl _ | rfl
  obtain ⟨i, hI⟩ := hv
  have hxO := RS.run_ok N.length (scr R i)
  obtain ⟨lw, lb⟩ := run_len N.length R i
  have hmx : ∀ hi : i < R.length, lg R i 0 = ((lg R i 0).toNat : Int) := fun hi => by have := hpos i hi; omega
  have hmb : ∀ hi : i < R.length, lg R i 0 ≤ 9223372036854775807 := fun hi => hok i hi
  generalize hx : RS.run N.length (scr R i) = x at *
  have i0 := hI.i0
  have sq := hI.sq
  have qu := hI.qu
  have got := hI.got
  have lo := hI.lo
  have early := hI.early
  have way := hI.way
  have back := hI.back
  have told := hI.told
  have left := hI.left
  have le := hI.le
  rw [hx] at sq qu got early way back told left
  simp only [TT.sat_ret, TT.sat_ite, TT.sat_ob, TT.sat_next, TT.sat_stuck, put_i, put_b, put_d, put_fi, put_fb, put_fd, Ob.ok, B.ev, E.ev, X.ev, AL.ev, cmp_t, cmp_f, arEv, V.plain, V2.plain, S.plain, S0.plain, V.val, V2.val, S.val, S0.val, bV, iV, List.all_cons, List.all_nil, Bool.and_true, Bool.and_self, envOf_i, envOf_b, envOf_d, List.map_cons, List.map_nil, true_and, Bool.not_eq_true', Bool.not_eq_false', Bool.not_not, Bool.and_eq_true, and_f, cell_lg, cell_lb, cell_lr, cmpP, val_i, val_b, val_d, aget, Nat.reduceBEq, beq_self_eq_true, Bool.false_eq_true, if_true, if_false, Nat.reduceLT, Nat.reduceSub, Nat.sub_self, Nat.lt_irrefl, i0, e1]
  refine ⟨fun hc => ⟨by omega, hc, ?_⟩, fun hc => ?_⟩
  rotate_left
  · obtain rfl : i = R.length := by omega
    have hg := hxO.sg
    have hg2 := hxO.gh
    have hg3 := hxO.hn
    have hsx : x.s = N.length := by rw [← hx]; exact hRs
    have eg : x.g = N.length := by omega
    have eq : lts N x.q = [] := by rw [List.eq_nil_iff_length_eq_zero, lts_len, hxO.q_len]; omega
    simp only [TT.sat_ret, TT.sat_ite, TT.sat_ob, TT.sat_next, TT.sat_stuck, put_i, put_b, put_d, put_fi, put_fb, put_fd, Ob.ok, B.ev, E.ev, X.ev, AL.ev, cmp_t, cmp_f, arEv, V.plain, V2.plain, S.plain, S0.plain, V.val, V2.val, S.val, S0.val, bV, iV, List.all_cons, List.all_nil, Bool.and_true, Bool.and_self, envOf_i, envOf_b, envOf_d, List.map_cons, List.map_nil, true_and, Bool.not_eq_true', Bool.not_eq_false', Bool.not_not, Bool.and_eq_true, and_f, cell_lg, cell_lb, cell_lr, cmpP, val_i, val_b, val_d, aget, Nat.reduceBEq, beq_self_eq_true, Bool.false_eq_true, if_true, if_false, Nat.reduceLT, Nat.reduceSub, Nat.sub_self, Nat.lt_irrefl, X.ev, told, sq, qu, e0, Q5b220, Q5b224, eg, eq, hsx, List.take_length]
    exact ⟨fun _ => by rw [bx_same N], fun h => by rw [eq_same] at h; cases h⟩
  have hi : i < R.length := by omega
  have hK := hmx hi
  have hKb := hmb hi
  generalize hk : (lg R i 0).toNat = K at *
  rw [hK] at hKb
  have step : ∀ {y : RS} {u : LV}, x.step N.length K = y → u.i 0 = (i : Int) + 1 → u.i 15 = y.s → u.d 4 = lts N y.q → u.i 6 = y.g → 0 ≤ u.i 9 → subR (u.d 8) (u.i 9) (u.i 10) = lts N y.e → u.d 2 = lts N y.w → u.d 12 = acks y.b → u.d 14 = N.take y.g → u.d 5 = N.drop y.h → Inv N R (i + 1) u :=
    fun h1 h2 h3 h4 h5 h6 h7 h8 h9 h10 h11 => step_kind hI hi (by rw [hx, hk]; exact h1) h2 h3 h4 h5 h6 h7 h8 h9 h10 h11
  have w1 : IntKind.i64.wrap ((i : Int) + 1) = (i : Int) + 1 := wrap_in _ (by omega) (by omega)
  have wK : IntKind.i64.wrap ((K / 8 : Nat) : Int) = ((K / 8 : Nat) : Int) := wrap_in _ (by omega) (by omega)
  simp only [TT.sat_ret, TT.sat_ite, TT.sat_ob, TT.sat_next, TT.sat_stuck, put_i, put_b, put_d, put_fi, put_fb, put_fd, Ob.ok, B.ev, E.ev, X.ev, AL.ev, cmp_t, cmp_f, arEv, V.plain, V2.plain, S.plain, S0.plain, V.val, V2.val, S.val, S0.val, bV, iV, List.all_cons, List.all_nil, Bool.and_true, Bool.and_self, envOf_i, envOf_b, envOf_d, List.map_cons, List.map_nil, true_and, Bool.not_eq_true', Bool.not_eq_false', Bool.not_not, Bool.and_eq_true, and_f, cell_lg, cell_lb, cell_lr, cmpP, val_i, val_b, val_d, aget, Nat.reduceBEq, beq_self_eq_true, Bool.false_eq_true, if_true, if_false, Nat.reduceLT, Nat.reduceSub, Nat.sub_self, Nat.lt_irrefl, hK, tm8]
  have hsg := hxO.sg
  have hgh := hxO.gh
  have hhn := hxO.hn
  have hOB := hxO.outB hA
  have hIB := hxO.inB hA
  have hql := hxO.q_len
  have eS4 : subR (lts N x.q) 0 (min 4 ((x.q.length : Nat) : Int)) = lts N (x.q.take 4) := by rw [← lts_take, ← sub_take4, lts_len]
  clear hI
  refine ⟨fun h0 => ?_, fun n0 => ⟨fun h1 => ?_, fun n1 => ⟨fun h2 => ?_, fun n2 => ⟨fun h3 => ?_, fun n3 => ⟨fun h4 => ?_, fun n4 => ⟨fun h5 => ?_, fun n5 => ⟨fun h6 => ?_, fun n6 => ⟨fun h7 => ?_, fun n7 => ?_⟩⟩⟩⟩⟩⟩⟩⟩
  rotate_right
  · omega
  · -- the outbox sends
    simp only [sq, qu, way, Q5b210, out_two, hOB, lts_len, eS4]
    refine ⟨fun h => (by cases h), fun _ => ⟨by omega, by omega, ?_, ?_, ?_⟩⟩
    · rw [List.length_take]; omega
    · rw [List.length_append, lts_len, lts_len, List.length_take]; omega
    · refine ⟨⟨i + 1, step (stepc0 (by omega)) ?_ ?_ ?_ ?_ ?_ ?_ ?_ ?_ ?_ ?_⟩, by rw [w1]; omega⟩
      all_goals simp only [TT.sat_ret, TT.sat_ite, TT.sat_ob, TT.sat_next, TT.sat_stuck, put_i, put_b, put_d, put_fi, put_fb, put_fd, Ob.ok, B.ev, E.ev, X.ev, AL.ev, cmp_t, cmp_f, arEv, V.plain, V2.plain, S.plain, S0.plain, V.val, V2.val, S.val, S0.val, bV, iV, List.all_cons, List.all_nil, Bool.and_true, Bool.and_self, envOf_i, envOf_b, envOf_d, List.map_cons, List.map_nil, true_and, Bool.not_eq_true', Bool.not_eq_false', Bool.not_not, Bool.and_eq_true, and_f, cell_lg, cell_lb, cell_lr, cmpP, val_i, val_b, val_d, aget, Nat.reduceBEq, beq_self_eq_true, Bool.false_eq_true, if_true, if_false, Nat.reduceLT, Nat.reduceSub, Nat.sub_self, Nat.lt_irrefl, X.ev, val_i, val_d, i0, sq, qu, got, way, back, told, left, early, w1, lts_len, eS4, lts_app, out_q]
      all_goals first | rfl | assumption | omega
  rotate_left
  rotate_left
  · -- a letter is lost
    simp only [way, lts_len]
    refine ⟨fun z => ?_, fun z => ?_⟩
    · refine ⟨⟨i + 1, step (stepw (.inr (.inr (by omega))) (by omega)) ?_ ?_ ?_ ?_ ?_ ?_ ?_ ?_ ?_ ?_⟩, by rw [w1]; omega⟩
      all_goals simp only [TT.sat_ret, TT.sat_ite, TT.sat_ob, TT.sat_next, TT.sat_stuck, put_i, put_b, put_d, put_fi, put_fb, put_fd, Ob.ok, B.ev, E.ev, X.ev, AL.ev, cmp_t, cmp_f, arEv, V.plain, V2.plain, S.plain, S0.plain, V.val, V2.val, S.val, S0.val, bV, iV, List.all_cons, List.all_nil, Bool.and_true, Bool.and_self, envOf_i, envOf_b, envOf_d, List.map_cons, List.map_nil, true_and, Bool.not_eq_true', Bool.not_eq_false', Bool.not_not, Bool.and_eq_true, and_f, cell_lg, cell_lb, cell_lr, cmpP, val_i, val_b, val_d, aget, Nat.reduceBEq, beq_self_eq_true, Bool.false_eq_true, if_true, if_false, Nat.reduceLT, Nat.reduceSub, Nat.sub_self, Nat.lt_irrefl, X.ev, val_i, val_d, i0, sq, qu, got, way, back, told, left, early, w1]
      all_goals first | rfl | assumption | omega
    have hp : K / 8 % x.w.length < x.w.length := Nat.mod_lt _ (by omega)
    have hidx : (IntKind.i64.wrap ((K : Int).tdiv 8)).tmod ((x.w.length : Nat) : Int) = ((K / 8 % x.w.length : Nat) : Int) := by rw [td8, wK, tmN]
    have wp : IntKind.i64.wrap (((K / 8 % x.w.length : Nat) : Int) + 1) = ((K / 8 % x.w.length : Nat) : Int) + 1 := wrap_in _ (by omega) (by omega)
    have hcut : subR (lts N x.w) 0 ((K / 8 % x.w.length : Nat) : Int) ++ subR (lts N x.w) (((K / 8 % x.w.length : Nat) : Int) + 1) ((x.w.length : Nat) : Int) = lts N (x.w.eraseIdx (K / 8 % x.w.length)) := by
      rw [← lts_erase, ← cut_erase _ (by rw [lts_len]; exact hp), lts_len]
    simp only [TT.sat_ret, TT.sat_ite, TT.sat_ob, TT.sat_next, TT.sat_stuck, put_i, put_b, put_d, put_fi, put_fb, put_fd, Ob.ok, B.ev, E.ev, X.ev, AL.ev, cmp_t, cmp_f, arEv, V.plain, V2.plain, S.plain, S0.plain, V.val, V2.val, S.val, S0.val, bV, iV, List.all_cons, List.all_nil, Bool.and_true, Bool.and_self, envOf_i, envOf_b, envOf_d, List.map_cons, List.map_nil, true_and, Bool.not_eq_true', Bool.not_eq_false', Bool.not_not, Bool.and_eq_true, and_f, cell_lg, cell_lb, cell_lr, cmpP, val_i, val_b, val_d, aget, Nat.reduceBEq, beq_self_eq_true, Bool.false_eq_true, if_true, if_false, Nat.reduceLT, Nat.reduceSub, Nat.sub_self, Nat.lt_irrefl, way, lts_len, hK, hidx, wp]
    iterate 6 (refine ⟨by omega, ?_⟩)
    · refine ⟨⟨i + 1, step (stepc3 (by omega) (by omega)) ?_ ?_ ?_ ?_ ?_ ?_ ?_ ?_ ?_ ?_⟩, by rw [w1]; omega⟩
      all_goals simp only [TT.sat_ret, TT.sat_ite, TT.sat_ob, TT.sat_next, TT.sat_stuck, put_i, put_b, put_d, put_fi, put_fb, put_fd, Ob.ok, B.ev, E.ev, X.ev, AL.ev, cmp_t, cmp_f, arEv, V.plain, V2.plain, S.plain, S0.plain, V.val, V2.val, S.val, S0.val, bV, iV, List.all_cons, List.all_nil, Bool.and_true, Bool.and_self, envOf_i, envOf_b, envOf_d, List.map_cons, List.map_nil, true_and, Bool.not_eq_true', Bool.not_eq_false', Bool.not_not, Bool.and_eq_true, and_f, cell_lg, cell_lb, cell_lr, cmpP, val_i, val_b, val_d, aget, Nat.reduceBEq, beq_self_eq_true, Bool.false_eq_true, if_true, if_false, Nat.reduceLT, Nat.reduceSub, Nat.sub_self, Nat.lt_irrefl, X.ev, val_i, val_d, i0, sq, qu, got, way, back, told, left, early, w1, lts_len, hK, e1, hidx, wp, hcut]
      all_goals first | rfl | assumption | omega
  rotate_left
  · -- an acknowledgement arrives
    simp only [back, acks_len]
    refine ⟨fun z => ?_, fun z => ?_⟩
    · refine ⟨⟨i + 1, step (stepb (.inr (.inl (by omega))) (by omega)) ?_ ?_ ?_ ?_ ?_ ?_ ?_ ?_ ?_ ?_⟩, by rw [w1]; omega⟩
      all_goals simp only [TT.sat_ret, TT.sat_ite, TT.sat_ob, TT.sat_next, TT.sat_stuck, put_i, put_b, put_d, put_fi, put_fb, put_fd, Ob.ok, B.ev, E.ev, X.ev, AL.ev, cmp_t, cmp_f, arEv, V.plain, V2.plain, S.plain, S0.plain, V.val, V2.val, S.val, S0.val, bV, iV, List.all_cons, List.all_nil, Bool.and_true, Bool.and_self, envOf_i, envOf_b, envOf_d, List.map_cons, List.map_nil, true_and, Bool.not_eq_true', Bool.not_eq_false', Bool.not_not, Bool.and_eq_true, and_f, cell_lg, cell_lb, cell_lr, cmpP, val_i, val_b, val_d, aget, Nat.reduceBEq, beq_self_eq_true, Bool.false_eq_true, if_true, if_false, Nat.reduceLT, Nat.reduceSub, Nat.sub_self, Nat.lt_irrefl, X.ev, val_i, val_d, i0, sq, qu, got, way, back, told, left, early, w1]
      all_goals first | rfl | assumption | omega
    have hp : K / 8 % x.b.length < x.b.length := Nat.mod_lt _ (by omega)
    have hidx : (IntKind.i64.wrap ((K : Int).tdiv 8)).tmod ((x.b.length : Nat) : Int) = ((K / 8 % x.b.length : Nat) : Int) := by rw [td8, wK, tmN]
    have wp : IntKind.i64.wrap (((K / 8 % x.b.length : Nat) : Int) + 1) = ((K / 8 % x.b.length : Nat) : Int) + 1 := wrap_in _ (by omega) (by omega)
    have hcut : subR (acks x.b) 0 ((K / 8 % x.b.length : Nat) : Int) ++ subR (acks x.b) (((K / 8 % x.b.length : Nat) : Int) + 1) ((x.b.length : Nat) : Int) = acks (x.b.eraseIdx (K / 8 % x.b.length)) := by
      rw [← acks_erase, ← cut_erase _ (by rw [acks_len]; exact hp), acks_len]
    have ha : x.b.getD (K / 8 % x.b.length) 0 ≤ x.g := hxO.bg _ (getD_mem hp)
    have cg := fun j => acks_lg hp j
    have cb := fun j => acks_lb hp j
    have cr := fun j => acks_lr hp j
    generalize hA' : x.b.getD (K / 8 % x.b.length) 0 = a at *
    generalize hP : K / 8 % x.b.length = p at *
    have eA : [D.i 2, D.i 1, D.i (cI (ackR a) 2), D.b (cB (ackR a) 3), D.i (cI (ackR a) 4), D.i (cI (ackR a) 5), D.i (cI (ackR a) 6), D.i (cI (ackR a) 7), D.i (cI (ackR a) 8), D.i (cI (ackR a) 9), D.l (cR (ackR a) 10)] = ackR a := rfl
    have a0 : cI (ackR a) 0 = 2 := rfl
    have a1 : cI (ackR a) 1 = 1 := rfl
    have a2 : cI (ackR a) 2 = (a : Int) := rfl
    have hack := ackR_ack (g := a) (by omega)
    have hour := lts_ours hA (l := x.q) (fun k hk => by have := hxO.q_mem k hk; omega)
    simp only [TT.sat_ret, TT.sat_ite, TT.sat_ob, TT.sat_next, TT.sat_stuck, put_i, put_b, put_d, put_fi, put_fb, put_fd, Ob.ok, B.ev, E.ev, X.ev, AL.ev, cmp_t, cmp_f, arEv, V.plain, V2.plain, S.plain, S0.plain, V.val, V2.val, S.val, S0.val, bV, iV, List.all_cons, List.all_nil, Bool.and_true, Bool.and_self, envOf_i, envOf_b, envOf_d, List.map_cons, List.map_nil, true_and, Bool.not_eq_true', Bool.not_eq_false', Bool.not_not, Bool.and_eq_true, and_f, cell_lg, cell_lb, cell_lr, cmpP, val_i, val_b, val_d, aget, Nat.reduceBEq, beq_self_eq_true, Bool.false_eq_true, if_true, if_false, Nat.reduceLT, Nat.reduceSub, Nat.sub_self, Nat.lt_irrefl, back, acks_len, hK, hidx, wp]
    iterate 3 (refine ⟨by omega, ?_⟩)
    refine TT.sat_join (fun u => u.b 3 = false) (fun y hy => ?_) (fun y hy hY => ?_)
    · simp only [TT.sat_ret, TT.sat_ite, TT.sat_ob, TT.sat_next, TT.sat_stuck, put_i, put_b, put_d, put_fi, put_fb, put_fd, Ob.ok, B.ev, E.ev, X.ev, AL.ev, cmp_t, cmp_f, arEv, V.plain, V2.plain, S.plain, S0.plain, V.val, V2.val, S.val, S0.val, bV, iV, List.all_cons, List.all_nil, Bool.and_true, Bool.and_self, envOf_i, envOf_b, envOf_d, List.map_cons, List.map_nil, true_and, Bool.not_eq_true', Bool.not_eq_false', Bool.not_not, Bool.and_eq_true, and_f, cell_lg, cell_lb, cell_lr, cmpP, val_i, val_b, val_d, aget, Nat.reduceBEq, beq_self_eq_true, Bool.false_eq_true, if_true, if_false, Nat.reduceLT, Nat.reduceSub, Nat.sub_self, Nat.lt_irrefl, hy, e1, i0, sq, qu, back, acks_len, hK, hidx, wp, cg, cb, cr, eA, a0, a1, Q5b210, Q5b200, Q5b201, out_two, ours_three, hOB, hack, hour]
      exact ⟨fun h => (by cases h), fun _ => ⟨fun h => (by cases h), fun _ => trivial⟩⟩
    have hws : IntKind.i64.wrap ((a : Int) - (x.s : Int)) = (a : Int) - x.s := wrap_in _ (by omega) (by omega)
    have hmax : max ((a : Int) - x.s) 0 = ((a - x.s : Nat) : Int) := by omega
    have hwq : IntKind.i64.wrap ((x.s : Int) + ((x.q.length : Nat) : Int)) = (x.h : Int) := by rw [wrap_in _ (by omega) (by omega)]; omega
    have hwa : IntKind.i64.wrap ((x.s : Int) + ((a - x.s : Nat) : Int)) = ((max x.s a : Nat) : Int) := by rw [wrap_in _ (by omega) (by omega)]; omega
    have hdq : (lts N x.q).drop (a - x.s) = lts N (x.hear a).q := by
      rw [lts_drop, q_drop]
      have : x.s + (a - x.s) = max x.s a := by omega
      rw [this]; rfl
    have hse : subR (lts N x.q) ((a - x.s : Nat) : Int) ((x.q.length : Nat) : Int) = lts N (x.hear a).q := by rw [← hdq, ← lts_len N x.q, subR_end, Int.toNat_natCast]
    simp only [TT.sat_ret, TT.sat_ite, TT.sat_ob, TT.sat_next, TT.sat_stuck, put_i, put_b, put_d, put_fi, put_fb, put_fd, Ob.ok, B.ev, E.ev, X.ev, AL.ev, cmp_t, cmp_f, arEv, V.plain, V2.plain, S.plain, S0.plain, V.val, V2.val, S.val, S0.val, bV, iV, List.all_cons, List.all_nil, Bool.and_true, Bool.and_self, envOf_i, envOf_b, envOf_d, List.map_cons, List.map_nil, true_and, Bool.not_eq_true', Bool.not_eq_false', Bool.not_not, Bool.and_eq_true, and_f, cell_lg, cell_lb, cell_lr, cmpP, val_i, val_b, val_d, aget, Nat.reduceBEq, beq_self_eq_true, Bool.false_eq_true, if_true, if_false, Nat.reduceLT, Nat.reduceSub, Nat.sub_self, Nat.lt_irrefl, hy, hY, e1, i0, sq, qu, back, acks_len, lts_len, hK, hidx, wp, cg, a2, hws, hmax, hwq, hse]
    refine ⟨fun h => (by cases h), fun _ => ⟨fun h => (by omega), fun _ => ⟨by omega, by omega, ?_, ?_⟩⟩⟩
    · rw [RS.Ok.q_len (x := x.hear a) (n := N.length) (hxO.hear_ok ha)]; show (((x.h - max x.s a : Nat)) : Int) ≤ _; omega
    refine ⟨⟨i + 1, step ((stepc5 (by omega) (by omega)).trans (by rw [hP, hA'])) ?_ ?_ ?_ ?_ ?_ ?_ ?_ ?_ ?_ ?_⟩, by rw [w1]; omega⟩
    all_goals simp only [TT.sat_ret, TT.sat_ite, TT.sat_ob, TT.sat_next, TT.sat_stuck, put_i, put_b, put_d, put_fi, put_fb, put_fd, Ob.ok, B.ev, E.ev, X.ev, AL.ev, cmp_t, cmp_f, arEv, V.plain, V2.plain, S.plain, S0.plain, V.val, V2.val, S.val, S0.val, bV, iV, List.all_cons, List.all_nil, Bool.and_true, Bool.and_self, envOf_i, envOf_b, envOf_d, List.map_cons, List.map_nil, true_and, Bool.not_eq_true', Bool.not_eq_false', Bool.not_not, Bool.and_eq_true, and_f, cell_lg, cell_lb, cell_lr, cmpP, val_i, val_b, val_d, aget, Nat.reduceBEq, beq_self_eq_true, Bool.false_eq_true, if_true, if_false, Nat.reduceLT, Nat.reduceSub, Nat.sub_self, Nat.lt_irrefl, X.ev, val_i, val_d, i0, sq, qu, got, way, back, told, left, early, w1, acks_len, lts_len, hK, e1, hidx, wp, hcut, cg, a2, hws, hmax, hwa, hse]
    all_goals first | rfl | assumption | omega
  rotate_left
  rotate_right
  rotate_right
  · -- an acknowledgement arrives
    simp only [back, acks_len]
    refine ⟨fun z => ?_, fun z => ?_⟩
    · refine ⟨⟨i + 1, step (stepb (.inl (by omega)) (by omega)) ?_ ?_ ?_ ?_ ?_ ?_ ?_ ?_ ?_ ?_⟩, by rw [w1]; omega⟩
      all_goals simp only [TT.sat_ret, TT.sat_ite, TT.sat_ob, TT.sat_next, TT.sat_stuck, put_i, put_b, put_d, put_fi, put_fb, put_fd, Ob.ok, B.ev, E.ev, X.ev, AL.ev, cmp_t, cmp_f, arEv, V.plain, V2.plain, S.plain, S0.plain, V.val, V2.val, S.val, S0.val, bV, iV, List.all_cons, List.all_nil, Bool.and_true, Bool.and_self, envOf_i, envOf_b, envOf_d, List.map_cons, List.map_nil, true_and, Bool.not_eq_true', Bool.not_eq_false', Bool.not_not, Bool.and_eq_true, and_f, cell_lg, cell_lb, cell_lr, cmpP, val_i, val_b, val_d, aget, Nat.reduceBEq, beq_self_eq_true, Bool.false_eq_true, if_true, if_false, Nat.reduceLT, Nat.reduceSub, Nat.sub_self, Nat.lt_irrefl, X.ev, val_i, val_d, i0, sq, qu, got, way, back, told, left, early, w1]
      all_goals first | rfl | assumption | omega
    have hp : K / 8 % x.b.length < x.b.length := Nat.mod_lt _ (by omega)
    have hidx : (IntKind.i64.wrap ((K : Int).tdiv 8)).tmod ((x.b.length : Nat) : Int) = ((K / 8 % x.b.length : Nat) : Int) := by rw [td8, wK, tmN]
    have wp : IntKind.i64.wrap (((K / 8 % x.b.length : Nat) : Int) + 1) = ((K / 8 % x.b.length : Nat) : Int) + 1 := wrap_in _ (by omega) (by omega)
    have hcut : subR (acks x.b) 0 ((K / 8 % x.b.length : Nat) : Int) ++ subR (acks x.b) (((K / 8 % x.b.length : Nat) : Int) + 1) ((x.b.length : Nat) : Int) = acks (x.b.eraseIdx (K / 8 % x.b.length)) := by
      rw [← acks_erase, ← cut_erase _ (by rw [acks_len]; exact hp), acks_len]
    have ha : x.b.getD (K / 8 % x.b.length) 0 ≤ x.g := hxO.bg _ (getD_mem hp)
    have cg := fun j => acks_lg hp j
    have cb := fun j => acks_lb hp j
    have cr := fun j => acks_lr hp j
    generalize hA' : x.b.getD (K / 8 % x.b.length) 0 = a at *
    generalize hP : K / 8 % x.b.length = p at *
    have eA : [D.i 2, D.i 1, D.i (cI (ackR a) 2), D.b (cB (ackR a) 3), D.i (cI (ackR a) 4), D.i (cI (ackR a) 5), D.i (cI (ackR a) 6), D.i (cI (ackR a) 7), D.i (cI (ackR a) 8), D.i (cI (ackR a) 9), D.l (cR (ackR a) 10)] = ackR a := rfl
    have a0 : cI (ackR a) 0 = 2 := rfl
    have a1 : cI (ackR a) 1 = 1 := rfl
    have a2 : cI (ackR a) 2 = (a : Int) := rfl
    have hack := ackR_ack (g := a) (by omega)
    have hour := lts_ours hA (l := x.q) (fun k hk => by have := hxO.q_mem k hk; omega)
    simp only [TT.sat_ret, TT.sat_ite, TT.sat_ob, TT.sat_next, TT.sat_stuck, put_i, put_b, put_d, put_fi, put_fb, put_fd, Ob.ok, B.ev, E.ev, X.ev, AL.ev, cmp_t, cmp_f, arEv, V.plain, V2.plain, S.plain, S0.plain, V.val, V2.val, S.val, S0.val, bV, iV, List.all_cons, List.all_nil, Bool.and_true, Bool.and_self, envOf_i, envOf_b, envOf_d, List.map_cons, List.map_nil, true_and, Bool.not_eq_true', Bool.not_eq_false', Bool.not_not, Bool.and_eq_true, and_f, cell_lg, cell_lb, cell_lr, cmpP, val_i, val_b, val_d, aget, Nat.reduceBEq, beq_self_eq_true, Bool.false_eq_true, if_true, if_false, Nat.reduceLT, Nat.reduceSub, Nat.sub_self, Nat.lt_irrefl, back, acks_len, hK, hidx, wp]
    iterate 6 (refine ⟨by omega, ?_⟩)
    refine TT.sat_join (fun u => u.b 3 = false) (fun y hy => ?_) (fun y hy hY => ?_)
    · simp only [TT.sat_ret, TT.sat_ite, TT.sat_ob, TT.sat_next, TT.sat_stuck, put_i, put_b, put_d, put_fi, put_fb, put_fd, Ob.ok, B.ev, E.ev, X.ev, AL.ev, cmp_t, cmp_f, arEv, V.plain, V2.plain, S.plain, S0.plain, V.val, V2.val, S.val, S0.val, bV, iV, List.all_cons, List.all_nil, Bool.and_true, Bool.and_self, envOf_i, envOf_b, envOf_d, List.map_cons, List.map_nil, true_and, Bool.not_eq_true', Bool.not_eq_false', Bool.not_not, Bool.and_eq_true, and_f, cell_lg, cell_lb, cell_lr, cmpP, val_i, val_b, val_d, aget, Nat.reduceBEq, beq_self_eq_true, Bool.false_eq_true, if_true, if_false, Nat.reduceLT, Nat.reduceSub, Nat.sub_self, Nat.lt_irrefl, hy, e1, i0, sq, qu, back, acks_len, hK, hidx, wp, cg, cb, cr, eA, a0, a1, Q5b210, Q5b200, Q5b201, out_two, ours_three, hOB, hack, hour]
      exact ⟨fun h => (by cases h), fun _ => ⟨fun h => (by cases h), fun _ => trivial⟩⟩
    have hws : IntKind.i64.wrap ((a : Int) - (x.s : Int)) = (a : Int) - x.s := wrap_in _ (by omega) (by omega)
    have hmax : max ((a : Int) - x.s) 0 = ((a - x.s : Nat) : Int) := by omega
    have hwq : IntKind.i64.wrap ((x.s : Int) + ((x.q.length : Nat) : Int)) = (x.h : Int) := by rw [wrap_in _ (by omega) (by omega)]; omega
    have hwa : IntKind.i64.wrap ((x.s : Int) + ((a - x.s : Nat) : Int)) = ((max x.s a : Nat) : Int) := by rw [wrap_in _ (by omega) (by omega)]; omega
    have hdq : (lts N x.q).drop (a - x.s) = lts N (x.hear a).q := by
      rw [lts_drop, q_drop]
      have : x.s + (a - x.s) = max x.s a := by omega
      rw [this]; rfl
    have hse : subR (lts N x.q) ((a - x.s : Nat) : Int) ((x.q.length : Nat) : Int) = lts N (x.hear a).q := by rw [← hdq, ← lts_len N x.q, subR_end, Int.toNat_natCast]
    simp only [TT.sat_ret, TT.sat_ite, TT.sat_ob, TT.sat_next, TT.sat_stuck, put_i, put_b, put_d, put_fi, put_fb, put_fd, Ob.ok, B.ev, E.ev, X.ev, AL.ev, cmp_t, cmp_f, arEv, V.plain, V2.plain, S.plain, S0.plain, V.val, V2.val, S.val, S0.val, bV, iV, List.all_cons, List.all_nil, Bool.and_true, Bool.and_self, envOf_i, envOf_b, envOf_d, List.map_cons, List.map_nil, true_and, Bool.not_eq_true', Bool.not_eq_false', Bool.not_not, Bool.and_eq_true, and_f, cell_lg, cell_lb, cell_lr, cmpP, val_i, val_b, val_d, aget, Nat.reduceBEq, beq_self_eq_true, Bool.false_eq_true, if_true, if_false, Nat.reduceLT, Nat.reduceSub, Nat.sub_self, Nat.lt_irrefl, hy, hY, e1, i0, sq, qu, back, acks_len, lts_len, hK, hidx, wp, cg, a2, hws, hmax, hwq, hse]
    refine ⟨fun h => (by cases h), fun _ => ⟨fun h => (by omega), fun _ => ⟨by omega, by omega, ?_, ?_⟩⟩⟩
    · rw [RS.Ok.q_len (x := x.hear a) (n := N.length) (hxO.hear_ok ha)]; show (((x.h - max x.s a : Nat)) : Int) ≤ _; omega
    refine ⟨⟨i + 1, step ((stepc4 (by omega) (by omega)).trans (by rw [hP, hA'])) ?_ ?_ ?_ ?_ ?_ ?_ ?_ ?_ ?_ ?_⟩, by rw [w1]; omega⟩
    all_goals simp only [TT.sat_ret, TT.sat_ite, TT.sat_ob, TT.sat_next, TT.sat_stuck, put_i, put_b, put_d, put_fi, put_fb, put_fd, Ob.ok, B.ev, E.ev, X.ev, AL.ev, cmp_t, cmp_f, arEv, V.plain, V2.plain, S.plain, S0.plain, V.val, V2.val, S.val, S0.val, bV, iV, List.all_cons, List.all_nil, Bool.and_true, Bool.and_self, envOf_i, envOf_b, envOf_d, List.map_cons, List.map_nil, true_and, Bool.not_eq_true', Bool.not_eq_false', Bool.not_not, Bool.and_eq_true, and_f, cell_lg, cell_lb, cell_lr, cmpP, val_i, val_b, val_d, aget, Nat.reduceBEq, beq_self_eq_true, Bool.false_eq_true, if_true, if_false, Nat.reduceLT, Nat.reduceSub, Nat.sub_self, Nat.lt_irrefl, X.ev, val_i, val_d, i0, sq, qu, got, way, back, told, left, early, w1, acks_len, lts_len, hK, e1, hidx, wp, hcut, cg, a2, hws, hmax, hwa, hse]
    all_goals first | rfl | assumption | omega
  · -- an acknowledgement is lost
    simp only [back, acks_len]
    refine ⟨fun z => ?_, fun z => ?_⟩
    · refine ⟨⟨i + 1, step (stepb (.inr (.inr (by omega))) (by omega)) ?_ ?_ ?_ ?_ ?_ ?_ ?_ ?_ ?_ ?_⟩, by rw [w1]; omega⟩
      all_goals simp only [TT.sat_ret, TT.sat_ite, TT.sat_ob, TT.sat_next, TT.sat_stuck, put_i, put_b, put_d, put_fi, put_fb, put_fd, Ob.ok, B.ev, E.ev, X.ev, AL.ev, cmp_t, cmp_f, arEv, V.plain, V2.plain, S.plain, S0.plain, V.val, V2.val, S.val, S0.val, bV, iV, List.all_cons, List.all_nil, Bool.and_true, Bool.and_self, envOf_i, envOf_b, envOf_d, List.map_cons, List.map_nil, true_and, Bool.not_eq_true', Bool.not_eq_false', Bool.not_not, Bool.and_eq_true, and_f, cell_lg, cell_lb, cell_lr, cmpP, val_i, val_b, val_d, aget, Nat.reduceBEq, beq_self_eq_true, Bool.false_eq_true, if_true, if_false, Nat.reduceLT, Nat.reduceSub, Nat.sub_self, Nat.lt_irrefl, X.ev, val_i, val_d, i0, sq, qu, got, way, back, told, left, early, w1]
      all_goals first | rfl | assumption | omega
    have hp : K / 8 % x.b.length < x.b.length := Nat.mod_lt _ (by omega)
    have hidx : (IntKind.i64.wrap ((K : Int).tdiv 8)).tmod ((x.b.length : Nat) : Int) = ((K / 8 % x.b.length : Nat) : Int) := by rw [td8, wK, tmN]
    have wp : IntKind.i64.wrap (((K / 8 % x.b.length : Nat) : Int) + 1) = ((K / 8 % x.b.length : Nat) : Int) + 1 := wrap_in _ (by omega) (by omega)
    have hcut : subR (acks x.b) 0 ((K / 8 % x.b.length : Nat) : Int) ++ subR (acks x.b) (((K / 8 % x.b.length : Nat) : Int) + 1) ((x.b.length : Nat) : Int) = acks (x.b.eraseIdx (K / 8 % x.b.length)) := by
      rw [← acks_erase, ← cut_erase _ (by rw [acks_len]; exact hp), acks_len]
    simp only [TT.sat_ret, TT.sat_ite, TT.sat_ob, TT.sat_next, TT.sat_stuck, put_i, put_b, put_d, put_fi, put_fb, put_fd, Ob.ok, B.ev, E.ev, X.ev, AL.ev, cmp_t, cmp_f, arEv, V.plain, V2.plain, S.plain, S0.plain, V.val, V2.val, S.val, S0.val, bV, iV, List.all_cons, List.all_nil, Bool.and_true, Bool.and_self, envOf_i, envOf_b, envOf_d, List.map_cons, List.map_nil, true_and, Bool.not_eq_true', Bool.not_eq_false', Bool.not_not, Bool.and_eq_true, and_f, cell_lg, cell_lb, cell_lr, cmpP, val_i, val_b, val_d, aget, Nat.reduceBEq, beq_self_eq_true, Bool.false_eq_true, if_true, if_false, Nat.reduceLT, Nat.reduceSub, Nat.sub_self, Nat.lt_irrefl, back, acks_len, hK, hidx, wp]
    iterate 6 (refine ⟨by omega, ?_⟩)
    · refine ⟨⟨i + 1, step (stepc6 (by omega) (by omega)) ?_ ?_ ?_ ?_ ?_ ?_ ?_ ?_ ?_ ?_⟩, by rw [w1]; omega⟩
      all_goals simp only [TT.sat_ret, TT.sat_ite, TT.sat_ob, TT.sat_next, TT.sat_stuck, put_i, put_b, put_d, put_fi, put_fb, put_fd, Ob.ok, B.ev, E.ev, X.ev, AL.ev, cmp_t, cmp_f, arEv, V.plain, V2.plain, S.plain, S0.plain, V.val, V2.val, S.val, S0.val, bV, iV, List.all_cons, List.all_nil, Bool.and_true, Bool.and_self, envOf_i, envOf_b, envOf_d, List.map_cons, List.map_nil, true_and, Bool.not_eq_true', Bool.not_eq_false', Bool.not_not, Bool.and_eq_true, and_f, cell_lg, cell_lb, cell_lr, cmpP, val_i, val_b, val_d, aget, Nat.reduceBEq, beq_self_eq_true, Bool.false_eq_true, if_true, if_false, Nat.reduceLT, Nat.reduceSub, Nat.sub_self, Nat.lt_irrefl, X.ev, val_i, val_d, i0, sq, qu, got, way, back, told, left, early, w1, acks_len, hK, e1, hidx, wp, hcut]
      all_goals first | rfl | assumption | omega
  · -- a notice is handed over
    simp only [left]
    refine ⟨fun z => ?_, fun z => ?_⟩
    rotate_left
    · refine ⟨⟨i + 1, step (stepl (by omega) (fun q => z (by rw [List.length_drop]; omega))) ?_ ?_ ?_ ?_ ?_ ?_ ?_ ?_ ?_ ?_⟩, by rw [w1]; omega⟩
      all_goals simp only [TT.sat_ret, TT.sat_ite, TT.sat_ob, TT.sat_next, TT.sat_stuck, put_i, put_b, put_d, put_fi, put_fb, put_fd, Ob.ok, B.ev, E.ev, X.ev, AL.ev, cmp_t, cmp_f, arEv, V.plain, V2.plain, S.plain, S0.plain, V.val, V2.val, S.val, S0.val, bV, iV, List.all_cons, List.all_nil, Bool.and_true, Bool.and_self, envOf_i, envOf_b, envOf_d, List.map_cons, List.map_nil, true_and, Bool.not_eq_true', Bool.not_eq_false', Bool.not_not, Bool.and_eq_true, and_f, cell_lg, cell_lb, cell_lr, cmpP, val_i, val_b, val_d, aget, Nat.reduceBEq, beq_self_eq_true, Bool.false_eq_true, if_true, if_false, Nat.reduceLT, Nat.reduceSub, Nat.sub_self, Nat.lt_irrefl, X.ev, val_i, val_d, i0, sq, qu, got, way, back, told, left, early, w1]
      all_goals first | rfl | assumption | omega
    have hh : x.h < N.length := by rw [List.length_drop] at z; omega
    have dl : (N.drop x.h).length = N.length - x.h := List.length_drop
    have d0 : ∀ j, lg (N.drop x.h) 0 j = lg N x.h j := fun j => by
      have := lg_drop N x.h 0 j
      rw [Nat.add_zero] at this
      exact this
    have dr : ∀ j, lr (N.drop x.h) 0 j = lr N x.h j := fun j => by
      unfold lr cellAt
      rw [show (0 : Int).toNat = 0 from rfl, Int.toNat_natCast, List.getElem?_drop, Nat.add_zero]
    have hnv := not_at hA hh
    have hour := lts_ours hA (l := x.q) (fun k hk => by have := hxO.q_mem k hk; omega)
    have hwq : IntKind.i64.wrap ((x.s : Int) + ((x.q.length : Nat) : Int)) = (x.h : Int) := by rw [wrap_in _ (by omega) (by omega)]; omega
    have hnew : lts N x.q ++ ([[D.i 1, D.i 2, D.i (x.h : Int), D.b false, D.i (lg N x.h 0), D.i (lg N x.h 1), D.i (lg N x.h 2), D.i (lg N x.h 3), D.i (lg N x.h 4), D.i (lg N x.h 5), D.l (lr N x.h 6)]] ++ []) = lts N ({ x with h := x.h + 1 } : RS).q := by
      rw [← q_more x (by omega), ← lts_app]; rfl
    have hdn : (N.drop x.h).drop 1 = N.drop (x.h + 1) := by rw [List.drop_drop]
    refine ⟨by rw [dl]; omega, ?_⟩
    refine TT.sat_join (fun u => u.b 3 = false) (fun y hy => ?_) (fun y hy hY => ?_)
    · simp only [TT.sat_ret, TT.sat_ite, TT.sat_ob, TT.sat_next, TT.sat_stuck, put_i, put_b, put_d, put_fi, put_fb, put_fd, Ob.ok, B.ev, E.ev, X.ev, AL.ev, cmp_t, cmp_f, arEv, V.plain, V2.plain, S.plain, S0.plain, V.val, V2.val, S.val, S0.val, bV, iV, List.all_cons, List.all_nil, Bool.and_true, Bool.and_self, envOf_i, envOf_b, envOf_d, List.map_cons, List.map_nil, true_and, Bool.not_eq_true', Bool.not_eq_false', Bool.not_not, Bool.and_eq_true, and_f, cell_lg, cell_lb, cell_lr, cmpP, val_i, val_b, val_d, aget, Nat.reduceBEq, beq_self_eq_true, Bool.false_eq_true, if_true, if_false, Nat.reduceLT, Nat.reduceSub, Nat.sub_self, Nat.lt_irrefl, hy, e1, i0, sq, qu, left, d0, dr, Q5b210, Q5b170, Q5b201, out_two, ours_three, hOB, hnv, hour]
      exact ⟨fun h => (by cases h), fun _ => ⟨fun h => (by cases h), fun _ => trivial⟩⟩
    simp only [TT.sat_ret, TT.sat_ite, TT.sat_ob, TT.sat_next, TT.sat_stuck, put_i, put_b, put_d, put_fi, put_fb, put_fd, Ob.ok, B.ev, E.ev, X.ev, AL.ev, cmp_t, cmp_f, arEv, V.plain, V2.plain, S.plain, S0.plain, V.val, V2.val, S.val, S0.val, bV, iV, List.all_cons, List.all_nil, Bool.and_true, Bool.and_self, envOf_i, envOf_b, envOf_d, List.map_cons, List.map_nil, true_and, Bool.not_eq_true', Bool.not_eq_false', Bool.not_not, Bool.and_eq_true, and_f, cell_lg, cell_lb, cell_lr, cmpP, val_i, val_b, val_d, aget, Nat.reduceBEq, beq_self_eq_true, Bool.false_eq_true, if_true, if_false, Nat.reduceLT, Nat.reduceSub, Nat.sub_self, Nat.lt_irrefl, hy, hY, e1, i0, sq, qu, left, d0, dr, lts_len, hwq, dl]
    refine ⟨fun h => (by cases h), fun _ => ⟨fun h => (by omega), fun _ => ⟨by omega, ?_, by omega, ?_⟩⟩⟩
    · rw [List.length_append, lts_len]; simp only [List.length_append, List.length_cons, List.length_nil]; omega
    refine ⟨⟨i + 1, step (stepc7 (by omega) hh) ?_ ?_ ?_ ?_ ?_ ?_ ?_ ?_ ?_ ?_⟩, by rw [w1]; omega⟩
    all_goals simp only [TT.sat_ret, TT.sat_ite, TT.sat_ob, TT.sat_next, TT.sat_stuck, put_i, put_b, put_d, put_fi, put_fb, put_fd, Ob.ok, B.ev, E.ev, X.ev, AL.ev, cmp_t, cmp_f, arEv, V.plain, V2.plain, S.plain, S0.plain, V.val, V2.val, S.val, S0.val, bV, iV, List.all_cons, List.all_nil, Bool.and_true, Bool.and_self, envOf_i, envOf_b, envOf_d, List.map_cons, List.map_nil, true_and, Bool.not_eq_true', Bool.not_eq_false', Bool.not_not, Bool.and_eq_true, and_f, cell_lg, cell_lb, cell_lr, cmpP, val_i, val_b, val_d, aget, Nat.reduceBEq, beq_self_eq_true, Bool.false_eq_true, if_true, if_false, Nat.reduceLT, Nat.reduceSub, Nat.sub_self, Nat.lt_irrefl, X.ev, val_i, val_d, i0, sq, qu, got, way, back, told, left, early, w1, lts_len, hwq, d0, dr, hnew, subR_end, show (1 : Int).toNat = 1 from rfl, hdn]
    all_goals first | rfl | assumption | omega
  · -- a letter arrives
    simp only [way, lts_len]
    refine ⟨fun z => ?_, fun z => ?_⟩
    · refine ⟨⟨i + 1, step (stepw (.inl (by omega)) (by omega)) ?_ ?_ ?_ ?_ ?_ ?_ ?_ ?_ ?_ ?_⟩, by rw [w1]; omega⟩
      all_goals simp only [TT.sat_ret, TT.sat_ite, TT.sat_ob, TT.sat_next, TT.sat_stuck, put_i, put_b, put_d, put_fi, put_fb, put_fd, Ob.ok, B.ev, E.ev, X.ev, AL.ev, cmp_t, cmp_f, arEv, V.plain, V2.plain, S.plain, S0.plain, V.val, V2.val, S.val, S0.val, bV, iV, List.all_cons, List.all_nil, Bool.and_true, Bool.and_self, envOf_i, envOf_b, envOf_d, List.map_cons, List.map_nil, true_and, Bool.not_eq_true', Bool.not_eq_false', Bool.not_not, Bool.and_eq_true, and_f, cell_lg, cell_lb, cell_lr, cmpP, val_i, val_b, val_d, aget, Nat.reduceBEq, beq_self_eq_true, Bool.false_eq_true, if_true, if_false, Nat.reduceLT, Nat.reduceSub, Nat.sub_self, Nat.lt_irrefl, X.ev, val_i, val_d, i0, sq, qu, got, way, back, told, left, early, w1]
      all_goals first | rfl | assumption | omega
    have hp : K / 8 % x.w.length < x.w.length := Nat.mod_lt _ (by omega)
    have hidx : (IntKind.i64.wrap ((K : Int).tdiv 8)).tmod ((x.w.length : Nat) : Int) = ((K / 8 % x.w.length : Nat) : Int) := by rw [td8, wK, tmN]
    have wp : IntKind.i64.wrap (((K / 8 % x.w.length : Nat) : Int) + 1) = ((K / 8 % x.w.length : Nat) : Int) + 1 := wrap_in _ (by omega) (by omega)
    have hcut : subR (lts N x.w) 0 ((K / 8 % x.w.length : Nat) : Int) ++ subR (lts N x.w) (((K / 8 % x.w.length : Nat) : Int) + 1) ((x.w.length : Nat) : Int) = lts N (x.w.eraseIdx (K / 8 % x.w.length)) := by
      rw [← lts_erase, ← cut_erase _ (by rw [lts_len]; exact hp), lts_len]
    have ha : x.w.getD (K / 8 % x.w.length) 0 < x.h := hxO.wh _ (getD_mem hp)
    have cg := fun j => lts_lg (N := N) hp j
    have cb := fun j => lts_lb (N := N) hp j
    have cr := fun j => lts_lr (N := N) hp j
    generalize hA' : x.w.getD (K / 8 % x.w.length) 0 = l at *
    generalize hP : K / 8 % x.w.length = p at *
    have eL : [D.i 1, D.i 2, D.i (l : Int), D.b (cB (letR N l) 3), D.i (cI (letR N l) 4), D.i (cI (letR N l) 5), D.i (cI (letR N l) 6), D.i (cI (letR N l) 7), D.i (cI (letR N l) 8), D.i (cI (letR N l) 9), D.l (cR (letR N l) 10)] = letR N l := rfl
    have eN : ntR (letR N l) = [D.i (cI (letR N l) 4), D.i (cI (letR N l) 5), D.i (cI (letR N l) 6), D.i (cI (letR N l) 7), D.i (cI (letR N l) 8), D.i (cI (letR N l) 9), D.l (cR (letR N l) 10)] := rfl
    have a0 : cI (letR N l) 0 = 1 := rfl
    have a1 : cI (letR N l) 1 = 2 := rfl
    have a2 : cI (letR N l) 2 = (l : Int) := rfl
    have eC : carL (letR N l) = carR (letR N l) := rfl
    have hcar := letR_car hA (k := l) (by omega)
    have hwinE := lts_win (N := N) (g := x.g + 1) hxO.up (fun k hk => hxO.lo k hk) (fun k hk => by have := hxO.hi k hk; omega)
    have hris := win_ris hwinE
    have hEo := lts_ours hA (l := x.e) (fun k hk => by have := hxO.eh k hk; omega)
    have hel := win_len hwinE
    rw [lts_len] at hel
    have hlow := lowS_spec (lts N x.e) l
    rw [lts_len] at hlow
    have hlow1 := hlow.1
    clear hlow
    have lgd : ∀ (i : Nat) j, i < x.e.length → lg (v.d 8) (v.i 9 + (i : Int)) j = lg (lts N x.e) i j := fun i j h => by rw [lg_sub (by rw [early, lts_len]; exact h) lo, early]
    have lrd : ∀ (i : Nat) j, i < x.e.length → lr (v.d 8) (v.i 9 + (i : Int)) j = lr (lts N x.e) i j := fun i j h => by rw [lr_sub (by rw [early, lts_len]; exact h) lo, early]
    have hins := lts_ins (N := N) (g := x.g) hris l
    have he1 : ∀ k ∈ insL x.g x.e l, x.g ≤ k ∧ k < x.g + 4 ∧ k < x.h := fun k hk => by
      rcases mem_insL hk with q | ⟨rfl, q⟩
      · exact ⟨Nat.le_of_lt (hxO.lo k q), hxO.hi k q, hxO.eh k q⟩
      · exact ⟨q.1, q.2, ha⟩
    have hw1 := lts_win (N := N) (g := x.g) (insL_up (g := x.g) (l := l) hxO.up) (fun k hk => (he1 k hk).1) (fun k hk => (he1 k hk).2.1)
    have hl1 := win_len hw1
    rw [lts_len] at hl1
    have hrun := lts_run (N := N) (e := insL x.g x.e l) (g := x.g)
    obtain ⟨r1, _, _⟩ := runL_spec (insL x.g x.e l) x.g
    have hyg : x.g + runL (insL x.g x.e l) x.g ≤ x.h := (hxO.take_ok ha).gh
    have htold := told_eq hN (e := insL x.g x.e l) (g := x.g) (by omega)
    simp only [TT.sat_ret, TT.sat_ite, TT.sat_ob, TT.sat_next, TT.sat_stuck, put_i, put_b, put_d, put_fi, put_fb, put_fd, Ob.ok, B.ev, E.ev, X.ev, AL.ev, cmp_t, cmp_f, arEv, V.plain, V2.plain, S.plain, S0.plain, V.val, V2.val, S.val, S0.val, bV, iV, List.all_cons, List.all_nil, Bool.and_true, Bool.and_self, envOf_i, envOf_b, envOf_d, List.map_cons, List.map_nil, true_and, Bool.not_eq_true', Bool.not_eq_false', Bool.not_not, Bool.and_eq_true, and_f, cell_lg, cell_lb, cell_lr, cmpP, val_i, val_b, val_d, aget, Nat.reduceBEq, beq_self_eq_true, Bool.false_eq_true, if_true, if_false, Nat.reduceLT, Nat.reduceSub, Nat.sub_self, Nat.lt_irrefl, way, lts_len, hK, hidx, wp]
    iterate 6 (refine ⟨by omega, ?_⟩)
    refine TT.sat_join (fun u => u.b 4 = false) (fun y hy => ?_) (fun y hy hY => ?_)
    · simp only [TT.sat_ret, TT.sat_ite, TT.sat_ob, TT.sat_next, TT.sat_stuck, put_i, put_b, put_d, put_fi, put_fb, put_fd, Ob.ok, B.ev, E.ev, X.ev, AL.ev, cmp_t, cmp_f, arEv, V.plain, V2.plain, S.plain, S0.plain, V.val, V2.val, S.val, S0.val, bV, iV, List.all_cons, List.all_nil, Bool.and_true, Bool.and_self, envOf_i, envOf_b, envOf_d, List.map_cons, List.map_nil, true_and, Bool.not_eq_true', Bool.not_eq_false', Bool.not_not, Bool.and_eq_true, and_f, cell_lg, cell_lb, cell_lr, cmpP, val_i, val_b, val_d, aget, Nat.reduceBEq, beq_self_eq_true, Bool.false_eq_true, if_true, if_false, Nat.reduceLT, Nat.reduceSub, Nat.sub_self, Nat.lt_irrefl, hy, e1, i0, got, early, way, lts_len, hK, hidx, wp, cg, cb, cr, a0, a1, a2, eL, Q5b211, Q5b191, Q5b201, in_two, ours_three, hIB, eC, hcar, hEo]
      exact ⟨fun h => (by cases h), fun _ => ⟨fun h => (by cases h), fun _ => trivial⟩⟩
    simp only [TT.sat_ret, TT.sat_ite, TT.sat_ob, TT.sat_next, TT.sat_stuck, put_i, put_b, put_d, put_fi, put_fb, put_fd, Ob.ok, B.ev, E.ev, X.ev, AL.ev, cmp_t, cmp_f, arEv, V.plain, V2.plain, S.plain, S0.plain, V.val, V2.val, S.val, S0.val, bV, iV, List.all_cons, List.all_nil, Bool.and_true, Bool.and_self, envOf_i, envOf_b, envOf_d, List.map_cons, List.map_nil, true_and, Bool.not_eq_true', Bool.not_eq_false', Bool.not_not, Bool.and_eq_true, and_f, cell_lg, cell_lb, cell_lr, cmpP, val_i, val_b, val_d, aget, Nat.reduceBEq, beq_self_eq_true, Bool.false_eq_true, if_true, if_false, Nat.reduceLT, Nat.reduceSub, Nat.sub_self, Nat.lt_irrefl, hy, hY, early, Q5b203, ris_one, hris]
    refine ⟨fun h => (by cases h), fun _ => ?_⟩
    refine TT.sat_join (fun u => u.b 2 = false) (fun y2 hy2 => ?_) (fun y2 hy2 hY2 => ?_)
    · simp only [TT.sat_ret, TT.sat_ite, TT.sat_ob, TT.sat_next, TT.sat_stuck, put_i, put_b, put_d, put_fi, put_fb, put_fd, Ob.ok, B.ev, E.ev, X.ev, AL.ev, cmp_t, cmp_f, arEv, V.plain, V2.plain, S.plain, S0.plain, V.val, V2.val, S.val, S0.val, bV, iV, List.all_cons, List.all_nil, Bool.and_true, Bool.and_self, envOf_i, envOf_b, envOf_d, List.map_cons, List.map_nil, true_and, Bool.not_eq_true', Bool.not_eq_false', Bool.not_not, Bool.and_eq_true, and_f, cell_lg, cell_lb, cell_lr, cmpP, val_i, val_b, val_d, aget, Nat.reduceBEq, beq_self_eq_true, Bool.false_eq_true, if_true, if_false, Nat.reduceLT, Nat.reduceSub, Nat.sub_self, Nat.lt_irrefl, hy2, e1, i0, early, way, lts_len, hK, hidx, cg, cb, cr, a2, Q5b204, Q5i200, Q5b190, is_two, low_two]
      refine ⟨fun h => ?_, fun _ => trivial⟩
      unfold isS at h
      rw [decide_eq_true_eq] at h
      have hl := h.1
      have hl' := hl
      rw [lts_len] at hl'
      simp only [lgd _ _ hl', lrd _ _ hl']
      refine ⟨by omega, by omega, ?_⟩
      have hx := letR_agr (N := N) (e := x.e) l _ (List.getElem_mem hl) (by rw [← lg_cI hl]; exact h.2)
      rw [ntR_at hl, eN] at hx
      exact (ns14 _ _ _ _ _ _ _ _ _ _ _ _ _ _).2 hx
    simp only [TT.sat_ret, TT.sat_ite, TT.sat_ob, TT.sat_next, TT.sat_stuck, put_i, put_b, put_d, put_fi, put_fb, put_fd, Ob.ok, B.ev, E.ev, X.ev, AL.ev, cmp_t, cmp_f, arEv, V.plain, V2.plain, S.plain, S0.plain, V.val, V2.val, S.val, S0.val, bV, iV, List.all_cons, List.all_nil, Bool.and_true, Bool.and_self, envOf_i, envOf_b, envOf_d, List.map_cons, List.map_nil, true_and, Bool.not_eq_true', Bool.not_eq_false', Bool.not_not, Bool.and_eq_true, and_f, cell_lg, cell_lb, cell_lr, cmpP, val_i, val_b, val_d, aget, Nat.reduceBEq, beq_self_eq_true, Bool.false_eq_true, if_true, if_false, Nat.reduceLT, Nat.reduceSub, Nat.sub_self, Nat.lt_irrefl, hy2, hY2, early, lts_len]
    refine ⟨fun h => (by cases h), fun _ => ⟨by omega, ?_⟩⟩
    refine TT.sat_join (fun u => u.b 2 = putB x.g (lts N x.e) l) (fun y3 hy3 => ?_) (fun y3 hy3 hY3 => ?_)
    · simp only [TT.sat_ret, TT.sat_ite, TT.sat_ob, TT.sat_next, TT.sat_stuck, put_i, put_b, put_d, put_fi, put_fb, put_fd, Ob.ok, B.ev, E.ev, X.ev, AL.ev, cmp_t, cmp_f, arEv, V.plain, V2.plain, S.plain, S0.plain, V.val, V2.val, S.val, S0.val, bV, iV, List.all_cons, List.all_nil, Bool.and_true, Bool.and_self, envOf_i, envOf_b, envOf_d, List.map_cons, List.map_nil, true_and, Bool.not_eq_true', Bool.not_eq_false', Bool.not_not, Bool.and_eq_true, and_f, cell_lg, cell_lb, cell_lr, cmpP, val_i, val_b, val_d, aget, Nat.reduceBEq, beq_self_eq_true, Bool.false_eq_true, if_true, if_false, Nat.reduceLT, Nat.reduceSub, Nat.sub_self, Nat.lt_irrefl, hy3, e1, i0, got, early, way, lts_len, hK, hidx, cg, a2, Q5b204, is_two, wrap_in ((x.g : Int) + 4) (by omega) (by omega)]
      refine ⟨fun h => ⟨fun a => ?_, fun a => ?_⟩, fun h => ?_⟩
      · rw [putB, h, lss_dec]
        simp only [Bool.not_false, Bool.true_and]
        exact decide_eq_decide.2 ⟨fun b => ⟨a, b⟩, fun b => b.2⟩
      · rw [putB, decide_eq_false (fun b => a b.1), Bool.and_false]
      · rw [putB, h]; rfl
    refine TT.sat_join (fun u => u.d 2 = lts N (insL x.g x.e l)) (fun y4 hy4 => ?_) (fun y4 hy4 hY4 => ?_)
    · simp only [TT.sat_ret, TT.sat_ite, TT.sat_ob, TT.sat_next, TT.sat_stuck, put_i, put_b, put_d, put_fi, put_fb, put_fd, Ob.ok, B.ev, E.ev, X.ev, AL.ev, cmp_t, cmp_f, arEv, V.plain, V2.plain, S.plain, S0.plain, V.val, V2.val, S.val, S0.val, bV, iV, List.all_cons, List.all_nil, Bool.and_true, Bool.and_self, envOf_i, envOf_b, envOf_d, List.map_cons, List.map_nil, true_and, Bool.not_eq_true', Bool.not_eq_false', Bool.not_not, Bool.and_eq_true, and_f, cell_lg, cell_lb, cell_lr, cmpP, val_i, val_b, val_d, aget, Nat.reduceBEq, beq_self_eq_true, Bool.false_eq_true, if_true, if_false, Nat.reduceLT, Nat.reduceSub, Nat.sub_self, Nat.lt_irrefl, hy4, hY3, e1, i0, early, way, lts_len, hK, hidx, cg, cb, cr, a0, a1, a2, eL, Q5i200, low_two, X.ev]
      rw [← hins]
      refine ⟨fun h => ⟨by omega, by omega, by omega, ?_⟩, fun h => ?_⟩
      · unfold insR; rw [if_pos h, ← lts_len N x.e, subR_end, subR_zero, Int.toNat_natCast, List.append_nil, List.append_assoc]
      · unfold insR; rw [h, if_neg (by decide)]
    generalize hE1 : insL x.g x.e l = e at *
    refine TT.sat_join (fun u => u.i 1 = (runL e x.g : Nat) ∧ u.i 2 = (e.length : Nat) ∧ u.i 4 = (x.g : Int) + (runL e x.g : Nat) ∧ u.d 15 = ((lts N e).take (runL e x.g)).map ntR) (fun y5 hy5 => ?_) (fun y5 hy5 hY5 => ?_)
    · refine TT.sat_loop (fun z => ∃ i : Nat, z.i 0 = i ∧ i ≤ e.length ∧ z.i 1 = (e.length : Nat) ∧ z.i 4 = (x.g : Int) + i ∧ z.d 3 = ((lts N e).take i).map ntR ∧ ∀ k : Nat, k < i → lg (lts N e) k 2 = (x.g : Int) + k) (fun z => e.length - (z.i 0).toNat)
        ⟨0, ?_, by omega, ?_, ?_, ?_, fun k hk => by omega⟩ (fun z hz => ?_)
      · simp only [TT.sat_ret, TT.sat_ite, TT.sat_ob, TT.sat_next, TT.sat_stuck, put_i, put_b, put_d, put_fi, put_fb, put_fd, Ob.ok, B.ev, E.ev, X.ev, AL.ev, cmp_t, cmp_f, arEv, V.plain, V2.plain, S.plain, S0.plain, V.val, V2.val, S.val, S0.val, bV, iV, List.all_cons, List.all_nil, Bool.and_true, Bool.and_self, envOf_i, envOf_b, envOf_d, List.map_cons, List.map_nil, true_and, Bool.not_eq_true', Bool.not_eq_false', Bool.not_not, Bool.and_eq_true, and_f, cell_lg, cell_lb, cell_lr, cmpP, val_i, val_b, val_d, aget, Nat.reduceBEq, beq_self_eq_true, Bool.false_eq_true, if_true, if_false, Nat.reduceLT, Nat.reduceSub, Nat.sub_self, Nat.lt_irrefl]; rfl
      · simp only [TT.sat_ret, TT.sat_ite, TT.sat_ob, TT.sat_next, TT.sat_stuck, put_i, put_b, put_d, put_fi, put_fb, put_fd, Ob.ok, B.ev, E.ev, X.ev, AL.ev, cmp_t, cmp_f, arEv, V.plain, V2.plain, S.plain, S0.plain, V.val, V2.val, S.val, S0.val, bV, iV, List.all_cons, List.all_nil, Bool.and_true, Bool.and_self, envOf_i, envOf_b, envOf_d, List.map_cons, List.map_nil, true_and, Bool.not_eq_true', Bool.not_eq_false', Bool.not_not, Bool.and_eq_true, and_f, cell_lg, cell_lb, cell_lr, cmpP, val_i, val_b, val_d, aget, Nat.reduceBEq, beq_self_eq_true, Bool.false_eq_true, if_true, if_false, Nat.reduceLT, Nat.reduceSub, Nat.sub_self, Nat.lt_irrefl, hY4, lts_len]
      · simp only [TT.sat_ret, TT.sat_ite, TT.sat_ob, TT.sat_next, TT.sat_stuck, put_i, put_b, put_d, put_fi, put_fb, put_fd, Ob.ok, B.ev, E.ev, X.ev, AL.ev, cmp_t, cmp_f, arEv, V.plain, V2.plain, S.plain, S0.plain, V.val, V2.val, S.val, S0.val, bV, iV, List.all_cons, List.all_nil, Bool.and_true, Bool.and_self, envOf_i, envOf_b, envOf_d, List.map_cons, List.map_nil, true_and, Bool.not_eq_true', Bool.not_eq_false', Bool.not_not, Bool.and_eq_true, and_f, cell_lg, cell_lb, cell_lr, cmpP, val_i, val_b, val_d, aget, Nat.reduceBEq, beq_self_eq_true, Bool.false_eq_true, if_true, if_false, Nat.reduceLT, Nat.reduceSub, Nat.sub_self, Nat.lt_irrefl, got]; omega
      · simp only [TT.sat_ret, TT.sat_ite, TT.sat_ob, TT.sat_next, TT.sat_stuck, put_i, put_b, put_d, put_fi, put_fb, put_fd, Ob.ok, B.ev, E.ev, X.ev, AL.ev, cmp_t, cmp_f, arEv, V.plain, V2.plain, S.plain, S0.plain, V.val, V2.val, S.val, S0.val, bV, iV, List.all_cons, List.all_nil, Bool.and_true, Bool.and_self, envOf_i, envOf_b, envOf_d, List.map_cons, List.map_nil, true_and, Bool.not_eq_true', Bool.not_eq_false', Bool.not_not, Bool.and_eq_true, and_f, cell_lg, cell_lb, cell_lr, cmpP, val_i, val_b, val_d, aget, Nat.reduceBEq, beq_self_eq_true, Bool.false_eq_true, if_true, if_false, Nat.reduceLT, Nat.reduceSub, Nat.sub_self, Nat.lt_irrefl, X.ev, val_d, List.take_zero, List.map_nil]
      obtain ⟨i', j0, j1, j2, j3, j4, j5⟩ := hz
      have hse : subR (lts N e) (i' : Int) ((e.length : Nat) : Int) = (lts N e).drop i' := by rw [← lts_len N e, subR_end, Int.toNat_natCast]
      have hdl : ((lts N e).drop i').length = e.length - i' := by rw [List.length_drop, lts_len]
      simp only [TT.sat_ret, TT.sat_ite, TT.sat_ob, TT.sat_next, TT.sat_stuck, put_i, put_b, put_d, put_fi, put_fb, put_fd, Ob.ok, B.ev, E.ev, X.ev, AL.ev, cmp_t, cmp_f, arEv, V.plain, V2.plain, S.plain, S0.plain, V.val, V2.val, S.val, S0.val, bV, iV, List.all_cons, List.all_nil, Bool.and_true, Bool.and_self, envOf_i, envOf_b, envOf_d, List.map_cons, List.map_nil, true_and, Bool.not_eq_true', Bool.not_eq_false', Bool.not_not, Bool.and_eq_true, and_f, cell_lg, cell_lb, cell_lr, cmpP, val_i, val_b, val_d, aget, Nat.reduceBEq, beq_self_eq_true, Bool.false_eq_true, if_true, if_false, Nat.reduceLT, Nat.reduceSub, Nat.sub_self, Nat.lt_irrefl, hY4, j0, j2, j3, j4, X.ev, hse, hdl]
      have done : (i' < e.length → lg (lts N e) i' 2 ≠ (x.g : Int) + i') → (i' : Int) = (runL e x.g : Nat) ∧ (x.g : Int) + (i' : Int) = (x.g : Int) + (runL e x.g : Nat) ∧ ((lts N e).take i').map ntR = ((lts N e).take (runL e x.g)).map ntR := fun h => by
        rw [← hrun, ← run_uniq (e := lts N e) (g := x.g) (by rw [lts_len]; exact j1) j5 (fun q => h (by rw [lts_len] at q; exact q))]; exact ⟨rfl, rfl, rfl⟩
      rw [if_neg (by decide)]
      refine ⟨fun hc => ⟨hc, fun hq => ?_, fun hq => done (fun _ => hq)⟩, fun hc => done (fun h => by omega)⟩
      have hi' : i' < e.length := by omega
      rw [wrap_in ((x.g : Int) + (i' : Int) + 1) (by omega) (by omega)]
      refine ⟨by omega, ?_, by omega, ⟨i' + 1, Int.natCast_succ i', by omega, sub_back j1, by omega, ?_, fun k hk => ?_⟩, meas_next hi'⟩
      · simp only [List.length_append, List.length_map, List.length_take, lts_len, List.length_cons, List.length_nil]; omega
      · rw [map_take (by rw [lts_len]; exact hi'), List.append_nil]
      · by_cases ek : k = i'
        · subst ek; exact hq
        · exact j5 k (by omega)
    obtain ⟨z1, z2, z4, z5⟩ := hY5
    have htl : (N.take (x.g + runL e x.g)).length = x.g + runL e x.g := by rw [List.length_take]; omega
    have hnb : acks x.b ++ ([[D.i 2, D.i 1, D.i ((x.g : Int) + (runL e x.g : Nat)), D.b true, D.i 0, D.i 0, D.i 0, D.i 0, D.i 0, D.i 0, D.l []]] ++ []) = acks (x.b ++ [x.g + runL e x.g]) := by
      rw [← acks_app]; rfl
    have hne : subR (lts N e) ((runL e x.g : Nat) : Int) ((e.length : Nat) : Int) = lts N (e.drop (runL e x.g)) := by rw [← lts_drop, ← lts_len N e, subR_end, Int.toNat_natCast]
    simp only [TT.sat_ret, TT.sat_ite, TT.sat_ob, TT.sat_next, TT.sat_stuck, put_i, put_b, put_d, put_fi, put_fb, put_fd, Ob.ok, B.ev, E.ev, X.ev, AL.ev, cmp_t, cmp_f, arEv, V.plain, V2.plain, S.plain, S0.plain, V.val, V2.val, S.val, S0.val, bV, iV, List.all_cons, List.all_nil, Bool.and_true, Bool.and_self, envOf_i, envOf_b, envOf_d, List.map_cons, List.map_nil, true_and, Bool.not_eq_true', Bool.not_eq_false', Bool.not_not, Bool.and_eq_true, and_f, cell_lg, cell_lb, cell_lr, cmpP, val_i, val_b, val_d, aget, Nat.reduceBEq, beq_self_eq_true, Bool.false_eq_true, if_true, if_false, Nat.reduceLT, Nat.reduceSub, Nat.sub_self, Nat.lt_irrefl, hy5, e1, i0, told, back, way, lts_len, hK, hidx, cg, a0, a1, X.ev, z4, z5, htold, htl, hnb, acks_len]
    refine ⟨by omega, by rw [List.length_append]; simp only [List.length_cons, List.length_nil]; omega, ?_⟩
    refine ⟨⟨i + 1, step ((stepc1 (by omega) (by omega)).trans (by rw [hP, hA'])) ?_ ?_ ?_ ?_ ?_ ?_ ?_ ?_ ?_ ?_⟩, by rw [w1]; omega⟩
    all_goals simp only [TT.sat_ret, TT.sat_ite, TT.sat_ob, TT.sat_next, TT.sat_stuck, put_i, put_b, put_d, put_fi, put_fb, put_fd, Ob.ok, B.ev, E.ev, X.ev, AL.ev, cmp_t, cmp_f, arEv, V.plain, V2.plain, S.plain, S0.plain, V.val, V2.val, S.val, S0.val, bV, iV, List.all_cons, List.all_nil, Bool.and_true, Bool.and_self, envOf_i, envOf_b, envOf_d, List.map_cons, List.map_nil, true_and, Bool.not_eq_true', Bool.not_eq_false', Bool.not_not, Bool.and_eq_true, and_f, cell_lg, cell_lb, cell_lr, cmpP, val_i, val_b, val_d, aget, Nat.reduceBEq, beq_self_eq_true, Bool.false_eq_true, if_true, if_false, Nat.reduceLT, Nat.reduceSub, Nat.sub_self, Nat.lt_irrefl, X.ev, val_i, val_d, i0, sq, qu, got, way, back, told, left, w1, lts_len, hK, e1, hidx, wp, cg, a0, a1, hY4, z1, z2, z4, z5, htold, hnb, hne, hcut]
    all_goals subst hE1
    all_goals first | rfl | omega
  · -- a letter arrives
    simp only [way, lts_len]
    refine ⟨fun z => ?_, fun z => ?_⟩
    · refine ⟨⟨i + 1, step (stepw (.inr (.inl (by omega))) (by omega)) ?_ ?_ ?_ ?_ ?_ ?_ ?_ ?_ ?_ ?_⟩, by rw [w1]; omega⟩
      all_goals simp only [TT.sat_ret, TT.sat_ite, TT.sat_ob, TT.sat_next, TT.sat_stuck, put_i, put_b, put_d, put_fi, put_fb, put_fd, Ob.ok, B.ev, E.ev, X.ev, AL.ev, cmp_t, cmp_f, arEv, V.plain, V2.plain, S.plain, S0.plain, V.val, V2.val, S.val, S0.val, bV, iV, List.all_cons, List.all_nil, Bool.and_true, Bool.and_self, envOf_i, envOf_b, envOf_d, List.map_cons, List.map_nil, true_and, Bool.not_eq_true', Bool.not_eq_false', Bool.not_not, Bool.and_eq_true, and_f, cell_lg, cell_lb, cell_lr, cmpP, val_i, val_b, val_d, aget, Nat.reduceBEq, beq_self_eq_true, Bool.false_eq_true, if_true, if_false, Nat.reduceLT, Nat.reduceSub, Nat.sub_self, Nat.lt_irrefl, X.ev, val_i, val_d, i0, sq, qu, got, way, back, told, left, early, w1]
      all_goals first | rfl | assumption | omega
    have hp : K / 8 % x.w.length < x.w.length := Nat.mod_lt _ (by omega)
    have hidx : (IntKind.i64.wrap ((K : Int).tdiv 8)).tmod ((x.w.length : Nat) : Int) = ((K / 8 % x.w.length : Nat) : Int) := by rw [td8, wK, tmN]
    have wp : IntKind.i64.wrap (((K / 8 % x.w.length : Nat) : Int) + 1) = ((K / 8 % x.w.length : Nat) : Int) + 1 := wrap_in _ (by omega) (by omega)
    have hcut : subR (lts N x.w) 0 ((K / 8 % x.w.length : Nat) : Int) ++ subR (lts N x.w) (((K / 8 % x.w.length : Nat) : Int) + 1) ((x.w.length : Nat) : Int) = lts N (x.w.eraseIdx (K / 8 % x.w.length)) := by
      rw [← lts_erase, ← cut_erase _ (by rw [lts_len]; exact hp), lts_len]
    have ha : x.w.getD (K / 8 % x.w.length) 0 < x.h := hxO.wh _ (getD_mem hp)
    have cg := fun j => lts_lg (N := N) hp j
    have cb := fun j => lts_lb (N := N) hp j
    have cr := fun j => lts_lr (N := N) hp j
    generalize hA' : x.w.getD (K / 8 % x.w.length) 0 = l at *
    generalize hP : K / 8 % x.w.length = p at *
    have eL : [D.i 1, D.i 2, D.i (l : Int), D.b (cB (letR N l) 3), D.i (cI (letR N l) 4), D.i (cI (letR N l) 5), D.i (cI (letR N l) 6), D.i (cI (letR N l) 7), D.i (cI (letR N l) 8), D.i (cI (letR N l) 9), D.l (cR (letR N l) 10)] = letR N l := rfl
    have eN : ntR (letR N l) = [D.i (cI (letR N l) 4), D.i (cI (letR N l) 5), D.i (cI (letR N l) 6), D.i (cI (letR N l) 7), D.i (cI (letR N l) 8), D.i (cI (letR N l) 9), D.l (cR (letR N l) 10)] := rfl
    have a0 : cI (letR N l) 0 = 1 := rfl
    have a1 : cI (letR N l) 1 = 2 := rfl
    have a2 : cI (letR N l) 2 = (l : Int) := rfl
    have eC : carL (letR N l) = carR (letR N l) := rfl
    have hcar := letR_car hA (k := l) (by omega)
    have hwinE := lts_win (N := N) (g := x.g + 1) hxO.up (fun k hk => hxO.lo k hk) (fun k hk => by have := hxO.hi k hk; omega)
    have hris := win_ris hwinE
    have hEo := lts_ours hA (l := x.e) (fun k hk => by have := hxO.eh k hk; omega)
    have hel := win_len hwinE
    rw [lts_len] at hel
    have hlow := lowS_spec (lts N x.e) l
    rw [lts_len] at hlow
    have hlow1 := hlow.1
    clear hlow
    have lgd : ∀ (i : Nat) j, i < x.e.length → lg (v.d 8) (v.i 9 + (i : Int)) j = lg (lts N x.e) i j := fun i j h => by rw [lg_sub (by rw [early, lts_len]; exact h) lo, early]
    have lrd : ∀ (i : Nat) j, i < x.e.length → lr (v.d 8) (v.i 9 + (i : Int)) j = lr (lts N x.e) i j := fun i j h => by rw [lr_sub (by rw [early, lts_len]; exact h) lo, early]
    have hins := lts_ins (N := N) (g := x.g) hris l
    have he1 : ∀ k ∈ insL x.g x.e l, x.g ≤ k ∧ k < x.g + 4 ∧ k < x.h := fun k hk => by
      rcases mem_insL hk with q | ⟨rfl, q⟩
      · exact ⟨Nat.le_of_lt (hxO.lo k q), hxO.hi k q, hxO.eh k q⟩
      · exact ⟨q.1, q.2, ha⟩
    have hw1 := lts_win (N := N) (g := x.g) (insL_up (g := x.g) (l := l) hxO.up) (fun k hk => (he1 k hk).1) (fun k hk => (he1 k hk).2.1)
    have hl1 := win_len hw1
    rw [lts_len] at hl1
    have hrun := lts_run (N := N) (e := insL x.g x.e l) (g := x.g)
    obtain ⟨r1, _, _⟩ := runL_spec (insL x.g x.e l) x.g
    have hyg : x.g + runL (insL x.g x.e l) x.g ≤ x.h := (hxO.take_ok ha).gh
    have htold := told_eq hN (e := insL x.g x.e l) (g := x.g) (by omega)
    simp only [TT.sat_ret, TT.sat_ite, TT.sat_ob, TT.sat_next, TT.sat_stuck, put_i, put_b, put_d, put_fi, put_fb, put_fd, Ob.ok, B.ev, E.ev, X.ev, AL.ev, cmp_t, cmp_f, arEv, V.plain, V2.plain, S.plain, S0.plain, V.val, V2.val, S.val, S0.val, bV, iV, List.all_cons, List.all_nil, Bool.and_true, Bool.and_self, envOf_i, envOf_b, envOf_d, List.map_cons, List.map_nil, true_and, Bool.not_eq_true', Bool.not_eq_false', Bool.not_not, Bool.and_eq_true, and_f, cell_lg, cell_lb, cell_lr, cmpP, val_i, val_b, val_d, aget, Nat.reduceBEq, beq_self_eq_true, Bool.false_eq_true, if_true, if_false, Nat.reduceLT, Nat.reduceSub, Nat.sub_self, Nat.lt_irrefl, way, lts_len, hK, hidx, wp]
    iterate 3 (refine ⟨by omega, ?_⟩)
    refine TT.sat_join (fun u => u.b 4 = false) (fun y hy => ?_) (fun y hy hY => ?_)
    · simp only [TT.sat_ret, TT.sat_ite, TT.sat_ob, TT.sat_next, TT.sat_stuck, put_i, put_b, put_d, put_fi, put_fb, put_fd, Ob.ok, B.ev, E.ev, X.ev, AL.ev, cmp_t, cmp_f, arEv, V.plain, V2.plain, S.plain, S0.plain, V.val, V2.val, S.val, S0.val, bV, iV, List.all_cons, List.all_nil, Bool.and_true, Bool.and_self, envOf_i, envOf_b, envOf_d, List.map_cons, List.map_nil, true_and, Bool.not_eq_true', Bool.not_eq_false', Bool.not_not, Bool.and_eq_true, and_f, cell_lg, cell_lb, cell_lr, cmpP, val_i, val_b, val_d, aget, Nat.reduceBEq, beq_self_eq_true, Bool.false_eq_true, if_true, if_false, Nat.reduceLT, Nat.reduceSub, Nat.sub_self, Nat.lt_irrefl, hy, e1, i0, got, early, way, lts_len, hK, hidx, wp, cg, cb, cr, a0, a1, a2, eL, Q5b211, Q5b191, Q5b201, in_two, ours_three, hIB, eC, hcar, hEo]
      exact ⟨fun h => (by cases h), fun _ => ⟨fun h => (by cases h), fun _ => trivial⟩⟩
    simp only [TT.sat_ret, TT.sat_ite, TT.sat_ob, TT.sat_next, TT.sat_stuck, put_i, put_b, put_d, put_fi, put_fb, put_fd, Ob.ok, B.ev, E.ev, X.ev, AL.ev, cmp_t, cmp_f, arEv, V.plain, V2.plain, S.plain, S0.plain, V.val, V2.val, S.val, S0.val, bV, iV, List.all_cons, List.all_nil, Bool.and_true, Bool.and_self, envOf_i, envOf_b, envOf_d, List.map_cons, List.map_nil, true_and, Bool.not_eq_true', Bool.not_eq_false', Bool.not_not, Bool.and_eq_true, and_f, cell_lg, cell_lb, cell_lr, cmpP, val_i, val_b, val_d, aget, Nat.reduceBEq, beq_self_eq_true, Bool.false_eq_true, if_true, if_false, Nat.reduceLT, Nat.reduceSub, Nat.sub_self, Nat.lt_irrefl, hy, hY, early, Q5b203, ris_one, hris]
    refine ⟨fun h => (by cases h), fun _ => ?_⟩
    refine TT.sat_join (fun u => u.b 2 = false) (fun y2 hy2 => ?_) (fun y2 hy2 hY2 => ?_)
    · simp only [TT.sat_ret, TT.sat_ite, TT.sat_ob, TT.sat_next, TT.sat_stuck, put_i, put_b, put_d, put_fi, put_fb, put_fd, Ob.ok, B.ev, E.ev, X.ev, AL.ev, cmp_t, cmp_f, arEv, V.plain, V2.plain, S.plain, S0.plain, V.val, V2.val, S.val, S0.val, bV, iV, List.all_cons, List.all_nil, Bool.and_true, Bool.and_self, envOf_i, envOf_b, envOf_d, List.map_cons, List.map_nil, true_and, Bool.not_eq_true', Bool.not_eq_false', Bool.not_not, Bool.and_eq_true, and_f, cell_lg, cell_lb, cell_lr, cmpP, val_i, val_b, val_d, aget, Nat.reduceBEq, beq_self_eq_true, Bool.false_eq_true, if_true, if_false, Nat.reduceLT, Nat.reduceSub, Nat.sub_self, Nat.lt_irrefl, hy2, e1, i0, early, way, lts_len, hK, hidx, cg, cb, cr, a2, Q5b204, Q5i200, Q5b190, is_two, low_two]
      refine ⟨fun h => ?_, fun _ => trivial⟩
      unfold isS at h
      rw [decide_eq_true_eq] at h
      have hl := h.1
      have hl' := hl
      rw [lts_len] at hl'
      simp only [lgd _ _ hl', lrd _ _ hl']
      refine ⟨by omega, by omega, ?_⟩
      have hx := letR_agr (N := N) (e := x.e) l _ (List.getElem_mem hl) (by rw [← lg_cI hl]; exact h.2)
      rw [ntR_at hl, eN] at hx
      exact (ns14 _ _ _ _ _ _ _ _ _ _ _ _ _ _).2 hx
    simp only [TT.sat_ret, TT.sat_ite, TT.sat_ob, TT.sat_next, TT.sat_stuck, put_i, put_b, put_d, put_fi, put_fb, put_fd, Ob.ok, B.ev, E.ev, X.ev, AL.ev, cmp_t, cmp_f, arEv, V.plain, V2.plain, S.plain, S0.plain, V.val, V2.val, S.val, S0.val, bV, iV, List.all_cons, List.all_nil, Bool.and_true, Bool.and_self, envOf_i, envOf_b, envOf_d, List.map_cons, List.map_nil, true_and, Bool.not_eq_true', Bool.not_eq_false', Bool.not_not, Bool.and_eq_true, and_f, cell_lg, cell_lb, cell_lr, cmpP, val_i, val_b, val_d, aget, Nat.reduceBEq, beq_self_eq_true, Bool.false_eq_true, if_true, if_false, Nat.reduceLT, Nat.reduceSub, Nat.sub_self, Nat.lt_irrefl, hy2, hY2, early, lts_len]
    refine ⟨fun h => (by cases h), fun _ => ⟨by omega, ?_⟩⟩
    refine TT.sat_join (fun u => u.b 2 = putB x.g (lts N x.e) l) (fun y3 hy3 => ?_) (fun y3 hy3 hY3 => ?_)
    · simp only [TT.sat_ret, TT.sat_ite, TT.sat_ob, TT.sat_next, TT.sat_stuck, put_i, put_b, put_d, put_fi, put_fb, put_fd, Ob.ok, B.ev, E.ev, X.ev, AL.ev, cmp_t, cmp_f, arEv, V.plain, V2.plain, S.plain, S0.plain, V.val, V2.val, S.val, S0.val, bV, iV, List.all_cons, List.all_nil, Bool.and_true, Bool.and_self, envOf_i, envOf_b, envOf_d, List.map_cons, List.map_nil, true_and, Bool.not_eq_true', Bool.not_eq_false', Bool.not_not, Bool.and_eq_true, and_f, cell_lg, cell_lb, cell_lr, cmpP, val_i, val_b, val_d, aget, Nat.reduceBEq, beq_self_eq_true, Bool.false_eq_true, if_true, if_false, Nat.reduceLT, Nat.reduceSub, Nat.sub_self, Nat.lt_irrefl, hy3, e1, i0, got, early, way, lts_len, hK, hidx, cg, a2, Q5b204, is_two, wrap_in ((x.g : Int) + 4) (by omega) (by omega)]
      refine ⟨fun h => ⟨fun a => ?_, fun a => ?_⟩, fun h => ?_⟩
      · rw [putB, h, lss_dec]
        simp only [Bool.not_false, Bool.true_and]
        exact decide_eq_decide.2 ⟨fun b => ⟨a, b⟩, fun b => b.2⟩
      · rw [putB, decide_eq_false (fun b => a b.1), Bool.and_false]
      · rw [putB, h]; rfl
    refine TT.sat_join (fun u => u.d 2 = lts N (insL x.g x.e l)) (fun y4 hy4 => ?_) (fun y4 hy4 hY4 => ?_)
    · simp only [TT.sat_ret, TT.sat_ite, TT.sat_ob, TT.sat_next, TT.sat_stuck, put_i, put_b, put_d, put_fi, put_fb, put_fd, Ob.ok, B.ev, E.ev, X.ev, AL.ev, cmp_t, cmp_f, arEv, V.plain, V2.plain, S.plain, S0.plain, V.val, V2.val, S.val, S0.val, bV, iV, List.all_cons, List.all_nil, Bool.and_true, Bool.and_self, envOf_i, envOf_b, envOf_d, List.map_cons, List.map_nil, true_and, Bool.not_eq_true', Bool.not_eq_false', Bool.not_not, Bool.and_eq_true, and_f, cell_lg, cell_lb, cell_lr, cmpP, val_i, val_b, val_d, aget, Nat.reduceBEq, beq_self_eq_true, Bool.false_eq_true, if_true, if_false, Nat.reduceLT, Nat.reduceSub, Nat.sub_self, Nat.lt_irrefl, hy4, hY3, e1, i0, early, way, lts_len, hK, hidx, cg, cb, cr, a0, a1, a2, eL, Q5i200, low_two, X.ev]
      rw [← hins]
      refine ⟨fun h => ⟨by omega, by omega, by omega, ?_⟩, fun h => ?_⟩
      · unfold insR; rw [if_pos h, ← lts_len N x.e, subR_end, subR_zero, Int.toNat_natCast, List.append_nil, List.append_assoc]
      · unfold insR; rw [h, if_neg (by decide)]
    generalize hE1 : insL x.g x.e l = e at *
    refine TT.sat_join (fun u => u.i 1 = (runL e x.g : Nat) ∧ u.i 2 = (e.length : Nat) ∧ u.i 4 = (x.g : Int) + (runL e x.g : Nat) ∧ u.d 15 = ((lts N e).take (runL e x.g)).map ntR) (fun y5 hy5 => ?_) (fun y5 hy5 hY5 => ?_)
    · refine TT.sat_loop (fun z => ∃ i : Nat, z.i 0 = i ∧ i ≤ e.length ∧ z.i 1 = (e.length : Nat) ∧ z.i 4 = (x.g : Int) + i ∧ z.d 3 = ((lts N e).take i).map ntR ∧ ∀ k : Nat, k < i → lg (lts N e) k 2 = (x.g : Int) + k) (fun z => e.length - (z.i 0).toNat)
        ⟨0, ?_, by omega, ?_, ?_, ?_, fun k hk => by omega⟩ (fun z hz => ?_)
      · simp only [TT.sat_ret, TT.sat_ite, TT.sat_ob, TT.sat_next, TT.sat_stuck, put_i, put_b, put_d, put_fi, put_fb, put_fd, Ob.ok, B.ev, E.ev, X.ev, AL.ev, cmp_t, cmp_f, arEv, V.plain, V2.plain, S.plain, S0.plain, V.val, V2.val, S.val, S0.val, bV, iV, List.all_cons, List.all_nil, Bool.and_true, Bool.and_self, envOf_i, envOf_b, envOf_d, List.map_cons, List.map_nil, true_and, Bool.not_eq_true', Bool.not_eq_false', Bool.not_not, Bool.and_eq_true, and_f, cell_lg, cell_lb, cell_lr, cmpP, val_i, val_b, val_d, aget, Nat.reduceBEq, beq_self_eq_true, Bool.false_eq_true, if_true, if_false, Nat.reduceLT, Nat.reduceSub, Nat.sub_self, Nat.lt_irrefl]; rfl
      · simp only [TT.sat_ret, TT.sat_ite, TT.sat_ob, TT.sat_next, TT.sat_stuck, put_i, put_b, put_d, put_fi, put_fb, put_fd, Ob.ok, B.ev, E.ev, X.ev, AL.ev, cmp_t, cmp_f, arEv, V.plain, V2.plain, S.plain, S0.plain, V.val, V2.val, S.val, S0.val, bV, iV, List.all_cons, List.all_nil, Bool.and_true, Bool.and_self, envOf_i, envOf_b, envOf_d, List.map_cons, List.map_nil, true_and, Bool.not_eq_true', Bool.not_eq_false', Bool.not_not, Bool.and_eq_true, and_f, cell_lg, cell_lb, cell_lr, cmpP, val_i, val_b, val_d, aget, Nat.reduceBEq, beq_self_eq_true, Bool.false_eq_true, if_true, if_false, Nat.reduceLT, Nat.reduceSub, Nat.sub_self, Nat.lt_irrefl, hY4, lts_len]
      · simp only [TT.sat_ret, TT.sat_ite, TT.sat_ob, TT.sat_next, TT.sat_stuck, put_i, put_b, put_d, put_fi, put_fb, put_fd, Ob.ok, B.ev, E.ev, X.ev, AL.ev, cmp_t, cmp_f, arEv, V.plain, V2.plain, S.plain, S0.plain, V.val, V2.val, S.val, S0.val, bV, iV, List.all_cons, List.all_nil, Bool.and_true, Bool.and_self, envOf_i, envOf_b, envOf_d, List.map_cons, List.map_nil, true_and, Bool.not_eq_true', Bool.not_eq_false', Bool.not_not, Bool.and_eq_true, and_f, cell_lg, cell_lb, cell_lr, cmpP, val_i, val_b, val_d, aget, Nat.reduceBEq, beq_self_eq_true, Bool.false_eq_true, if_true, if_false, Nat.reduceLT, Nat.reduceSub, Nat.sub_self, Nat.lt_irrefl, got]; omega
      · simp only [TT.sat_ret, TT.sat_ite, TT.sat_ob, TT.sat_next, TT.sat_stuck, put_i, put_b, put_d, put_fi, put_fb, put_fd, Ob.ok, B.ev, E.ev, X.ev, AL.ev, cmp_t, cmp_f, arEv, V.plain, V2.plain, S.plain, S0.plain, V.val, V2.val, S.val, S0.val, bV, iV, List.all_cons, List.all_nil, Bool.and_true, Bool.and_self, envOf_i, envOf_b, envOf_d, List.map_cons, List.map_nil, true_and, Bool.not_eq_true', Bool.not_eq_false', Bool.not_not, Bool.and_eq_true, and_f, cell_lg, cell_lb, cell_lr, cmpP, val_i, val_b, val_d, aget, Nat.reduceBEq, beq_self_eq_true, Bool.false_eq_true, if_true, if_false, Nat.reduceLT, Nat.reduceSub, Nat.sub_self, Nat.lt_irrefl, X.ev, val_d, List.take_zero, List.map_nil]
      obtain ⟨i', j0, j1, j2, j3, j4, j5⟩ := hz
      have hse : subR (lts N e) (i' : Int) ((e.length : Nat) : Int) = (lts N e).drop i' := by rw [← lts_len N e, subR_end, Int.toNat_natCast]
      have hdl : ((lts N e).drop i').length = e.length - i' := by rw [List.length_drop, lts_len]
      simp only [TT.sat_ret, TT.sat_ite, TT.sat_ob, TT.sat_next, TT.sat_stuck, put_i, put_b, put_d, put_fi, put_fb, put_fd, Ob.ok, B.ev, E.ev, X.ev, AL.ev, cmp_t, cmp_f, arEv, V.plain, V2.plain, S.plain, S0.plain, V.val, V2.val, S.val, S0.val, bV, iV, List.all_cons, List.all_nil, Bool.and_true, Bool.and_self, envOf_i, envOf_b, envOf_d, List.map_cons, List.map_nil, true_and, Bool.not_eq_true', Bool.not_eq_false', Bool.not_not, Bool.and_eq_true, and_f, cell_lg, cell_lb, cell_lr, cmpP, val_i, val_b, val_d, aget, Nat.reduceBEq, beq_self_eq_true, Bool.false_eq_true, if_true, if_false, Nat.reduceLT, Nat.reduceSub, Nat.sub_self, Nat.lt_irrefl, hY4, j0, j2, j3, j4, X.ev, hse, hdl]
      have done : (i' < e.length → lg (lts N e) i' 2 ≠ (x.g : Int) + i') → (i' : Int) = (runL e x.g : Nat) ∧ (x.g : Int) + (i' : Int) = (x.g : Int) + (runL e x.g : Nat) ∧ ((lts N e).take i').map ntR = ((lts N e).take (runL e x.g)).map ntR := fun h => by
        rw [← hrun, ← run_uniq (e := lts N e) (g := x.g) (by rw [lts_len]; exact j1) j5 (fun q => h (by rw [lts_len] at q; exact q))]; exact ⟨rfl, rfl, rfl⟩
      rw [if_neg (by decide)]
      refine ⟨fun hc => ⟨hc, fun hq => ?_, fun hq => done (fun _ => hq)⟩, fun hc => done (fun h => by omega)⟩
      have hi' : i' < e.length := by omega
      rw [wrap_in ((x.g : Int) + (i' : Int) + 1) (by omega) (by omega)]
      refine ⟨by omega, ?_, by omega, ⟨i' + 1, Int.natCast_succ i', by omega, sub_back j1, by omega, ?_, fun k hk => ?_⟩, meas_next hi'⟩
      · simp only [List.length_append, List.length_map, List.length_take, lts_len, List.length_cons, List.length_nil]; omega
      · rw [map_take (by rw [lts_len]; exact hi'), List.append_nil]
      · by_cases ek : k = i'
        · subst ek; exact hq
        · exact j5 k (by omega)
    obtain ⟨z1, z2, z4, z5⟩ := hY5
    have htl : (N.take (x.g + runL e x.g)).length = x.g + runL e x.g := by rw [List.length_take]; omega
    have hnb : acks x.b ++ ([[D.i 2, D.i 1, D.i ((x.g : Int) + (runL e x.g : Nat)), D.b true, D.i 0, D.i 0, D.i 0, D.i 0, D.i 0, D.i 0, D.l []]] ++ []) = acks (x.b ++ [x.g + runL e x.g]) := by
      rw [← acks_app]; rfl
    have hne : subR (lts N e) ((runL e x.g : Nat) : Int) ((e.length : Nat) : Int) = lts N (e.drop (runL e x.g)) := by rw [← lts_drop, ← lts_len N e, subR_end, Int.toNat_natCast]
    simp only [TT.sat_ret, TT.sat_ite, TT.sat_ob, TT.sat_next, TT.sat_stuck, put_i, put_b, put_d, put_fi, put_fb, put_fd, Ob.ok, B.ev, E.ev, X.ev, AL.ev, cmp_t, cmp_f, arEv, V.plain, V2.plain, S.plain, S0.plain, V.val, V2.val, S.val, S0.val, bV, iV, List.all_cons, List.all_nil, Bool.and_true, Bool.and_self, envOf_i, envOf_b, envOf_d, List.map_cons, List.map_nil, true_and, Bool.not_eq_true', Bool.not_eq_false', Bool.not_not, Bool.and_eq_true, and_f, cell_lg, cell_lb, cell_lr, cmpP, val_i, val_b, val_d, aget, Nat.reduceBEq, beq_self_eq_true, Bool.false_eq_true, if_true, if_false, Nat.reduceLT, Nat.reduceSub, Nat.sub_self, Nat.lt_irrefl, hy5, e1, i0, told, back, way, lts_len, hK, hidx, cg, a0, a1, X.ev, z4, z5, htold, htl, hnb, acks_len]
    refine ⟨by omega, by rw [List.length_append]; simp only [List.length_cons, List.length_nil]; omega, ?_⟩
    refine ⟨⟨i + 1, step ((stepc2 (by omega) (by omega)).trans (by rw [hP, hA'])) ?_ ?_ ?_ ?_ ?_ ?_ ?_ ?_ ?_ ?_⟩, by rw [w1]; omega⟩
    all_goals simp only [TT.sat_ret, TT.sat_ite, TT.sat_ob, TT.sat_next, TT.sat_stuck, put_i, put_b, put_d, put_fi, put_fb, put_fd, Ob.ok, B.ev, E.ev, X.ev, AL.ev, cmp_t, cmp_f, arEv, V.plain, V2.plain, S.plain, S0.plain, V.val, V2.val, S.val, S0.val, bV, iV, List.all_cons, List.all_nil, Bool.and_true, Bool.and_self, envOf_i, envOf_b, envOf_d, List.map_cons, List.map_nil, true_and, Bool.not_eq_true', Bool.not_eq_false', Bool.not_not, Bool.and_eq_true, and_f, cell_lg, cell_lb, cell_lr, cmpP, val_i, val_b, val_d, aget, Nat.reduceBEq, beq_self_eq_true, Bool.false_eq_true, if_true, if_false, Nat.reduceLT, Nat.reduceSub, Nat.sub_self, Nat.lt_irrefl, X.ev, val_i, val_d, i0, sq, qu, got, way, back, told, left, w1, lts_len, hK, e1, hidx, wp, cg, a0, a1, hY4, z1, z2, z4, z5, htold, hnb, hne]
    all_goals subst hE1
    all_goals first | rfl | omega
end Go.Proofs.YtbbjlleaofgddaaGreat
/- Chapter 42: what the arguments' integers are. -/
namespace Go.Proofs.YtbbjlleaofgddaaGreat
open Go.ChangeShapes Go.WideShapes Go.ChangeAt Go.RowKit
section
variable {H : Type} {enc : TypeId × Value → H} {P : Program} {W : World} {sp : Nat → Bool} {held : Bool}
theorem wf_le {n : Int} (h : (Lit.int .i64 n).wf = true) : n ≤ 9223372036854775807 := by
  unfold Lit.wf at h
  simp only [Bool.and_eq_true, decide_eq_true_eq] at h
  have e2 : IntKind.i64.max = 9223372036854775807 := by decide
  have h2 := h.2
  rw [e2] at h2
  exact h2
theorem ints_wide {t e : TypeId} (hu : P.underlying t = some (.slice e)) (he : P.underlying e = some (.int .i64)) {v : Value} {d : DataW H} {p : List MemPlace} (h : DataW.Trod enc P W 0 sp held t v d p) {rows : Rows} (hr : CK.rep W (.sl [.int .i64]) v (.l rows)) :
    ∀ i, i < rows.length → lg rows i 0 ≤ 9223372036854775807 := by
  intro i hi
  obtain ⟨fuel, hf⟩ := h
  obtain ⟨r, e0, a, n, c, rfl, hs, _⟩ := rep_sl.1 hr
  simp only [D.l.injEq] at e0
  subst e0
  have hf : DataW.trod enc P W 0 sp held fuel t [.slice a n c] = some (d, p) := hf
  cases fuel with
  | zero => simp [DataW.trod] at hf
  | succ fuel =>
    rcases DataW.trod_slice hu hf with ⟨q, _⟩ | ⟨a', len, cap, elems, rest, m, hm, q, _, _, _, _, hlen, hel, _, _⟩
    · simp only [List.cons.injEq, Value.slice.injEq, and_true] at q
      have := hs.len
      omega
    · simp only [List.cons.injEq, Value.slice.injEq, and_true] at q
      obtain ⟨rfl, rfl, rfl⟩ := q
      have hl := hs.len
      have h2 := hel i (by omega)
      rw [List.getElem?_eq_getElem (by omega)] at h2
      simp only [Option.bind_eq_some_iff] at h2
      obtain ⟨vs, h3, h4⟩ := h2
      obtain ⟨c1, c2⟩ := cells_of h3
      obtain ⟨x, rfl, _, hw⟩ := DataW.trod_int he h4
      obtain ⟨us, g1, g2⟩ := hs.cell a' rfl i rows[i] (List.getElem?_eq_getElem hi)
      unfold CK.reps CK.reps CK.rep at g1
      obtain ⟨u, us', d', ds', rfl, g3, ⟨y, rfl, rfl⟩, rfl, rfl⟩ := g1
      have q1 := c2 0 _ rfl
      have q2 := g2 0 _ rfl
      have hc : P.cellsOf e = 1 := by simpa using c1.symm
      rw [hc] at q1
      simp only [List.length_cons, List.length_nil, Nat.zero_add, Nat.add_zero] at q1 q2
      have q3 : (a'.add (i * 1)).add 0 = a'.add (i * 1) := by simp [Addr.add]
      rw [q3, q2] at q1
      simp only [Option.some.injEq, Value.int.injEq, true_and] at q1
      subst q1
      rw [lg_cI hi, g3]
      exact wf_le hw
end
theorem scr_arg {W : World} {vals vs0 vs1 : List Value} {v0 v1 : Value} {sh : List Sh} {xs : List D} (h : repSh W (nots :: ints :: sh) vals xs) (h0 : vals = v0 :: vs0) (h1 : vs0 = v1 :: vs1) (hw : ∀ rows, CK.rep W (.sl [.int .i64]) v1 (.l rows) → ∀ i, i < rows.length → lg rows i 0 ≤ 9223372036854775807) : scrOk xs := by
  subst h0 h1
  obtain ⟨u0, us0, d0, ds0, e0, rfl, ⟨x0, rfl, g0⟩, u1, us1, d1, ds1, e1, rfl, ⟨x1, rfl, g1⟩, _⟩ := h
  simp only [List.cons.injEq] at e0
  obtain ⟨rfl, rfl⟩ := e0
  simp only [List.cons.injEq] at e1
  obtain ⟨rfl, rfl⟩ := e1
  obtain ⟨r, rfl, hs⟩ := rep_sl.1 g1
  exact hw r g1
theorem u8_arg2 {W : World} {vals : List Value} {ds : List D} (h : repSh W [nots, ints, .one (.int .u8)] vals ds) (hr : ∀ v, vals[2]? = some v → ∃ n : Int, v = .int .u8 n ∧ 0 ≤ n ∧ n ≤ 255) : 0 ≤ iAt ds 2 ∧ iAt ds 2 ≤ 255 := by
  obtain ⟨v0, vs0, d0, ds0, rfl, rfl, ⟨x0, rfl, h0⟩, v1, vs1, d1, ds1, rfl, rfl, ⟨x1, rfl, h1⟩, v2, vs2, d2, ds2, rfl, rfl, ⟨x2, rfl, h2⟩, rfl, rfl⟩ := h
  obtain ⟨n, rfl, n1, n2⟩ := hr v2 rfl
  unfold CK.rep at h2
  obtain ⟨n', e1, rfl⟩ := h2
  cases e1
  exact ⟨n1, n2⟩
theorem okWide_u8 {P : Program} {w : World} {r : Reach} {base : Nat} {t : TypeId} {v : Value} (hu : P.underlying t = some (.int .u8)) (h : Value.okWide P w r base t v) : ∃ n : Int, v = .int .u8 n ∧ 0 ≤ n ∧ n ≤ 255 := by
  unfold Value.okWide at h
  simp only [hu] at h
  unfold Cell.okWide at h
  simp only [hu] at h
  unfold Cell.ok at h
  simp only [hu] at h
  cases v <;> simp only at h <;> try exact h.elim
  rename_i k n
  obtain ⟨rfl, h⟩ := h
  refine ⟨n, rfl, ?_⟩
  have e1 : IntKind.u8.min = 0 := by decide
  have e2 : IntKind.u8.max = 255 := by decide
  unfold IntKind.has at h
  rw [e1, e2] at h
  exact h
end Go.Proofs.YtbbjlleaofgddaaGreat
