/- LOv, merged: Ar, As, At0, At1, Ay0, Ap1, Ap2, Aq, Ax, Ap3. -/
import Derived.Test.YtbbjlleaofgddaaGreatLRep
import Derived.Test.YtbbjlleaofgddaaGreatLOvT
import Derived.Test.YtbbjlleaofgddaaGreatMK
set_option linter.unusedSimpArgs false
set_option linter.unusedVariables false
/- Chapter 42: a run of the link, by numbers. No program. -/
namespace Go.Proofs.YtbbjlleaofgddaaGreat
open Go.RowKit
structure RS where
  s : Nat
  g : Nat
  h : Nat
  e : List Nat
  w : List Nat
  b : List Nat
def RS.start : RS := ⟨0, 0, 0, [], [], []⟩
def lowL : List Nat → Nat → Nat
  | [], _ => 0
  | a :: e, l => if a < l then lowL e l + 1 else 0
def putL : List Nat → Nat → List Nat
  | [], l => [l]
  | a :: e, l => if a < l then a :: putL e l else l :: a :: e
def insL (g : Nat) (e : List Nat) (l : Nat) : List Nat := if l ∉ e ∧ g ≤ l ∧ l < g + 4 then putL e l else e
def runL : List Nat → Nat → Nat
  | [], _ => 0
  | a :: e, g => if a = g then runL e (g + 1) + 1 else 0
def RS.take (x : RS) (l : Nat) : RS := { x with g := x.g + runL (insL x.g x.e l) x.g, e := (insL x.g x.e l).drop (runL (insL x.g x.e l) x.g), b := x.b ++ [x.g + runL (insL x.g x.e l) x.g] }
def RS.hear (x : RS) (a : Nat) : RS := { x with s := max x.s a }
def RS.out (x : RS) : List Nat := (List.range (min 4 (x.h - x.s))).map fun k => x.s + k
def RS.step (n : Nat) (x : RS) (k : Nat) : RS :=
  let i := k / 8 % x.w.length
  let j := k / 8 % x.b.length
  match k % 8 with
  | 0 => { x with w := x.w ++ x.out }
  | 1 => if x.w.length = 0 then x else { x with w := x.w.eraseIdx i }.take (x.w.getD i 0)
  | 2 => if x.w.length = 0 then x else x.take (x.w.getD i 0)
  | 3 => if x.w.length = 0 then x else { x with w := x.w.eraseIdx i }
  | 4 => if x.b.length = 0 then x else { x with b := x.b.eraseIdx j }.hear (x.b.getD j 0)
  | 5 => if x.b.length = 0 then x else x.hear (x.b.getD j 0)
  | 6 => if x.b.length = 0 then x else { x with b := x.b.eraseIdx j }
  | _ => if x.h < n then { x with h := x.h + 1 } else x
def RS.run (n : Nat) (l : List Nat) : RS := l.foldl (RS.step n) RS.start
structure RS.Ok (n : Nat) (x : RS) : Prop where
  sg : x.s ≤ x.g
  gh : x.g ≤ x.h
  hn : x.h ≤ n
  lo : ∀ k ∈ x.e, x.g < k
  hi : ∀ k ∈ x.e, k < x.g + 4
  eh : ∀ k ∈ x.e, k < x.h
  up : x.e.Pairwise (· < ·)
  wh : ∀ k ∈ x.w, k < x.h
  bg : ∀ k ∈ x.b, k ≤ x.g
theorem RS.start_ok (n : Nat) : RS.start.Ok n := ⟨Nat.le_refl _, Nat.le_refl _, Nat.zero_le _, fun k h => (by cases h), fun k h => (by cases h), fun k h => (by cases h), List.Pairwise.nil, fun k h => (by cases h), fun k h => (by cases h)⟩
theorem mem_putL {k l : Nat} : ∀ {e : List Nat}, k ∈ putL e l ↔ k = l ∨ k ∈ e
  | [] => by simp [putL]
  | a :: e => by
    rw [putL]
    split
    · rw [List.mem_cons, mem_putL (e := e), List.mem_cons]
      constructor
      · rintro (h | h | h)
        · exact .inr (.inl h)
        · exact .inl h
        · exact .inr (.inr h)
      · rintro (h | h | h)
        · exact .inr (.inl h)
        · exact .inl h
        · exact .inr (.inr h)
    · simp
theorem putL_eq {l : Nat} : ∀ {e : List Nat}, putL e l = e.take (lowL e l) ++ ([l] ++ e.drop (lowL e l))
  | [] => by simp [putL, lowL]
  | a :: e => by
    rw [putL, lowL]
    split
    · rw [putL_eq (e := e)]; simp
    · simp
theorem putL_up {l : Nat} : ∀ {e : List Nat}, e.Pairwise (· < ·) → l ∉ e → (putL e l).Pairwise (· < ·)
  | [], _, _ => by simp [putL]
  | a :: e, h, hl => by
    rw [List.pairwise_cons] at h
    rw [List.mem_cons, not_or] at hl
    rw [putL]
    split
    · rename_i c
      rw [List.pairwise_cons]
      refine ⟨fun k hk => ?_, putL_up h.2 hl.2⟩
      rcases mem_putL.1 hk with rfl | hk
      · exact c
      · exact h.1 k hk
    · rename_i c
      rw [List.pairwise_cons, List.pairwise_cons]
      refine ⟨fun k hk => ?_, h⟩
      rcases List.mem_cons.1 hk with rfl | hk
      · omega
      · have := h.1 k hk; omega
theorem lowL_spec {l : Nat} : ∀ (e : List Nat), lowL e l ≤ e.length ∧ (∀ (i : Nat) (hi : i < e.length), i < lowL e l → e[i] < l) ∧ ∀ (h : lowL e l < e.length), ¬ e[lowL e l] < l
  | [] => ⟨Nat.le_refl _, fun i hi => (by cases hi), fun h => (by cases h)⟩
  | a :: e => by
    obtain ⟨h1, h2, h3⟩ := lowL_spec (l := l) e
    rw [lowL]
    split
    · rename_i c
      refine ⟨by simp; omega, fun i hi h => ?_, fun h => ?_⟩
      · cases i with
        | zero => exact c
        | succ i => exact h2 i (by simpa using hi) (by omega)
      · exact h3 (by simpa using h)
    · rename_i c
      exact ⟨Nat.zero_le _, fun i hi h => (by omega), fun h => c⟩
theorem mem_insL {g l k : Nat} {e : List Nat} (h : k ∈ insL g e l) : k ∈ e ∨ k = l ∧ g ≤ l ∧ l < g + 4 := by
  unfold insL at h
  split at h
  · rename_i hp
    rcases mem_putL.1 h with h | h
    · exact .inr ⟨h, hp.2⟩
    · exact .inl h
  · exact .inl h
theorem insL_up {g l : Nat} {e : List Nat} (h : e.Pairwise (· < ·)) : (insL g e l).Pairwise (· < ·) := by
  unfold insL
  split
  · rename_i hp; exact putL_up h hp.1
  · exact h
theorem runL_spec : ∀ (e : List Nat) (g : Nat), runL e g ≤ e.length ∧ (∀ (i : Nat) (hi : i < e.length), i < runL e g → e[i] = g + i) ∧ ∀ (h : runL e g < e.length), e[runL e g] ≠ g + runL e g
  | [], g => ⟨Nat.le_refl _, fun i hi => (by cases hi), fun h => (by cases h)⟩
  | a :: e, g => by
    obtain ⟨h1, h2, h3⟩ := runL_spec e (g + 1)
    rw [runL]
    split
    · rename_i c
      refine ⟨by simp; omega, fun i hi h => ?_, fun h => ?_⟩
      · cases i with
        | zero => exact c
        | succ i =>
          have := h2 i (by simpa using hi) (by omega)
          rw [List.getElem_cons_succ, this]; omega
      · have := h3 (by simpa using h)
        rw [List.getElem_cons_succ]; omega
    · rename_i c
      exact ⟨Nat.zero_le _, fun i hi h => (by omega), fun h => c⟩
theorem rest_gt {e : List Nat} {g : Nat} (hu : e.Pairwise (· < ·)) (hlo : ∀ k ∈ e, g ≤ k) : ∀ k ∈ e.drop (runL e g), g + runL e g < k := by
  obtain ⟨h1, h2, h3⟩ := runL_spec e g
  intro k hk
  obtain ⟨i, hi, rfl⟩ := List.getElem_of_mem hk
  rw [List.length_drop] at hi
  rw [List.getElem_drop]
  have hp := List.pairwise_iff_getElem.1 hu
  have hm : g + runL e g < e[runL e g]'(by omega) := by
    have := h3 (by omega)
    rcases Nat.eq_zero_or_pos (runL e g) with z | z
    · have := hlo _ (List.getElem_mem (show runL e g < e.length by omega))
      omega
    · have a := h2 (runL e g - 1) (by omega) (by omega)
      have b := hp (runL e g - 1) (runL e g) (by omega) (by omega) (by omega)
      omega
  rcases Nat.eq_zero_or_pos i with z | z
  · subst z; simpa using hm
  · have := hp (runL e g) (runL e g + i) (by omega) (by omega) (by omega)
    omega
theorem RS.Ok.take_ok {n : Nat} {x : RS} (h : x.Ok n) {l : Nat} (hl : l < x.h) : (x.take l).Ok n := by
  have hin : ∀ k ∈ insL x.g x.e l, x.g ≤ k ∧ k < x.g + 4 ∧ k < x.h := fun k hk => by
    rcases mem_insL hk with q | ⟨rfl, q⟩
    · exact ⟨Nat.le_of_lt (h.lo k q), h.hi k q, h.eh k q⟩
    · exact ⟨q.1, q.2, hl⟩
  have hu := insL_up (g := x.g) (l := l) h.up
  have hr := rest_gt hu (fun k hk => (hin k hk).1)
  obtain ⟨r1, r2, r3⟩ := runL_spec (insL x.g x.e l) x.g
  refine ⟨by show x.s ≤ x.g + _; have := h.sg; omega, ?_, h.hn, fun k hk => hr k hk, fun k hk => ?_, fun k hk => (hin k (List.mem_of_mem_drop hk)).2.2, hu.sublist (List.drop_sublist _ _), h.wh, fun k hk => ?_⟩
  · show x.g + runL (insL x.g x.e l) x.g ≤ x.h
    rcases Nat.eq_zero_or_pos (runL (insL x.g x.e l) x.g) with z | z
    · have := h.gh; omega
    · have a := r2 (runL (insL x.g x.e l) x.g - 1) (by omega) (by omega)
      have b := (hin _ (List.getElem_mem (show runL (insL x.g x.e l) x.g - 1 < (insL x.g x.e l).length by omega))).2.2
      omega
  · have := (hin k (List.mem_of_mem_drop hk)).2.1
    show k < x.g + _ + 4
    omega
  · show k ≤ x.g + _
    rcases List.mem_append.1 hk with q | q
    · have := h.bg k q; omega
    · rw [List.mem_singleton] at q; omega
theorem RS.Ok.hear_ok {n : Nat} {x : RS} (h : x.Ok n) {a : Nat} (ha : a ≤ x.g) : (x.hear a).Ok n :=
  ⟨by show max x.s a ≤ x.g; have := h.sg; omega, h.gh, h.hn, h.lo, h.hi, h.eh, h.up, h.wh, h.bg⟩
theorem getD_mem {l : List Nat} {i : Nat} (h : i < l.length) : l.getD i 0 ∈ l := by
  rw [List.getD_eq_getElem?_getD, List.getElem?_eq_getElem h]; exact List.getElem_mem h
theorem RS.Ok.w_ok {n : Nat} {x : RS} (h : x.Ok n) {w : List Nat} (hw : ∀ k ∈ w, k < x.h) : ({ x with w := w } : RS).Ok n := ⟨h.sg, h.gh, h.hn, h.lo, h.hi, h.eh, h.up, hw, h.bg⟩
theorem RS.Ok.b_ok {n : Nat} {x : RS} (h : x.Ok n) {b : List Nat} (hb : ∀ k ∈ b, k ≤ x.g) : ({ x with b := b } : RS).Ok n := ⟨h.sg, h.gh, h.hn, h.lo, h.hi, h.eh, h.up, h.wh, hb⟩
theorem RS.Ok.step_ok {n : Nat} {x : RS} (h : x.Ok n) (k : Nat) : (x.step n k).Ok n := by
  unfold RS.step
  have iw : x.w.length ≠ 0 → x.w.getD (k / 8 % x.w.length) 0 < x.h := fun q => h.wh _ (getD_mem (Nat.mod_lt _ (by omega)))
  have jb : x.b.length ≠ 0 → x.b.getD (k / 8 % x.b.length) 0 ≤ x.g := fun q => h.bg _ (getD_mem (Nat.mod_lt _ (by omega)))
  dsimp only
  split
  · refine h.w_ok fun k hk => ?_
    rcases List.mem_append.1 hk with q | q
    · exact h.wh k q
    · unfold RS.out at q
      obtain ⟨i, hi, rfl⟩ := List.mem_map.1 q
      rw [List.mem_range] at hi
      omega
  · split
    · exact h
    · rename_i q
      exact RS.Ok.take_ok (h.w_ok fun k hk => h.wh k (List.mem_of_mem_eraseIdx hk)) (iw q)
  · split
    · exact h
    · rename_i q; exact RS.Ok.take_ok h (iw q)
  · split
    · exact h
    · exact h.w_ok fun k hk => h.wh k (List.mem_of_mem_eraseIdx hk)
  · split
    · exact h
    · rename_i q
      exact RS.Ok.hear_ok (h.b_ok fun k hk => h.bg k (List.mem_of_mem_eraseIdx hk)) (jb q)
  · split
    · exact h
    · rename_i q; exact RS.Ok.hear_ok h (jb q)
  · split
    · exact h
    · exact h.b_ok fun k hk => h.bg k (List.mem_of_mem_eraseIdx hk)
  · split
    · rename_i q
      exact ⟨h.sg, by show x.g ≤ x.h + 1; have := h.gh; omega, q, h.lo, h.hi, fun k hk => by show k < x.h + 1; have := h.eh k hk; omega, h.up, fun k hk => by show k < x.h + 1; have := h.wh k hk; omega, h.bg⟩
    · exact h
theorem RS.fold_ok {n : Nat} : ∀ (l : List Nat) {x : RS}, x.Ok n → (l.foldl (RS.step n) x).Ok n
  | [], _, h => h
  | k :: l, _, h => RS.fold_ok l (h.step_ok k)
theorem RS.run_ok (n : Nat) (l : List Nat) : (RS.run n l).Ok n := RS.fold_ok l (RS.start_ok n)
end Go.Proofs.YtbbjlleaofgddaaGreat
/- Chapter 42: what the numbers of a run stand for. No program. -/
namespace Go.Proofs.YtbbjlleaofgddaaGreat
open Go.RowKit
def letR (N : Rows) (k : Nat) : List D := [.i 1, .i 2, .i k, .b false, .i (lg N k 0), .i (lg N k 1), .i (lg N k 2), .i (lg N k 3), .i (lg N k 4), .i (lg N k 5), .l (lr N k 6)]
def ackR (g : Nat) : List D := [.i 2, .i 1, .i g, .b true, .i 0, .i 0, .i 0, .i 0, .i 0, .i 0, .l []]
def lts (N : Rows) (l : List Nat) : Rows := l.map (letR N)
def RS.q (x : RS) : List Nat := (List.range (x.h - x.s)).map fun k => x.s + k
theorem lts_len (N : Rows) (l : List Nat) : (lts N l).length = l.length := List.length_map ..
theorem lg_lets {N : Rows} {l : List Nat} {i : Nat} (h : i < l.length) : lg (lts N l) i 2 = (l[i] : Nat) := by
  rw [lg_cI (by rw [lts_len]; exact h)]
  unfold lts
  rw [List.getElem_map]; rfl
theorem not_at {N : Rows} (h : areNB N = true) {k : Nat} (hk : k < N.length) : noticeL [.i (lg N k 0), .i (lg N k 1), .i (lg N k 2), .i (lg N k 3), .i (lg N k 4), .i (lg N k 5), .l (lr N k 6)] = true := by
  unfold areNB at h
  rw [Bool.and_eq_true, List.all_eq_true] at h
  have := h.2 _ (List.getElem_mem hk)
  unfold ntR0 at this
  simp only [← lg_cI hk, ← lr_cR hk] at this
  exact this
theorem not_len {N : Rows} (h : areNB N = true) : N.length ≤ 200 := by
  unfold areNB at h
  rw [Bool.and_eq_true, decide_eq_true_eq] at h
  exact h.1
theorem letR_car {N : Rows} (h : areNB N = true) {k : Nat} (hk : k < N.length) : carR (letR N k) = true := by
  have e : carR (letR N k) = ((!false && decide (wayP 1 2 ∧ 0 ≤ (k : Int) ∧ (k : Int) < 1000)) && noticeL [.i (lg N k 0), .i (lg N k 1), .i (lg N k 2), .i (lg N k 3), .i (lg N k 4), .i (lg N k 5), .l (lr N k 6)]) := rfl
  have := not_len h
  rw [e, not_at h hk, decide_eq_true ⟨by unfold wayP; omega, by omega, by omega⟩]; rfl
theorem lts_ours {N : Rows} (h : areNB N = true) {l : List Nat} (hl : ∀ k ∈ l, k < N.length) : oursB (lts N l) 1 2 = true := by
  unfold oursB lts
  rw [List.all_eq_true]
  intro x hx
  obtain ⟨k, hk, rfl⟩ := List.mem_map.1 hx
  rw [letR_car h (hl k hk)]; rfl
theorem lts_win {N : Rows} {e : List Nat} {g : Nat} (hu : e.Pairwise (· < ·)) (hlo : ∀ k ∈ e, g ≤ k) (hhi : ∀ k ∈ e, k < g + 4) : Win g (lts N e) := by
  refine ⟨fun i hi => ?_, fun i hi => ?_, fun i j hij hj => ?_⟩
  · rw [lts_len] at hi
    rw [lg_lets hi]
    have := hlo _ (List.getElem_mem hi); omega
  · rw [lts_len] at hi
    rw [lg_lets hi]
    have := hhi _ (List.getElem_mem hi); omega
  · rw [lts_len] at hj
    rw [lg_lets (show i < e.length by omega), lg_lets hj]
    have := List.pairwise_iff_getElem.1 hu i j (by omega) hj hij
    omega
theorem lts_low {N : Rows} {e : List Nat} (l : Nat) : lowS (lts N e) l = lowL e l := by
  obtain ⟨a, b, c⟩ := lowL_spec (l := l) e
  refine (low_uniq2 (by rw [lts_len]; exact a) (fun k hk => ?_) (fun h => ?_)).symm
  · rw [lg_lets (show k < e.length by omega)]
    have := b k (by omega) hk; omega
  · rw [lts_len] at h
    rw [lg_lets h]
    have := c h; omega
theorem lts_is {N : Rows} {e : List Nat} (hu : risS (lts N e) = true) (l : Nat) : isS (lts N e) l = decide (l ∈ e) := by
  rw [Bool.eq_iff_iff, isS_iff hu, decide_eq_true_eq]
  constructor
  · rintro ⟨k, hk, h⟩
    rw [lts_len] at hk
    rw [lg_lets hk] at h
    have : e[k] = l := by omega
    rw [← this]; exact List.getElem_mem hk
  · intro h
    obtain ⟨k, hk, rfl⟩ := List.getElem_of_mem h
    exact ⟨k, by rw [lts_len]; exact hk, lg_lets hk⟩
theorem lts_ins {N : Rows} {e : List Nat} {g : Nat} (hu : risS (lts N e) = true) (l : Nat) : insR g (lts N e) l (letR N l) = lts N (insL g e l) := by
  have hp : putB g (lts N e) l = decide (l ∉ e ∧ g ≤ l ∧ l < g + 4) := by
    unfold putB
    rw [lts_is hu, Bool.eq_iff_iff]
    simp only [Bool.and_eq_true, Bool.not_eq_true', decide_eq_true_eq, decide_eq_false_iff_not]
    constructor
    · rintro ⟨a, b, c⟩; exact ⟨a, by omega, by omega⟩
    · rintro ⟨a, b, c⟩; exact ⟨a, by omega, by omega⟩
  unfold insR insL
  rw [hp]
  by_cases h : l ∉ e ∧ g ≤ l ∧ l < g + 4
  · rw [decide_eq_true h, if_pos rfl, if_pos h, lts_low, putL_eq]
    unfold lts
    rw [List.map_append, List.map_append, List.map_take, List.map_drop]; rfl
  · rw [decide_eq_false h, if_neg (by decide), if_neg h]
theorem lts_run {N : Rows} {e : List Nat} {g : Nat} : runE (lts N e) g = runL e g := by
  obtain ⟨a, b, c⟩ := runL_spec e g
  refine (run_uniq (by rw [lts_len]; exact a) (fun k hk => ?_) (fun h => ?_)).symm
  · rw [lg_lets (show k < e.length by omega)]
    have := b k (by omega) hk; omega
  · rw [lts_len] at h
    rw [lg_lets h]
    have := c h; omega
theorem lts_drop (N : Rows) (l : List Nat) (k : Nat) : (lts N l).drop k = lts N (l.drop k) := by unfold lts; rw [List.map_drop]
theorem lts_take (N : Rows) (l : List Nat) (k : Nat) : (lts N l).take k = lts N (l.take k) := by unfold lts; rw [List.map_take]
theorem lts_app (N : Rows) (l m : List Nat) : lts N l ++ lts N m = lts N (l ++ m) := by unfold lts; rw [List.map_append]
theorem letR_agr {N : Rows} {e : List Nat} (l : Nat) : Agr (lts N e) l (letR N l) := by
  intro x hx h
  unfold lts at hx
  obtain ⟨k, hk, rfl⟩ := List.mem_map.1 hx
  have : (k : Int) = l := h
  have : k = l := by omega
  rw [this]
variable {n : Nat} {x : RS} {N : Rows}
theorem RS.Ok.q_len (_ : x.Ok n) : x.q.length = x.h - x.s := by unfold RS.q; rw [List.length_map, List.length_range]
theorem q_get (x : RS) {i : Nat} (h : i < x.h - x.s) : x.q[i]? = some (x.s + i) := by
  unfold RS.q
  rw [List.getElem?_map, List.getElem?_range h]; rfl
theorem RS.Ok.q_mem (h : x.Ok n) : ∀ k ∈ x.q, k < x.h := by
  intro k hk
  unfold RS.q at hk
  obtain ⟨i, hi, rfl⟩ := List.mem_map.1 hk
  rw [List.mem_range] at hi
  omega
theorem alk_empty : alkB [] = true := rfl
theorem RS.Ok.outB (h : x.Ok N.length) (hN : areNB N = true) : outB x.s (lts N x.q) = true := by
  have hn := not_len hN
  have h1 := h.sg
  have h2 := h.gh
  have h3 := h.hn
  refine out_iff.2 ⟨⟨by omega, by omega, by rw [lts_len, h.q_len]; omega⟩, alk_of (lts_ours hN (fun k hk => by have := h.q_mem k hk; omega)), fun i hi => ?_⟩
  rw [lts_len] at hi
  rw [lg_lets hi]
  have e := q_get x (i := i) (by rw [← h.q_len]; exact hi)
  rw [List.getElem?_eq_getElem hi, Option.some.injEq] at e
  rw [e]; omega
theorem RS.Ok.inB (h : x.Ok N.length) (hN : areNB N = true) : inB x.g (lts N x.e) = true := by
  have hn := not_len hN
  have h2 := h.gh
  have h3 := h.hn
  refine in_iff.2 ⟨⟨by omega, by omega⟩, alk_of (lts_ours hN (fun k hk => by have := h.eh k hk; omega)), ?_, fun i hi => ?_⟩
  · have := lts_win (N := N) (g := x.g + 1) h.up (fun k hk => h.lo k hk) (fun k hk => by have := h.hi k hk; omega)
    exact this
  · rw [lts_len] at hi
    rw [lg_lets hi]
    have := h.hi _ (List.getElem_mem hi); omega
theorem ackR_ack {g : Nat} (h : g ≤ 1000) : ackL (ackR g) = true := by
  have e : ackL (ackR g) = ((true && decide (wayP 2 1 ∧ 0 ≤ (g : Int) ∧ (g : Int) ≤ 1000)) && nsL [.i 0, .i 0, .i 0, .i 0, .i 0, .i 0, .l [], .i 0, .i 0, .i 0, .i 0, .i 0, .i 0, .l []]) := rfl
  rw [e, (ns14 _ _ _ _ _ _ _ _ _ _ _ _ _ _).2 rfl, decide_eq_true ⟨by unfold wayP; omega, by omega, by omega⟩]; rfl
theorem q_drop (x : RS) (k : Nat) : x.q.drop k = ({ x with s := x.s + k } : RS).q := by
  unfold RS.q
  rw [← List.map_drop]
  apply List.ext_getElem?
  intro i
  simp only [List.getElem?_map, List.getElem?_drop]
  by_cases h : k + i < x.h - x.s
  · rw [List.getElem?_range h, List.getElem?_range (by show i < x.h - (x.s + k); omega)]
    simp; omega
  · rw [List.getElem?_eq_none (by rw [List.length_range]; omega), List.getElem?_eq_none (by rw [List.length_range]; show x.h - (x.s + k) ≤ i; omega)]; rfl
theorem q_more (x : RS) (h : x.s ≤ x.h) : x.q ++ [x.h] = ({ x with h := x.h + 1 } : RS).q := by
  unfold RS.q
  rw [show ({ x with h := x.h + 1 } : RS).h - ({ x with h := x.h + 1 } : RS).s = (x.h - x.s) + 1 by show x.h + 1 - x.s = _; omega, List.range_succ, List.map_append]
  simp only [List.map_cons, List.map_nil]
  congr 2
  omega
theorem out_q (x : RS) : x.out = x.q.take 4 := by
  unfold RS.out RS.q
  rw [← List.map_take, List.take_range]
end Go.Proofs.YtbbjlleaofgddaaGreat
/- Chapter 42: cells of the letters of a run. No program. -/
namespace Go.Proofs.YtbbjlleaofgddaaGreat
open Go.RowKit
theorem lg_sub {r : Rows} {lo hi : Int} {i : Nat} (h : i < (subR r lo hi).length) (hlo : 0 ≤ lo) (j : Nat) : lg r (lo + (i : Int)) j = lg (subR r lo hi) i j := by
  obtain ⟨k, rfl⟩ := Int.eq_ofNat_of_zero_le hlo
  unfold subR at *
  rw [List.length_take] at h
  unfold lg cellAt
  rw [← Int.natCast_add, Int.toNat_natCast, Int.toNat_natCast, Int.toNat_natCast, List.getElem?_take_of_lt (by rw [Int.toNat_natCast] at h; omega), List.getElem?_drop]
theorem lr_sub {r : Rows} {lo hi : Int} {i : Nat} (h : i < (subR r lo hi).length) (hlo : 0 ≤ lo) (j : Nat) : lr r (lo + (i : Int)) j = lr (subR r lo hi) i j := by
  obtain ⟨k, rfl⟩ := Int.eq_ofNat_of_zero_le hlo
  unfold subR at *
  rw [List.length_take] at h
  unfold lr cellAt
  rw [← Int.natCast_add, Int.toNat_natCast, Int.toNat_natCast, Int.toNat_natCast, List.getElem?_take_of_lt (by rw [Int.toNat_natCast] at h; omega), List.getElem?_drop]
theorem lts_get {N : Rows} {l : List Nat} {p : Nat} (h : p < l.length) : (lts N l)[(p : Int).toNat]? = some (letR N (l.getD p 0)) := by
  unfold lts
  rw [Int.toNat_natCast, List.getElem?_map, List.getD_eq_getElem?_getD, List.getElem?_eq_getElem h]; rfl
theorem lts_lg {N : Rows} {l : List Nat} {p : Nat} (h : p < l.length) (j : Nat) : lg (lts N l) p j = cI (letR N (l.getD p 0)) j := by
  unfold lg cellAt; rw [lts_get h]; rfl
theorem lts_lb {N : Rows} {l : List Nat} {p : Nat} (h : p < l.length) (j : Nat) : lb (lts N l) p j = cB (letR N (l.getD p 0)) j := by
  unfold lb cellAt; rw [lts_get h]; rfl
theorem lts_lr {N : Rows} {l : List Nat} {p : Nat} (h : p < l.length) (j : Nat) : lr (lts N l) p j = cR (letR N (l.getD p 0)) j := by
  unfold lr cellAt; rw [lts_get h]; rfl
def acks (b : List Nat) : Rows := b.map ackR
theorem acks_len (b : List Nat) : (acks b).length = b.length := List.length_map ..
theorem acks_get {l : List Nat} {p : Nat} (h : p < l.length) : (acks l)[(p : Int).toNat]? = some (ackR (l.getD p 0)) := by
  unfold acks
  rw [Int.toNat_natCast, List.getElem?_map, List.getD_eq_getElem?_getD, List.getElem?_eq_getElem h]; rfl
theorem acks_lg {l : List Nat} {p : Nat} (h : p < l.length) (j : Nat) : lg (acks l) p j = cI (ackR (l.getD p 0)) j := by
  unfold lg cellAt; rw [acks_get h]; rfl
theorem acks_lb {l : List Nat} {p : Nat} (h : p < l.length) (j : Nat) : lb (acks l) p j = cB (ackR (l.getD p 0)) j := by
  unfold lb cellAt; rw [acks_get h]; rfl
theorem acks_lr {l : List Nat} {p : Nat} (h : p < l.length) (j : Nat) : lr (acks l) p j = cR (ackR (l.getD p 0)) j := by
  unfold lr cellAt; rw [acks_get h]; rfl
theorem cut_erase (r : Rows) {p : Nat} (h : p < r.length) : subR r 0 (p : Int) ++ subR r ((p : Int) + 1) ((r.length : Nat) : Int) = r.eraseIdx p := by
  rw [subR_end, subR_zero, show ((p : Int) + 1).toNat = p + 1 by omega, List.eraseIdx_eq_take_drop_succ]
theorem erase_map {α β : Type} (f : α → β) : ∀ (l : List α) (p : Nat), (l.map f).eraseIdx p = (l.eraseIdx p).map f
  | [], p => by simp
  | a :: l, 0 => by simp
  | a :: l, p + 1 => by simp [erase_map f l p]
theorem lts_erase (N : Rows) (l : List Nat) (p : Nat) : (lts N l).eraseIdx p = lts N (l.eraseIdx p) := by unfold lts; rw [erase_map]
theorem acks_erase (l : List Nat) (p : Nat) : (acks l).eraseIdx p = acks (l.eraseIdx p) := by unfold acks; rw [erase_map]
theorem acks_app (l : List Nat) (a : Nat) : acks l ++ [ackR a] = acks (l ++ [a]) := by unfold acks; rw [List.map_append]; rfl
theorem ntR_letR {N : Rows} (hN : ∀ row ∈ N, notWf row) {k : Nat} (hk : k < N.length) : ntR (letR N k) = N[k] := by
  have := (hN _ (List.getElem_mem hk)).1
  rw [this]
  simp only [← lg_cI hk, ← lr_cR hk]
  rfl
theorem told_eq {N : Rows} (hN : ∀ row ∈ N, notWf row) {e : List Nat} {g : Nat} (hg : g + runL e g ≤ N.length) : N.take g ++ ((lts N e).take (runL e g)).map ntR = N.take (g + runL e g) := by
  obtain ⟨h1, h2, _⟩ := runL_spec e g
  rw [List.take_add]
  congr 1
  unfold lts
  apply List.ext_getElem
  · simp only [List.length_map, List.length_take, List.length_drop]; omega
  · intro i h3 h4
    simp only [List.length_map, List.length_take] at h3
    simp only [List.getElem_map, List.getElem_take, List.getElem_drop]
    rw [h2 i (by omega) (by omega), ntR_letR hN (by omega)]
/-! A script -/
def scr (S : Rows) (i : Nat) : List Nat := (List.range i).map fun (k : Nat) => (lg S k 0).toNat
theorem scr_next (S : Rows) (i : Nat) : scr S (i + 1) = scr S i ++ [(lg S i 0).toNat] := by
  unfold scr; rw [List.range_succ, List.map_append]; rfl
theorem run_next (n : Nat) (S : Rows) (i : Nat) : RS.run n (scr S (i + 1)) = (RS.run n (scr S i)).step n (lg S i 0).toNat := by
  unfold RS.run; rw [scr_next, List.foldl_append]; rfl
theorem step_len {n : Nat} (x : RS) (k : Nat) : (x.step n k).w.length ≤ x.w.length + 4 ∧ (x.step n k).b.length ≤ x.b.length + 1 := by
  have e1 : ∀ (l : List Nat) i, (l.eraseIdx i).length ≤ l.length := fun l i => List.length_eraseIdx_le _ _
  unfold RS.step
  dsimp only
  split
  · refine ⟨?_, by show x.b.length ≤ _; omega⟩
    show (x.w ++ x.out).length ≤ _
    unfold RS.out
    rw [List.length_append, List.length_map, List.length_range]; omega
  · split
    · omega
    · refine ⟨Nat.le_trans (e1 _ _) (by omega), ?_⟩
      show (x.b ++ [_]).length ≤ _
      rw [List.length_append]; simp
  · split
    · omega
    · refine ⟨by show x.w.length ≤ _; omega, ?_⟩
      show (x.b ++ [_]).length ≤ _
      rw [List.length_append]; simp
  · split
    · omega
    · exact ⟨Nat.le_trans (e1 _ _) (by omega), by show x.b.length ≤ _; omega⟩
  · split
    · omega
    · exact ⟨by show x.w.length ≤ _; omega, Nat.le_trans (e1 _ _) (by omega)⟩
  · split
    · omega
    · exact ⟨by show x.w.length ≤ _; omega, by show x.b.length ≤ _; omega⟩
  · split
    · omega
    · exact ⟨by show x.w.length ≤ _; omega, Nat.le_trans (e1 _ _) (by omega)⟩
  · split
    · exact ⟨by show x.w.length ≤ _; omega, by show x.b.length ≤ _; omega⟩
    · omega
theorem run_len (n : Nat) (S : Rows) : ∀ i, (RS.run n (scr S i)).w.length ≤ 4 * i ∧ (RS.run n (scr S i)).b.length ≤ i
  | 0 => ⟨Nat.le_refl _, Nat.le_refl _⟩
  | i + 1 => by
    obtain ⟨a, b⟩ := run_len n S i
    obtain ⟨c, d⟩ := step_len (n := n) (RS.run n (scr S i)) (lg S i 0).toNat
    rw [run_next]
    omega
theorem tm8 (K : Nat) : (K : Int).tmod 8 = ((K % 8 : Nat) : Int) := rfl
theorem td8 (K : Nat) : (K : Int).tdiv 8 = ((K / 8 : Nat) : Int) := rfl
theorem tmN (K n : Nat) : (K : Int).tmod (n : Int) = ((K % n : Nat) : Int) := rfl
end Go.Proofs.YtbbjlleaofgddaaGreat
/- Chapter 42: what Run answers: plain parts. -/
namespace Go.Proofs.YtbbjlleaofgddaaGreat
open Go.RowKit
theorem lsAre_two {ρ : Env} {q : OpR} {l1 l2 : NL} {ds : List D} {s1 s2 : S0} {x1 x2 : X} (h1 : lrows q.2.1 l1.e l1.ks s1 = some x1) (e1 : x1.ev ρ = l1.rows ds) (h2 : lrows q.2.1 l2.e l2.ks s2 = some x2) (e2 : x2.ev ρ = l2.rows ds)
    (hne : ∀ id v v', s1 = .own id v → s2 = .own id v' → False) : LsAre ρ q [l1, l2] ds [s1, s2] := by
  refine ⟨rfl, fun k l s hk hs => ?_, fun i j id v v' hi hj => ?_⟩
  · match k with
    | 0 =>
      simp only [List.getElem?_cons_zero, Option.some.injEq] at hk hs
      subst hk hs
      exact ⟨x1, h1, e1⟩
    | 1 =>
      simp only [List.getElem?_cons_succ, List.getElem?_cons_zero, Option.some.injEq] at hk hs
      subst hk hs
      exact ⟨x2, h2, e2⟩
    | k + 2 => simp at hk
  · match i, j with
    | 0, 0 => rfl
    | 1, 1 => rfl
    | 0, 1 =>
      simp only [List.getElem?_cons_succ, List.getElem?_cons_zero, Option.some.injEq] at hi hj
      exact (hne _ _ _ hi hj).elim
    | 1, 0 =>
      simp only [List.getElem?_cons_succ, List.getElem?_cons_zero, Option.some.injEq] at hi hj
      exact (hne _ _ _ hj hi).elim
    | i + 2, _ => simp at hi
    | 0, j + 2 => simp at hj
    | 1, j + 2 => simp at hj
def runOB (N S : Rows) : Bool := areNB N && (decide (S.length ≤ 1000) && decide (∀ i, i < S.length → 0 ≤ lg S i 0))
def runO (ds : List D) : Bool := runOB (rAt ds 0) (rAt ds 1)
def runX (ds : List D) : RS := RS.run (rAt ds 0).length (scr (rAt ds 1) (rAt ds 1).length)
def runSq (ds : List D) : Int := if runO ds then (runX ds).s else 0
def runEr (ds : List D) : Int := if runO ds then 0 else 1
def runQ (ds : List D) : Rows := if runO ds then lts (rAt ds 0) (runX ds).q else []
def runT (ds : List D) : Rows := if runO ds then (rAt ds 0).take (runX ds).g else []
def nlRQ : NL := ⟨31, letK, 0, runQ⟩
def nlRT : NL := ⟨29, notK, 1, runT⟩
def runRes (_w0 : World) (ds : List D) (vs : List Value) (u : Value) : Prop := ∃ a b, vs = [a, b] ∧ u = .tuple #[.agg #[.int .i64 (runSq ds), a], b, .int .i64 (runEr ds)]
def scrOk (ds : List D) : Prop := ∀ i, i < (rAt ds 1).length → lg (rAt ds 1) i 0 ≤ 9223372036854775807
theorem run_den {ρ : Env} {σ : As} {s1 s2 : S0} {k e : E} {u : Value} (h : V.den ρ σ (.tup [.agg [.z (.int .i64 k), .z s1], .one (.z s2), .one (.z (.int .i64 e))]) u) :
    ∃ v1 v2, S0.den ρ σ s1 v1 ∧ S0.den ρ σ s2 v2 ∧ u = .tuple #[.agg #[.int .i64 (k.ev ρ), v1], v2, .int .i64 (e.ev ρ)] := by
  obtain ⟨vs, h, rfl⟩ := h
  obtain ⟨w1, vs, rfl, h1, h⟩ := DL.cons_inv h
  obtain ⟨w2, vs, rfl, h2, h⟩ := DL.cons_inv h
  obtain ⟨w3, vs, rfl, h3, h⟩ := DL.cons_inv h
  obtain rfl := DL.nil_inv h
  obtain rfl : w3 = .int .i64 (e.ev ρ) := h3
  obtain ⟨us, h1, rfl⟩ := h1
  obtain ⟨v1, us, rfl, g1, h1⟩ := DL.cons_inv h1
  obtain ⟨v2, us, rfl, g2, h1⟩ := DL.cons_inv h1
  obtain rfl := DL.nil_inv h1
  obtain rfl : v1 = .int .i64 (k.ev ρ) := g1
  exact ⟨v2, w2, g2, h2, rfl⟩
theorem run_end {ρ : Env} {w0 : World} {ds : List D} {s1 s2 : S0} {k e : E} {m : Mem} {n : Nat} {x1 x2 : X} (h1 : lrows m 31 letK s1 = some x1) (e1 : x1.ev ρ = runQ ds) (h2 : lrows m 29 notK s2 = some x2) (e2 : x2.ev ρ = runT ds)
    (hne : ∀ id v v', s1 = .own id v → s2 = .own id v' → False) (hk : k.ev ρ = runSq ds) (he : e.ev ρ = runEr ds) :
    ∃ ss, LsAre ρ ((.tup [.agg [.z (.int .i64 k), .z s1], .one (.z s2), .one (.z (.int .i64 e))]), m, n) [nlRQ, nlRT] ds ss ∧ ∀ (σ : As) u, ρ.w = w0 → V.den ρ σ (.tup [.agg [.z (.int .i64 k), .z s1], .one (.z s2), .one (.z (.int .i64 e))]) u → ∃ vs, DL (S0.den ρ σ) ss vs ∧ runRes w0 ds vs u := by
  refine ⟨[s1, s2], lsAre_two (l1 := nlRQ) (l2 := nlRT) h1 e1 h2 e2 hne, fun σ u _ hu => ?_⟩
  obtain ⟨v1, v2, g1, g2, rfl⟩ := run_den hu
  rw [hk, he]
  exact ⟨[v1, v2], ⟨g1, g2, trivial⟩, v1, v2, rfl, rfl⟩
theorem Q5b170 (W : World) (ds l : List D) : (envOf Q5 W ds).fb 170 l = noticeL l := by simp only [envOf, Q5, Q4, Q3, Q2, Q1, N4]
theorem Q5b202 (W : World) (ds l : List D) : (envOf Q5 W ds).fb 202 l = areNL l := by simp only [envOf, Q5, Q4, Q3]
theorem are_one (r : Rows) : areNL [.l r] = areNB r := rfl
structure Inv (N S : Rows) (i : Nat) (v : LV) : Prop where
  le : i ≤ S.length
  i0 : v.i 0 = i
  sq : v.i 15 = (RS.run N.length (scr S i)).s
  qu : v.d 4 = lts N (RS.run N.length (scr S i)).q
  got : v.i 6 = (RS.run N.length (scr S i)).g
  lo : 0 ≤ v.i 9
  early : subR (v.d 8) (v.i 9) (v.i 10) = lts N (RS.run N.length (scr S i)).e
  way : v.d 2 = lts N (RS.run N.length (scr S i)).w
  back : v.d 12 = acks (RS.run N.length (scr S i)).b
  told : v.d 14 = N.take (RS.run N.length (scr S i)).g
  left : v.d 5 = N.drop (RS.run N.length (scr S i)).h
theorem ge_dec (a b : Int) : cmpEv .geq a b = decide (a ≥ b) := rfl
theorem lss_dec (a b : Int) : cmpEv .lss a b = decide (a < b) := rfl
theorem step_kind {N R : Rows} {i : Nat} {v : LV} (h : Inv N R i v) (hi : i < R.length) {y : RS} (hy : (RS.run N.length (scr R i)).step N.length (lg R i 0).toNat = y) {u : LV} (i0 : u.i 0 = (i : Int) + 1) (sq : u.i 15 = y.s) (qu : u.d 4 = lts N y.q) (got : u.i 6 = y.g) (lo : 0 ≤ u.i 9) (early : subR (u.d 8) (u.i 9) (u.i 10) = lts N y.e)
    (way : u.d 2 = lts N y.w) (back : u.d 12 = acks y.b) (told : u.d 14 = N.take y.g) (left : u.d 5 = N.drop y.h) : Inv N R (i + 1) u := by
  have e : RS.run N.length (scr R (i + 1)) = y := by rw [run_next, hy]
  exact ⟨by omega, by rw [i0]; rfl, by rw [e]; exact sq, by rw [e]; exact qu, by rw [e]; exact got, lo, by rw [e]; exact early, by rw [e]; exact way, by rw [e]; exact back, by rw [e]; exact told, by rw [e]; exact left⟩
theorem sub_take4 (r : Rows) : subR r 0 (min 4 ((r.length : Nat) : Int)) = r.take 4 := by
  unfold subR
  rw [Int.toNat_zero, List.drop_zero, Nat.sub_zero]
  rcases Nat.lt_or_ge r.length 4 with h | h
  · rw [List.take_of_length_le (by omega), List.take_of_length_le (by omega)]
  · rw [show (min 4 ((r.length : Nat) : Int)).toNat = 4 by omega]
section
variable {n K : Nat} {x : RS}
theorem stepc0 (h : K % 8 = 0) : x.step n K = { x with w := x.w ++ x.out } := by unfold RS.step; rw [h]; rfl
theorem stepc1 (h : K % 8 = 1) (h0 : x.w.length ≠ 0) : x.step n K = ({ x with w := x.w.eraseIdx (K / 8 % x.w.length) } : RS).take (x.w.getD (K / 8 % x.w.length) 0) := by unfold RS.step; rw [h]; exact if_neg h0
theorem stepc2 (h : K % 8 = 2) (h0 : x.w.length ≠ 0) : x.step n K = x.take (x.w.getD (K / 8 % x.w.length) 0) := by unfold RS.step; rw [h]; exact if_neg h0
theorem stepc3 (h : K % 8 = 3) (h0 : x.w.length ≠ 0) : x.step n K = { x with w := x.w.eraseIdx (K / 8 % x.w.length) } := by unfold RS.step; rw [h]; exact if_neg h0
theorem stepc4 (h : K % 8 = 4) (h0 : x.b.length ≠ 0) : x.step n K = ({ x with b := x.b.eraseIdx (K / 8 % x.b.length) } : RS).hear (x.b.getD (K / 8 % x.b.length) 0) := by unfold RS.step; rw [h]; exact if_neg h0
theorem stepc5 (h : K % 8 = 5) (h0 : x.b.length ≠ 0) : x.step n K = x.hear (x.b.getD (K / 8 % x.b.length) 0) := by unfold RS.step; rw [h]; exact if_neg h0
theorem stepc6 (h : K % 8 = 6) (h0 : x.b.length ≠ 0) : x.step n K = { x with b := x.b.eraseIdx (K / 8 % x.b.length) } := by unfold RS.step; rw [h]; exact if_neg h0
theorem stepc7 (h : K % 8 = 7) (h0 : x.h < n) : x.step n K = { x with h := x.h + 1 } := by unfold RS.step; rw [h]; exact if_pos h0
theorem stepw (h : K % 8 = 1 ∨ K % 8 = 2 ∨ K % 8 = 3) (h0 : x.w.length = 0) : x.step n K = x := by unfold RS.step; rcases h with h | h | h <;> (rw [h]; exact if_pos h0)
theorem stepb (h : K % 8 = 4 ∨ K % 8 = 5 ∨ K % 8 = 6) (h0 : x.b.length = 0) : x.step n K = x := by unfold RS.step; rcases h with h | h | h <;> (rw [h]; exact if_pos h0)
theorem stepl (h : K % 8 = 7) (h0 : ¬ x.h < n) : x.step n K = x := by unfold RS.step; rw [h]; exact if_neg h0
end
end Go.Proofs.YtbbjlleaofgddaaGreat
/- Chapter 42: what a script brings about that gets all across. No program. -/
namespace Go.Proofs.YtbbjlleaofgddaaGreat
open Go.RowKit
def rows1 (l : List Nat) : Rows := l.map fun (k : Nat) => [D.i (k : Int)]
theorem rows1_len (l : List Nat) : (rows1 l).length = l.length := List.length_map ..
theorem rows1_app (l m : List Nat) : rows1 l ++ rows1 m = rows1 (l ++ m) := by unfold rows1; rw [List.map_append]
theorem lg_appL {a b : Rows} {i : Nat} (h : i < a.length) (j : Nat) : lg (a ++ b) i j = lg a i j := by
  unfold lg cellAt
  rw [Int.toNat_natCast, List.getElem?_append_left h]
theorem lg_appR {a : Rows} {l : List Nat} {i : Nat} (h : i < l.length) : lg (a ++ rows1 l) ((a.length + i : Nat) : Int) 0 = (l[i] : Nat) := by
  unfold lg cellAt rows1
  rw [Int.toNat_natCast, List.getElem?_append_right (by omega), show a.length + i - a.length = i by omega, List.getElem?_map, List.getElem?_eq_getElem h]; rfl
theorem scr_app (a : Rows) (l : List Nat) : scr (a ++ rows1 l) (a ++ rows1 l).length = scr a a.length ++ l := by
  unfold scr
  rw [List.length_append, rows1_len]
  apply List.ext_getElem
  · simp
  · intro i h1 h2
    simp only [List.length_map, List.length_range] at h1
    rw [List.getElem_map, List.getElem_range]
    by_cases h : i < a.length
    · rw [List.getElem_append_left (by simpa using h), List.getElem_map, List.getElem_range, lg_appL h]
    · rw [List.getElem_append_right (by simpa using h)]
      simp only [List.length_map, List.length_range]
      have e := lg_appR (a := a) (l := l) (i := i - a.length) (by omega)
      rw [show a.length + (i - a.length) = i by omega] at e
      rw [e]; simp
theorem app_le {a : Rows} {l : List Nat} {m : Int} (h : ∀ i, i < a.length → lg a i 0 ≤ m) (hl : ∀ k ∈ l, (k : Int) ≤ m) : ∀ i, i < (a ++ rows1 l).length → lg (a ++ rows1 l) i 0 ≤ m := by
  intro i hi
  rw [List.length_append, rows1_len] at hi
  by_cases c : i < a.length
  · rw [lg_appL c]; exact h i c
  · have e := lg_appR (a := a) (l := l) (i := i - a.length) (by omega)
    rw [show a.length + (i - a.length) = i by omega] at e
    rw [e]; exact hl _ (List.getElem_mem _)
/-! The steps -/
theorem sev {n : Nat} : ∀ (k : Nat) (x : RS), x.h ≤ n → let r := (List.replicate k 7).foldl (RS.step n) x; r.w = x.w ∧ r.b = x.b ∧ r.h = min n (x.h + k)
  | 0, x, h => ⟨rfl, rfl, by show x.h = _; omega⟩
  | k + 1, x, h => by
    rw [List.replicate_succ, List.foldl_cons]
    by_cases c : x.h < n
    · have e : x.step n 7 = { x with h := x.h + 1 } := stepc7 rfl c
      rw [e]
      obtain ⟨a1, a2, a3⟩ := sev k { x with h := x.h + 1 } c
      exact ⟨a1, a2, by rw [a3]; show min n (x.h + 1 + k) = _; omega⟩
    · have e : x.step n 7 = x := stepl rfl c
      rw [e]
      obtain ⟨a1, a2, a3⟩ := sev k x h
      exact ⟨a1, a2, by rw [a3]; omega⟩
theorem step3 {n : Nat} (x : RS) : (x.step n 3).w.length = x.w.length - 1 ∧ (x.step n 3).b = x.b ∧ (x.step n 3).h = x.h := by
  by_cases c : x.w.length = 0
  · rw [stepw (.inr (.inr rfl)) c]; exact ⟨by omega, rfl, rfl⟩
  · rw [stepc3 rfl c]
    refine ⟨?_, rfl, rfl⟩
    show (x.w.eraseIdx _).length = _
    rw [List.length_eraseIdx_of_lt (Nat.mod_lt _ (by omega))]
theorem step6 {n : Nat} (x : RS) : (x.step n 6).b.length = x.b.length - 1 ∧ (x.step n 6).w = x.w ∧ (x.step n 6).h = x.h := by
  by_cases c : x.b.length = 0
  · rw [stepb (.inr (.inr rfl)) c]; exact ⟨by omega, rfl, rfl⟩
  · rw [stepc6 rfl c]
    refine ⟨?_, rfl, rfl⟩
    show (x.b.eraseIdx _).length = _
    rw [List.length_eraseIdx_of_lt (Nat.mod_lt _ (by omega))]
def lose (k : Nat) : List Nat := (List.replicate k [3, 6]).flatten
theorem lost {n : Nat} : ∀ (k : Nat) (x : RS), let r := (lose k).foldl (RS.step n) x; r.w.length = x.w.length - k ∧ r.b.length = x.b.length - k ∧ r.h = x.h
  | 0, x => ⟨rfl, rfl, rfl⟩
  | k + 1, x => by
    have e : lose (k + 1) = 3 :: 6 :: lose k := rfl
    rw [e, List.foldl_cons, List.foldl_cons]
    obtain ⟨a1, a2, a3⟩ := lost (n := n) k ((x.step n 3).step n 6)
    obtain ⟨b1, b2, b3⟩ := step6 (n := n) (x.step n 3)
    obtain ⟨c1, c2, c3⟩ := step3 (n := n) x
    refine ⟨by rw [a1, b2, c1]; omega, by rw [a2, b1, c2]; omega, by rw [a3, b3, c3]⟩
theorem take_ge {n : Nat} {x : RS} (h : x.Ok n) {l : Nat} (hl : l ≤ x.g) : l + 1 ≤ (x.take l).g := by
  show l + 1 ≤ x.g + runL (insL x.g x.e l) x.g
  by_cases c : l = x.g
  · subst c
    have hn : x.g ∉ x.e := fun q => by have := h.lo _ q; omega
    have e : insL x.g x.e x.g = x.g :: x.e := by
      unfold insL
      rw [if_pos ⟨hn, by omega, by omega⟩]
      cases he : x.e with
      | nil => rfl
      | cons a e =>
        have := h.lo a (by rw [he]; exact List.mem_cons_self ..)
        rw [putL, if_neg (by omega)]
    rw [e, runL, if_pos rfl]; omega
  · omega
def from' (k m : Nat) : List Nat := (List.range m).map fun i => k + i
theorem from_succ (k m : Nat) : from' k (m + 1) = k :: from' (k + 1) m := by
  unfold from'
  rw [List.range_succ_eq_map, List.map_cons, List.map_map]
  congr 1
  apply List.map_congr_left
  intro a _
  show k + (a + 1) = k + 1 + a
  omega
theorem ones {n : Nat} : ∀ (c j k : Nat) (x : RS), x.Ok n → j ≤ c → x.w = from' k j → k ≤ x.g → let r := (List.replicate c 1).foldl (RS.step n) x; r.Ok n ∧ r.w = [] ∧ r.b.length ≤ x.b.length + j ∧ r.s = x.s ∧ r.h = x.h ∧ ∀ v, (v ≤ k + j ∧ 0 < j ∨ ∃ a ∈ x.b, v ≤ a) → ∃ a ∈ r.b, v ≤ a
  | 0, j, k, x, ho, hj, hw, hk => by
    obtain rfl : j = 0 := by omega
    exact ⟨ho, hw, by show x.b.length ≤ _; omega, rfl, rfl, fun v h => by rcases h with h | h; · omega
                                                                          · exact h⟩
  | c + 1, 0, k, x, ho, hj, hw, hk => by
    rw [List.replicate_succ, List.foldl_cons]
    have e : x.step n 1 = x := stepw (.inl rfl) (by rw [hw]; rfl)
    rw [e]
    exact ones c 0 k x ho (by omega) hw hk
  | c + 1, j + 1, k, x, ho, hj, hw, hk => by
    rw [List.replicate_succ, List.foldl_cons]
    rw [from_succ] at hw
    have hz : x.w.length ≠ 0 := by rw [hw]; simp
    have e : x.step n 1 = ({ x with w := from' (k + 1) j } : RS).take k := by
      rw [stepc1 rfl hz, show 1 / 8 % x.w.length = 0 by rw [show 1 / 8 = 0 from rfl, Nat.zero_mod], hw]; rfl
    have hO := ho.step_ok 1
    rw [e] at hO
    rw [e]
    have hO' : ({ x with w := from' (k + 1) j } : RS).Ok n := ho.w_ok (fun a ha => ho.wh a (by rw [hw]; exact List.mem_cons_of_mem _ ha))
    have hg := take_ge hO' hk
    obtain ⟨a0, a1, a2, a3, a4, a5⟩ := ones c j (k + 1) _ hO (by omega) rfl hg
    have hb : (({ x with w := from' (k + 1) j } : RS).take k).b = x.b ++ [(({ x with w := from' (k + 1) j } : RS).take k).g] := rfl
    refine ⟨a0, a1, ?_, a3, a4, fun v hv => a5 v ?_⟩
    · rw [hb, List.length_append] at a2
      simp only [List.length_cons, List.length_nil] at a2
      omega
    · rw [hb]
      rcases hv with ⟨h1, _⟩ | ⟨a, h1, h2⟩
      · by_cases z : 0 < j
        · exact .inl ⟨by omega, z⟩
        · exact .inr ⟨_, List.mem_append_right _ (List.mem_singleton.2 rfl), by omega⟩
      · exact .inr ⟨a, List.mem_append_left _ h1, h2⟩
theorem fours {n : Nat} : ∀ (c : Nat) (x : RS), x.b.length ≤ c → let r := (List.replicate c 4).foldl (RS.step n) x; r.w = x.w ∧ r.b = [] ∧ r.h = x.h ∧ x.s ≤ r.s ∧ ∀ a ∈ x.b, a ≤ r.s
  | 0, x, hb => by
    have e : x.b = [] := List.length_eq_zero_iff.1 (by omega)
    exact ⟨rfl, e, rfl, Nat.le_refl _, fun a ha => by rw [e] at ha; cases ha⟩
  | c + 1, x, hb => by
    rw [List.replicate_succ, List.foldl_cons]
    cases hx : x.b with
    | nil =>
      have e : x.step n 4 = x := stepb (.inl rfl) (by rw [hx]; rfl)
      rw [e]
      obtain ⟨a1, a2, a3, a4, a5⟩ := fours (n := n) c x (by rw [hx]; exact Nat.zero_le _)
      exact ⟨a1, a2, a3, a4, fun a ha => by cases ha⟩
    | cons b t =>
      have hz : x.b.length ≠ 0 := by rw [hx]; simp
      have e : x.step n 4 = ({ x with b := t } : RS).hear b := by
        rw [stepc4 rfl hz, show 4 / 8 % x.b.length = 0 by rw [show 4 / 8 = 0 from rfl, Nat.zero_mod], hx]; rfl
      rw [e]
      obtain ⟨a1, a2, a3, a4, a5⟩ := fours (n := n) c (({ x with b := t } : RS).hear b) (by rw [hx] at hb; simp at hb; exact hb)
      have a4 : max x.s b ≤ _ := a4
      refine ⟨a1, a2, a3, by omega, fun a ha => ?_⟩
      rcases List.mem_cons.1 ha with rfl | h
      · omega
      · exact a5 a h
def round1 : List Nat := 0 :: (List.replicate 4 1 ++ List.replicate 4 4)
theorem round_s {n : Nat} {x : RS} (ho : x.Ok n) (hh : x.h = n) (hw : x.w = []) (hb : x.b = []) : let r := round1.foldl (RS.step n) x; r.w = [] ∧ r.b = [] ∧ r.h = n ∧ min (x.s + 4) n ≤ r.s := by
  unfold round1
  rw [List.foldl_cons, List.foldl_append]
  have e : x.step n 0 = { x with w := from' x.s (min 4 (n - x.s)) } := by
    rw [stepc0 rfl, hw, List.nil_append]
    unfold RS.out from'
    rw [hh]
  have hO := ho.step_ok 0
  rw [e] at hO ⊢
  obtain ⟨a0, a1, a2, a3, a4, a5⟩ := ones 4 (min 4 (n - x.s)) x.s _ hO (by omega) rfl ho.sg
  generalize List.foldl (RS.step n) ({ x with w := from' x.s (min 4 (n - x.s)) } : RS) (List.replicate 4 1) = y at *
  have a2 : y.b.length ≤ x.b.length + _ := a2
  have a3 : y.s = x.s := a3
  have a4 : y.h = x.h := a4
  rw [hb, List.length_nil] at a2
  obtain ⟨b1, b2, b3, b4, b5⟩ := fours (n := n) 4 y (by omega)
  refine ⟨by rw [b1, a1], b2, by rw [b3, a4, hh], ?_⟩
  have hs := ho.sg
  have hg := ho.gh
  by_cases c : x.s < n
  · obtain ⟨a, h1, h2⟩ := a5 (min (x.s + 4) n) (.inl ⟨by omega, by omega⟩)
    have := b5 a h1
    omega
  · omega
def rounds (k : Nat) : List Nat := (List.replicate k round1).flatten
theorem rounds_s {n : Nat} : ∀ (k : Nat) {x : RS}, x.Ok n → x.h = n → x.w = [] → x.b = [] → let r := (rounds k).foldl (RS.step n) x; min (x.s + 4 * k) n ≤ r.s
  | 0, x, ho, hh, hw, hb => by show min (x.s + 4 * 0) n ≤ x.s; omega
  | k + 1, x, ho, hh, hw, hb => by
    have e : rounds (k + 1) = round1 ++ rounds k := rfl
    rw [e, List.foldl_append]
    obtain ⟨a1, a2, a3, a4⟩ := round_s ho hh hw hb
    have b := rounds_s k (RS.fold_ok round1 ho) a3 a1 a2
    generalize List.foldl (RS.step n) x round1 = y at *
    have b : min (y.s + 4 * k) n ≤ _ := b
    omega
def prog (n m : Nat) : List Nat := List.replicate n 7 ++ (lose (4 * m) ++ rounds (n / 4 + 1))
theorem prog_all {n : Nat} {R : Rows} : RS.run n (scr R R.length ++ prog n R.length) = RS.run n (scr R R.length ++ prog n R.length) ∧ (RS.run n (scr R R.length ++ prog n R.length)).s = n := by
  refine ⟨rfl, ?_⟩
  have hO := RS.run_ok n (scr R R.length ++ prog n R.length)
  have key : n ≤ (RS.run n (scr R R.length ++ prog n R.length)).s := by
    obtain ⟨l1, l2⟩ := run_len n R R.length
    have h0 := RS.run_ok n (scr R R.length)
    have e : RS.run n (scr R R.length ++ prog n R.length) = (rounds (n / 4 + 1)).foldl (RS.step n) ((lose (4 * R.length)).foldl (RS.step n) ((List.replicate n 7).foldl (RS.step n) (RS.run n (scr R R.length)))) := by
      unfold RS.run prog
      rw [List.foldl_append, List.foldl_append, List.foldl_append]
    rw [e]
    generalize RS.run n (scr R R.length) = x at *
    obtain ⟨a1, a2, a3⟩ := sev (n := n) n x h0.hn
    have h1 := RS.fold_ok (List.replicate n 7) h0
    generalize List.foldl (RS.step n) x (List.replicate n 7) = y at *
    obtain ⟨b1, b2, b3⟩ := lost (n := n) (4 * R.length) y
    have h2 := RS.fold_ok (lose (4 * R.length)) h1
    generalize List.foldl (RS.step n) y (lose (4 * R.length)) = z at *
    rw [a1] at b1
    rw [a2] at b2
    have c := rounds_s (n / 4 + 1) h2 (by rw [b3, a3]; omega) (List.length_eq_zero_iff.1 (by omega)) (List.length_eq_zero_iff.1 (by omega))
    have c : min (z.s + 4 * (n / 4 + 1)) n ≤ _ := c
    omega
  have h1 := hO.sg
  have h2 := hO.gh
  have h3 := hO.hn
  omega
theorem prog_len (n m : Nat) : (prog n m).length = n + 8 * m + 9 * (n / 4 + 1) := by
  unfold prog
  have e1 : ∀ k, (lose k).length = 2 * k := fun k => by
    unfold lose; rw [List.length_flatten]; simp; omega
  have e2 : ∀ k, (rounds k).length = 9 * k := fun k => by
    unfold rounds; rw [List.length_flatten]; simp [round1]; omega
  rw [List.length_append, List.length_append, List.length_replicate, e1, e2]; omega
theorem prog_le (n m : Nat) : ∀ k ∈ prog n m, k ≤ 7 := by
  intro k hk
  unfold prog lose rounds at hk
  rw [List.mem_append, List.mem_append] at hk
  rcases hk with h | h | h
  · rw [List.mem_replicate] at h; omega
  · rw [List.mem_flatten] at h
    obtain ⟨l, h1, h2⟩ := h
    rw [List.mem_replicate] at h1
    rw [h1.2] at h2
    simp at h2; omega
  · rw [List.mem_flatten] at h
    obtain ⟨l, h1, h2⟩ := h
    rw [List.mem_replicate] at h1
    rw [h1.2] at h2
    unfold round1 at h2
    simp at h2; omega
end Go.Proofs.YtbbjlleaofgddaaGreat
/- Chapter 42: letters by their numbers, any rows. No program. -/
namespace Go.Proofs.YtbbjlleaofgddaaGreat
open Go.RowKit
def gts (L : Nat → List D) (l : List Nat) : Rows := l.map L
section
variable {L : Nat → List D} (hL : ∀ k, cI (L k) 2 = (k : Int))
theorem gts_len (L : Nat → List D) (l : List Nat) : (gts L l).length = l.length := List.length_map ..
theorem gts_get {l : List Nat} {p : Nat} (h : p < l.length) : (gts L l)[p]'(by rw [gts_len]; exact h) = L l[p] := by unfold gts; rw [List.getElem_map]
include hL
theorem g_lg {l : List Nat} {i : Nat} (h : i < l.length) : lg (gts L l) i 2 = (l[i] : Nat) := by
  rw [lg_cI (by rw [gts_len]; exact h), gts_get h, hL]
theorem g_win {e : List Nat} {g : Nat} (hu : e.Pairwise (· < ·)) (hlo : ∀ k ∈ e, g ≤ k) (hhi : ∀ k ∈ e, k < g + 4) : Win g (gts L e) := by
  refine ⟨fun i hi => ?_, fun i hi => ?_, fun i j hij hj => ?_⟩
  · rw [gts_len] at hi
    rw [g_lg hL hi]
    have := hlo _ (List.getElem_mem hi); omega
  · rw [gts_len] at hi
    rw [g_lg hL hi]
    have := hhi _ (List.getElem_mem hi); omega
  · rw [gts_len] at hj
    rw [g_lg hL (show i < e.length by omega), g_lg hL hj]
    have := List.pairwise_iff_getElem.1 hu i j (by omega) hj hij
    omega
theorem g_low {e : List Nat} (l : Nat) : lowS (gts L e) l = lowL e l := by
  obtain ⟨a, b, c⟩ := lowL_spec (l := l) e
  refine (low_uniq2 (by rw [gts_len]; exact a) (fun k hk => ?_) (fun h => ?_)).symm
  · rw [g_lg hL (show k < e.length by omega)]
    have := b k (by omega) hk; omega
  · rw [gts_len] at h
    rw [g_lg hL h]
    have := c h; omega
theorem g_is {e : List Nat} (hu : risS (gts L e) = true) (l : Nat) : isS (gts L e) l = decide (l ∈ e) := by
  rw [Bool.eq_iff_iff, isS_iff hu, decide_eq_true_eq]
  constructor
  · rintro ⟨k, hk, h⟩
    rw [gts_len] at hk
    rw [g_lg hL hk] at h
    have : e[k] = l := by omega
    rw [← this]; exact List.getElem_mem hk
  · intro h
    obtain ⟨k, hk, rfl⟩ := List.getElem_of_mem h
    exact ⟨k, by rw [gts_len]; exact hk, g_lg hL hk⟩
theorem g_put {e : List Nat} {g : Nat} (hu : risS (gts L e) = true) (l : Nat) : putB g (gts L e) l = decide (l ∉ e ∧ g ≤ l ∧ l < g + 4) := by
  unfold putB
  rw [g_is hL hu, Bool.eq_iff_iff]
  simp only [Bool.and_eq_true, Bool.not_eq_true', decide_eq_true_eq, decide_eq_false_iff_not]
  constructor
  · rintro ⟨a, b, c⟩; exact ⟨a, by omega, by omega⟩
  · rintro ⟨a, b, c⟩; exact ⟨a, by omega, by omega⟩
theorem g_ins {e : List Nat} {g : Nat} (hu : risS (gts L e) = true) (l : Nat) : insR g (gts L e) l (L l) = gts L (insL g e l) := by
  unfold insR insL
  rw [g_put hL hu]
  by_cases h : l ∉ e ∧ g ≤ l ∧ l < g + 4
  · rw [decide_eq_true h, if_pos rfl, if_pos h, g_low hL, putL_eq]
    unfold gts
    rw [List.map_append, List.map_append, List.map_take, List.map_drop]; rfl
  · rw [decide_eq_false h, if_neg (by decide), if_neg h]
theorem g_run {e : List Nat} {g : Nat} : runE (gts L e) g = runL e g := by
  obtain ⟨a, b, c⟩ := runL_spec e g
  refine (run_uniq (by rw [gts_len]; exact a) (fun k hk => ?_) (fun h => ?_)).symm
  · rw [g_lg hL (show k < e.length by omega)]
    have := b k (by omega) hk; omega
  · rw [gts_len] at h
    rw [g_lg hL h]
    have := c h; omega
theorem g_agr {e : List Nat} (l : Nat) : Agr (gts L e) l (L l) := by
  intro x hx h
  unfold gts at hx
  obtain ⟨k, hk, rfl⟩ := List.mem_map.1 hx
  rw [hL] at h
  have : k = l := by omega
  rw [this]
omit hL
theorem gts_drop (l : List Nat) (k : Nat) : (gts L l).drop k = gts L (l.drop k) := by unfold gts; rw [List.map_drop]
theorem gts_take (l : List Nat) (k : Nat) : (gts L l).take k = gts L (l.take k) := by unfold gts; rw [List.map_take]
theorem g_ours {l : List Nat} {f t : Int} (h : ∀ k ∈ l, (carR (L k) && decide (cI (L k) 0 = f ∧ cI (L k) 1 = t)) = true) : oursB (gts L l) f t = true := by
  unfold oursB gts
  rw [List.all_eq_true]
  intro x hx
  obtain ⟨k, hk, rfl⟩ := List.mem_map.1 hx
  exact h k hk
end
/-! What an inbox takes, by numbers -/
theorem take_cov {x : RS} {l k : Nat} (hl : l < x.g + 4) (h : k < x.g ∨ k ∈ x.e ∨ k = l) : k < (x.take l).g ∨ k ∈ (x.take l).e := by
  obtain ⟨r1, r2, r3⟩ := runL_spec (insL x.g x.e l) x.g
  have hin : k < x.g ∨ k ∈ insL x.g x.e l := by
    unfold insL
    split
    · rename_i c
      rcases h with h | h | rfl
      · exact .inl h
      · exact .inr (mem_putL.2 (.inr h))
      · exact .inr (mem_putL.2 (.inl rfl))
    · rename_i c
      rcases h with h | h | rfl
      · exact .inl h
      · exact .inr h
      · by_cases a : k ∈ x.e
        · exact .inr a
        · exact .inl (by by_cases b : k < x.g; · exact b
                         · exact absurd ⟨a, by omega, by omega⟩ c)
  show k < x.g + runL (insL x.g x.e l) x.g ∨ k ∈ (insL x.g x.e l).drop (runL (insL x.g x.e l) x.g)
  rcases hin with h | h
  · exact .inl (by omega)
  · obtain ⟨i, hi, rfl⟩ := List.getElem_of_mem h
    by_cases c : i < runL (insL x.g x.e l) x.g
    · have := r2 i hi c
      exact .inl (by omega)
    · exact .inr (by rw [List.mem_iff_getElem]; exact ⟨i - runL (insL x.g x.e l) x.g, by rw [List.length_drop]; omega, by rw [List.getElem_drop]; congr 1; omega⟩)
structure Cov (q m : Nat) (l : List Nat) (x : RS) : Prop where
  ok : x.Ok (q + m)
  s : x.s = q
  h : x.h = q + m
  cov : ∀ k ∈ l, k < x.g ∨ k ∈ x.e
theorem Cov.start (q m : Nat) : Cov q m [] ⟨q, q, q + m, [], [], []⟩ :=
  ⟨⟨Nat.le_refl _, Nat.le_add_right .., Nat.le_refl _, fun k h => (by cases h), fun k h => (by cases h), fun k h => (by cases h), List.Pairwise.nil, fun k h => (by cases h), fun k h => (by cases h)⟩, rfl, rfl, fun k h => (by cases h)⟩
theorem Cov.take {q m : Nat} {l : List Nat} {x : RS} (h : Cov q m l x) (hm : m ≤ 4) {a : Nat} (ha : a < q + m) : Cov q m (l ++ [a]) (x.take a) := by
  have hg := h.ok.sg
  have hs := h.s
  refine ⟨h.ok.take_ok (by rw [h.h]; exact ha), h.s, h.h, fun k hk => take_cov (by omega) ?_⟩
  rcases List.mem_append.1 hk with c | c
  · rcases h.cov k c with d | d
    · exact .inl d
    · exact .inr (.inl d)
  · exact .inr (.inr (List.mem_singleton.1 c))
theorem Cov.done {q m : Nat} {l : List Nat} {x : RS} (h : Cov q m l x) (hl : ∀ i, i < m → q + i ∈ l) : x.g = q + m ∧ x.e = [] := by
  have h1 := h.ok.sg
  have h2 := h.ok.gh
  have h3 := h.s
  have h4 := h.h
  have hg : x.g = q + m := by
    by_cases c : x.g < q + m
    · rcases h.cov x.g (by have := hl (x.g - q) (by omega); rw [show q + (x.g - q) = x.g by omega] at this; exact this) with d | d
      · omega
      · have := h.ok.lo _ d; omega
    · omega
  refine ⟨hg, ?_⟩
  cases he : x.e with
  | nil => rfl
  | cons a e =>
    have a1 := h.ok.lo a (by rw [he]; exact List.mem_cons_self ..)
    have a2 := h.ok.eh a (by rw [he]; exact List.mem_cons_self ..)
    omega
end Go.Proofs.YtbbjlleaofgddaaGreat
/- Chapter 42: the letters that an outbox sends. No program. -/
namespace Go.Proofs.YtbbjlleaofgddaaGreat
open Go.RowKit
def letX (X : Rows) (Q k : Nat) : List D := [.i (lg X (k - Q : Nat) 0), .i (lg X (k - Q : Nat) 1), .i k, .b (lb X (k - Q : Nat) 3), .i (lg X (k - Q : Nat) 4), .i (lg X (k - Q : Nat) 5), .i (lg X (k - Q : Nat) 6), .i (lg X (k - Q : Nat) 7), .i (lg X (k - Q : Nat) 8), .i (lg X (k - Q : Nat) 9), .l (lr X (k - Q : Nat) 10)]
theorem letX_two (X : Rows) (Q k : Nat) : cI (letX X Q k) 2 = (k : Int) := rfl
theorem letX_ntR {X : Rows} {Q i : Nat} (h : i < X.length) : ntR (letX X Q (Q + i)) = ntR X[i] := by
  rw [ntR_at h]
  unfold letX
  rw [show Q + i - Q = i by omega]; rfl
theorem letX_car {X : Rows} {Q i : Nat} {f t : Int} (ho : oursB X f t = true) (h : i < X.length) (hq : lg X i 2 = Q + i) : (carR (letX X Q (Q + i)) && decide (cI (letX X Q (Q + i)) 0 = f ∧ cI (letX X Q (Q + i)) 1 = t)) = true := by
  unfold oursB at ho
  rw [List.all_eq_true] at ho
  have hx := ho _ (List.getElem_mem h)
  have hn := letX_ntR (X := X) (Q := Q) h
  have e : carR (letX X Q (Q + i)) = carR X[i] := by
    unfold carR
    rw [hn, ← lg_cI h, ← lg_cI h, ← lg_cI h, ← lb_cB h, hq]
    unfold letX
    rw [show Q + i - Q = i by omega]
    show carB (lg X i 0) (lg X i 1) ((Q + i : Nat) : Int) (lb X i 3) _ = _
    rw [Int.natCast_add]
  rw [e]
  have e0 : cI (letX X Q (Q + i)) 0 = cI X[i] 0 := by
    rw [← lg_cI h]; unfold letX; rw [show Q + i - Q = i by omega]; rfl
  have e1 : cI (letX X Q (Q + i)) 1 = cI X[i] 1 := by
    rw [← lg_cI h]; unfold letX; rw [show Q + i - Q = i by omega]; rfl
  rw [e0, e1]
  exact hx
def deliv (X : Rows) (k : Nat) : Rows := (X.take k).map ntR
theorem deliv_more {X : Rows} {Q : Nat} {e : List Nat} {g : Nat} (hg : Q ≤ g) (hm : g + runL e g ≤ Q + X.length) : deliv X (g - Q) ++ ((gts (letX X Q) e).take (runL e g)).map ntR = deliv X (g + runL e g - Q) := by
  obtain ⟨h1, h2, _⟩ := runL_spec e g
  unfold deliv
  rw [show g + runL e g - Q = (g - Q) + runL e g by omega, List.take_add, List.map_append]
  congr 1
  unfold gts
  apply List.ext_getElem
  · simp only [List.length_map, List.length_take, List.length_drop]; omega
  · intro i h3 h4
    simp only [List.length_map, List.length_take] at h3
    simp only [List.getElem_map, List.getElem_take, List.getElem_drop]
    rw [h2 i (by omega) (by omega), show g + i = Q + (g - Q + i) by omega, letX_ntR (by omega)]
theorem take4_len (r : Rows) : ((r.take 4).length : Int) = min 4 (r.length : Nat) := by rw [List.length_take]
theorem lg_tk {r : Rows} {k i : Nat} (h : i < k) (j : Nat) : lg (r.take k) i j = lg r i j := by
  unfold lg cellAt
  rw [Int.toNat_natCast, List.getElem?_take_of_lt h]
theorem ours_tk {r : Rows} {f t : Int} (h : oursB r f t = true) (k : Nat) : oursB (r.take k) f t = true := by
  unfold oursB at *
  rw [List.all_eq_true] at *
  exact fun x hx => h x (List.mem_of_mem_take hx)
theorem alk_ours {r : Rows} (h : alkB r = true) (hr : 0 < r.length) : oursB r (lg r 0 0) (lg r 0 1) = true := by
  unfold alkB at h
  rw [Bool.or_eq_true, decide_eq_true_eq] at h
  rcases h with h | h
  · omega
  · exact h
end Go.Proofs.YtbbjlleaofgddaaGreat
/- Chapter 42: the law Overtaken. -/
namespace Go.Proofs.YtbbjlleaofgddaaGreat
open Go.RowKit
structure InvT (Y R : Rows) (Q : Nat) (f t : Int) (l : List Nat) (x : RS) (i : Nat) (v : LV) : Prop where
  le : i ≤ R.length
  cov : Cov Q Y.length l x
  all : ∀ k : Nat, k < i → Q + (lg R k 0).toNat % Y.length ∈ l
  i0 : v.i 2 = i
  got : v.i 7 = x.g
  lo : 0 ≤ v.i 10
  early : subR (v.d 9) (v.i 10) (v.i 11) = gts (letX Y Q) x.e
  told : v.d 1 = deliv Y (x.g - Q)
  last : 0 < i → v.i 3 = t ∧ v.i 4 = f ∧ v.i 5 = x.g ∧ v.b 6 = true
theorem stepT {Y R : Rows} {Q : Nat} {f t : Int} {l : List Nat} {x : RS} {i : Nat} {v u : LV} (h : InvT Y R Q f t l x i v) (hi : i < R.length) (hm : Y.length ≤ 4) {a : Nat} (ha : a = (lg R i 0).toNat % Y.length) (hY : 0 < Y.length) (i0 : u.i 2 = (i : Int) + 1) (got : u.i 7 = (x.take (Q + a)).g) (lo : 0 ≤ u.i 10)
    (early : subR (u.d 9) (u.i 10) (u.i 11) = gts (letX Y Q) (x.take (Q + a)).e) (told : u.d 1 = deliv Y ((x.take (Q + a)).g - Q)) (l3 : u.i 3 = t) (l4 : u.i 4 = f) (l5 : u.i 5 = (x.take (Q + a)).g) (l6 : u.b 6 = true) : ∃ j l' x', InvT Y R Q f t l' x' j u ∧ j = i + 1 := by
  have hb : a < Y.length := by rw [ha]; exact Nat.mod_lt _ hY
  refine ⟨i + 1, l ++ [Q + a], x.take (Q + a), ⟨by omega, h.cov.take hm (by omega), fun k hk => ?_, by rw [i0]; rfl, got, lo, early, told, fun _ => ⟨l3, l4, l5, l6⟩⟩, rfl⟩
  by_cases e : k = i
  · subst e; rw [← ha]; exact List.mem_append_right _ (List.mem_singleton.2 rfl)
  · exact List.mem_append_left _ (h.all k (by omega))
def ordOk (ds : List D) : Prop := ∀ i, i < (rAt ds 2).length → 0 ≤ lg (rAt ds 2) i 0 ∧ lg (rAt ds 2) i 0 ≤ 255
theorem wrap_u8 (n : Nat) (h : n < 8) : IntKind.u8.wrap (n : Int) = n := by
  have : ∀ n : Nat, n < 8 → IntKind.u8.wrap (n : Int) = n := by decide
  exact this n h
set_option maxHeartbeats 4000000 in
theorem gOverLaw : GivesIf Tryz.prog 7 [boxS, .one (.sl [.int .u8])] ordOk (fun _ => .bool true) := by
  refine fn_gives Q5 (by kernel_rfl) (fun ρ h => ctX3_ok (Sees.of h 230)) (by kernel_rfl) trLawOver_is trLawOver_low (by decide) (fun W vals ds hr hok => ?_)
  have hwf := rep_args hr
  have hlQ := (rAt_wf (j := 1) hwf rfl).1
  unfold ordOk at hok
  clear hr hwf
  simp only [trLawOver, TT.sat_ret, TT.sat_ite, TT.sat_ob, TT.sat_next, TT.sat_stuck, put_i, put_b, put_d, put_fi, put_fb, put_fd, Ob.ok, B.ev, E.ev, X.ev, AL.ev, cmp_t, cmp_f, arEv, V.plain, V2.plain, S.plain, S0.plain, V.val, V2.val, S.val, S0.val, bV, iV, List.all_cons, List.all_nil, Bool.and_true, Bool.and_self, envOf_i, envOf_b, envOf_d, List.map_cons, List.map_nil, true_and, Bool.not_eq_true', Bool.not_eq_false', Bool.not_not, Bool.and_eq_true, and_f, cell_lg, cell_lb, cell_lr, cmpP, val_i, val_b, val_d, aget, Nat.reduceBEq, beq_self_eq_true, Bool.false_eq_true, if_true, if_false, Nat.reduceLT, Nat.reduceSub, Nat.sub_self, Nat.lt_irrefl, Q5b210, Q5b223, X.ev, out_two]
  generalize e0 : iAt ds 0 = q at *
  generalize e1 : rAt ds 1 = r at *
  generalize e2 : rAt ds 2 = O at *
  refine ⟨fun _ => trivial, fun h8 => ⟨fun _ => trivial, fun _ => ⟨fun _ => trivial, fun h12 => ⟨fun _ => trivial, fun ho => ?_⟩⟩⟩⟩
  obtain ⟨⟨hq0, hq1, hq2⟩, hal, hnum⟩ := out_iff.1 ho
  obtain ⟨Q, rfl⟩ := Int.eq_ofNat_of_zero_le hq0
  simp only [sub_take4]
  have hm : (r.take 4).length = min 4 r.length := List.length_take ..
  have hXn : ∀ i, i < (r.take 4).length → lg (r.take 4) i 2 = (Q : Int) + i := fun i hi => by rw [lg_tk (by omega)]; exact hnum i (by omega)
  have hOO : subR O 0 ((O.length : Nat) : Int) = O := by rw [subR_zero, List.take_length]
  refine ⟨by omega, by omega, by omega, fun _ => trivial, fun hne => ⟨fun hp => ⟨by omega, ?_, ?_⟩, fun hn => absurd (by omega) hn⟩⟩
  · rw [hOO, List.length_append]; simp only [List.length_append, List.length_cons, List.length_nil]; omega
  have hro := alk_ours hal (by omega)
  have hXo := ours_tk hro 4
  have hXs : subR r 0 (min 4 ((r.length : Nat) : Int)) = r.take 4 := sub_take4 r
  generalize hX : r.take 4 = Y at *
  generalize lg r 0 0 = f at *
  generalize lg r 0 1 = t at *
  refine TT.sat_loop (fun v => ∃ i : Nat, v.i 2 = i ∧ 1 ≤ i ∧ i ≤ Y.length ∧ v.d 10 = O ++ rows1 (List.range i)) (fun v => Y.length - (v.i 2).toNat) ⟨1, ?_, Nat.le_refl _, by omega, ?_⟩ (fun w hw => ?_)
  · simp only [TT.sat_ret, TT.sat_ite, TT.sat_ob, TT.sat_next, TT.sat_stuck, put_i, put_b, put_d, put_fi, put_fb, put_fd, Ob.ok, B.ev, E.ev, X.ev, AL.ev, cmp_t, cmp_f, arEv, V.plain, V2.plain, S.plain, S0.plain, V.val, V2.val, S.val, S0.val, bV, iV, List.all_cons, List.all_nil, Bool.and_true, Bool.and_self, envOf_i, envOf_b, envOf_d, List.map_cons, List.map_nil, true_and, Bool.not_eq_true', Bool.not_eq_false', Bool.not_not, Bool.and_eq_true, and_f, cell_lg, cell_lb, cell_lr, cmpP, val_i, val_b, val_d, aget, Nat.reduceBEq, beq_self_eq_true, Bool.false_eq_true, if_true, if_false, Nat.reduceLT, Nat.reduceSub, Nat.sub_self, Nat.lt_irrefl]; rfl
  · simp only [TT.sat_ret, TT.sat_ite, TT.sat_ob, TT.sat_next, TT.sat_stuck, put_i, put_b, put_d, put_fi, put_fb, put_fd, Ob.ok, B.ev, E.ev, X.ev, AL.ev, cmp_t, cmp_f, arEv, V.plain, V2.plain, S.plain, S0.plain, V.val, V2.val, S.val, S0.val, bV, iV, List.all_cons, List.all_nil, Bool.and_true, Bool.and_self, envOf_i, envOf_b, envOf_d, List.map_cons, List.map_nil, true_and, Bool.not_eq_true', Bool.not_eq_false', Bool.not_not, Bool.and_eq_true, and_f, cell_lg, cell_lb, cell_lr, cmpP, val_i, val_b, val_d, aget, Nat.reduceBEq, beq_self_eq_true, Bool.false_eq_true, if_true, if_false, Nat.reduceLT, Nat.reduceSub, Nat.sub_self, Nat.lt_irrefl, val_d, X.ev, e2, hOO]; rfl
  obtain ⟨wi, w0, w1, w2, w3⟩ := hw
  have hww : subR (w.d 10) 0 (((w.d 10).length : Nat) : Int) = w.d 10 := by rw [subR_zero, List.take_length]
  have hwl : (w.d 10).length = O.length + wi := by rw [w3, List.length_append, rows1_len, List.length_range]
  simp only [TT.sat_ret, TT.sat_ite, TT.sat_ob, TT.sat_next, TT.sat_stuck, put_i, put_b, put_d, put_fi, put_fb, put_fd, Ob.ok, B.ev, E.ev, X.ev, AL.ev, cmp_t, cmp_f, arEv, V.plain, V2.plain, S.plain, S0.plain, V.val, V2.val, S.val, S0.val, bV, iV, List.all_cons, List.all_nil, Bool.and_true, Bool.and_self, envOf_i, envOf_b, envOf_d, List.map_cons, List.map_nil, true_and, Bool.not_eq_true', Bool.not_eq_false', Bool.not_not, Bool.and_eq_true, and_f, cell_lg, cell_lb, cell_lr, cmpP, val_i, val_b, val_d, aget, Nat.reduceBEq, beq_self_eq_true, Bool.false_eq_true, if_true, if_false, Nat.reduceLT, Nat.reduceSub, Nat.sub_self, Nat.lt_irrefl, w0, e1, X.ev, hXs, hww]
  refine ⟨fun hc => ⟨by omega, ?_, ⟨wi + 1, ?_, by omega, by omega, ?_⟩, ?_⟩, fun hc => ?_⟩
  · simp only [List.length_append, List.length_cons, List.length_nil, hwl]; omega
  · rw [wrap_in ((wi : Int) + 1) (by omega) (by omega)]; rfl
  · rw [w3, wrap_u8 wi (by omega), List.range_succ, ← rows1_app, List.append_assoc]; rfl
  · rw [wrap_in ((wi : Int) + 1) (by omega) (by omega)]; omega
  obtain rfl : wi = Y.length := by omega
  have hYp : 0 < Y.length := w1
  have hRn : ∀ k, k < (w.d 10).length → 0 ≤ lg (w.d 10) k 0 ∧ lg (w.d 10) k 0 ≤ 255 := fun k hk => by
    rw [w3] at hk ⊢
    rw [List.length_append, rows1_len, List.length_range] at hk
    by_cases c : k < O.length
    · rw [lg_appL c]; exact hok k c
    · have e := lg_appR (a := O) (l := List.range Y.length) (i := k - O.length) (by rw [List.length_range]; omega)
      rw [show O.length + (k - O.length) = k by omega] at e
      rw [e, List.getElem_range]; omega
  have hRl : ∀ i, i < Y.length → lg (w.d 10) ((O.length + i : Nat) : Int) 0 = i := fun i hi => by
    rw [w3, lg_appR (by rw [List.length_range]; exact hi), List.getElem_range]
  clear hww w3 w2 w0 hok
  generalize e3 : w.d 10 = R at *
  refine TT.sat_loop (fun v => ∃ i l x, InvT Y R Q f t l x i v) (fun v => R.length - (v.i 2).toNat) ⟨0, [], _, ⟨Nat.zero_le _, Cov.start Q Y.length, fun k hk => by omega, ?_, ?_, ?_, ?_, ?_, fun h => by omega⟩⟩ (fun v hv => ?_)
  · simp only [TT.sat_ret, TT.sat_ite, TT.sat_ob, TT.sat_next, TT.sat_stuck, put_i, put_b, put_d, put_fi, put_fb, put_fd, Ob.ok, B.ev, E.ev, X.ev, AL.ev, cmp_t, cmp_f, arEv, V.plain, V2.plain, S.plain, S0.plain, V.val, V2.val, S.val, S0.val, bV, iV, List.all_cons, List.all_nil, Bool.and_true, Bool.and_self, envOf_i, envOf_b, envOf_d, List.map_cons, List.map_nil, true_and, Bool.not_eq_true', Bool.not_eq_false', Bool.not_not, Bool.and_eq_true, and_f, cell_lg, cell_lb, cell_lr, cmpP, val_i, val_b, val_d, aget, Nat.reduceBEq, beq_self_eq_true, Bool.false_eq_true, if_true, if_false, Nat.reduceLT, Nat.reduceSub, Nat.sub_self, Nat.lt_irrefl]; rfl
  · simp only [TT.sat_ret, TT.sat_ite, TT.sat_ob, TT.sat_next, TT.sat_stuck, put_i, put_b, put_d, put_fi, put_fb, put_fd, Ob.ok, B.ev, E.ev, X.ev, AL.ev, cmp_t, cmp_f, arEv, V.plain, V2.plain, S.plain, S0.plain, V.val, V2.val, S.val, S0.val, bV, iV, List.all_cons, List.all_nil, Bool.and_true, Bool.and_self, envOf_i, envOf_b, envOf_d, List.map_cons, List.map_nil, true_and, Bool.not_eq_true', Bool.not_eq_false', Bool.not_not, Bool.and_eq_true, and_f, cell_lg, cell_lb, cell_lr, cmpP, val_i, val_b, val_d, aget, Nat.reduceBEq, beq_self_eq_true, Bool.false_eq_true, if_true, if_false, Nat.reduceLT, Nat.reduceSub, Nat.sub_self, Nat.lt_irrefl, e0]
  · simp only [TT.sat_ret, TT.sat_ite, TT.sat_ob, TT.sat_next, TT.sat_stuck, put_i, put_b, put_d, put_fi, put_fb, put_fd, Ob.ok, B.ev, E.ev, X.ev, AL.ev, cmp_t, cmp_f, arEv, V.plain, V2.plain, S.plain, S0.plain, V.val, V2.val, S.val, S0.val, bV, iV, List.all_cons, List.all_nil, Bool.and_true, Bool.and_self, envOf_i, envOf_b, envOf_d, List.map_cons, List.map_nil, true_and, Bool.not_eq_true', Bool.not_eq_false', Bool.not_not, Bool.and_eq_true, and_f, cell_lg, cell_lb, cell_lr, cmpP, val_i, val_b, val_d, aget, Nat.reduceBEq, beq_self_eq_true, Bool.false_eq_true, if_true, if_false, Nat.reduceLT, Nat.reduceSub, Nat.sub_self, Nat.lt_irrefl]; exact Int.le_refl _
  · simp only [TT.sat_ret, TT.sat_ite, TT.sat_ob, TT.sat_next, TT.sat_stuck, put_i, put_b, put_d, put_fi, put_fb, put_fd, Ob.ok, B.ev, E.ev, X.ev, AL.ev, cmp_t, cmp_f, arEv, V.plain, V2.plain, S.plain, S0.plain, V.val, V2.val, S.val, S0.val, bV, iV, List.all_cons, List.all_nil, Bool.and_true, Bool.and_self, envOf_i, envOf_b, envOf_d, List.map_cons, List.map_nil, true_and, Bool.not_eq_true', Bool.not_eq_false', Bool.not_not, Bool.and_eq_true, and_f, cell_lg, cell_lb, cell_lr, cmpP, val_i, val_b, val_d, aget, Nat.reduceBEq, beq_self_eq_true, Bool.false_eq_true, if_true, if_false, Nat.reduceLT, Nat.reduceSub, Nat.sub_self, Nat.lt_irrefl, val_d, X.ev]; rfl
  · simp only [TT.sat_ret, TT.sat_ite, TT.sat_ob, TT.sat_next, TT.sat_stuck, put_i, put_b, put_d, put_fi, put_fb, put_fd, Ob.ok, B.ev, E.ev, X.ev, AL.ev, cmp_t, cmp_f, arEv, V.plain, V2.plain, S.plain, S0.plain, V.val, V2.val, S.val, S0.val, bV, iV, List.all_cons, List.all_nil, Bool.and_true, Bool.and_self, envOf_i, envOf_b, envOf_d, List.map_cons, List.map_nil, true_and, Bool.not_eq_true', Bool.not_eq_false', Bool.not_not, Bool.and_eq_true, and_f, cell_lg, cell_lb, cell_lr, cmpP, val_i, val_b, val_d, aget, Nat.reduceBEq, beq_self_eq_true, Bool.false_eq_true, if_true, if_false, Nat.reduceLT, Nat.reduceSub, Nat.sub_self, Nat.lt_irrefl, val_d, X.ev]; simp [deliv]
  obtain ⟨i, l, x, hI⟩ := hv
  have hxO := hI.cov.ok
  have hxs := hI.cov.s
  have hxh := hI.cov.h
  have i0 := hI.i0
  have got := hI.got
  have lo := hI.lo
  have early := hI.early
  have told := hI.told
  have le := hI.le
  simp only [TT.sat_ret, TT.sat_ite, TT.sat_ob, TT.sat_next, TT.sat_stuck, put_i, put_b, put_d, put_fi, put_fb, put_fd, Ob.ok, B.ev, E.ev, X.ev, AL.ev, cmp_t, cmp_f, arEv, V.plain, V2.plain, S.plain, S0.plain, V.val, V2.val, S.val, S0.val, bV, iV, List.all_cons, List.all_nil, Bool.and_true, Bool.and_self, envOf_i, envOf_b, envOf_d, List.map_cons, List.map_nil, true_and, Bool.not_eq_true', Bool.not_eq_false', Bool.not_not, Bool.and_eq_true, and_f, cell_lg, cell_lb, cell_lr, cmpP, val_i, val_b, val_d, aget, Nat.reduceBEq, beq_self_eq_true, Bool.false_eq_true, if_true, if_false, Nat.reduceLT, Nat.reduceSub, Nat.sub_self, Nat.lt_irrefl, i0, e0, e1, e3, X.ev, hXs]
  refine ⟨fun hc => ?_, fun hc => ?_⟩
  · have hi : i < R.length := by omega
    obtain ⟨n1, n2⟩ := hRn i hi
    have hK : lg R i 0 = ((lg R i 0).toNat : Int) := by omega
    have hidx : (IntKind.i64.wrap (lg R i 0)).tmod ((Y.length : Nat) : Int) = (((lg R i 0).toNat % Y.length : Nat) : Int) := by rw [hK, wrap_in _ (by omega) (by omega)]; rfl
    have hp : (lg R i 0).toNat % Y.length < Y.length := Nat.mod_lt _ hYp
    have step : ∀ {u : LV}, u.i 2 = (i : Int) + 1 → u.i 7 = (x.take (Q + (lg R i 0).toNat % Y.length)).g → 0 ≤ u.i 10 → subR (u.d 9) (u.i 10) (u.i 11) = gts (letX Y Q) (x.take (Q + (lg R i 0).toNat % Y.length)).e → u.d 1 = deliv Y ((x.take (Q + (lg R i 0).toNat % Y.length)).g - Q) → u.i 3 = t → u.i 4 = f → u.i 5 = (x.take (Q + (lg R i 0).toNat % Y.length)).g → u.b 6 = true → ∃ j l' x', InvT Y R Q f t l' x' j u ∧ j = i + 1 :=
      fun h1 h2 h3 h4 h5 h6 h7 h8 h9 => stepT hI hi (by omega) rfl hYp h1 h2 h3 h4 h5 h6 h7 h8 h9
    have step' : ∀ {u : LV}, u.i 2 = (i : Int) + 1 → u.i 7 = (x.take (Q + (lg R i 0).toNat % Y.length)).g → 0 ≤ u.i 10 → subR (u.d 9) (u.i 10) (u.i 11) = gts (letX Y Q) (x.take (Q + (lg R i 0).toNat % Y.length)).e → u.d 1 = deliv Y ((x.take (Q + (lg R i 0).toNat % Y.length)).g - Q) → u.i 3 = t → u.i 4 = f → u.i 5 = (x.take (Q + (lg R i 0).toNat % Y.length)).g → u.b 6 = true → ∃ j l' x', InvT Y R Q f t l' x' j u := fun h1 h2 h3 h4 h5 h6 h7 h8 h9 => by
      obtain ⟨j, l', x', a, _⟩ := step h1 h2 h3 h4 h5 h6 h7 h8 h9
      exact ⟨j, l', x', a⟩
    clear step
    generalize (lg R i 0).toNat % Y.length = p at *
    rw [hidx]
    refine ⟨by omega, hc, by omega, by omega, by omega, ?_⟩
    have hXp := hXn p hp
    have hcA := letX_car hXo hp hXp
    simp only [Bool.and_eq_true, decide_eq_true_eq] at hcA
    obtain ⟨hcar, a0, a1⟩ := hcA
    have hwin : ∀ k, Q ≤ k → k < Q + Y.length → (carR (letX Y Q k) && decide (cI (letX Y Q k) 0 = f ∧ cI (letX Y Q k) 1 = t)) = true := fun k h1 h2 => by
      have := letX_car (i := k - Q) (Q := Q) hXo (by omega) (hXn _ (by omega))
      rw [show Q + (k - Q) = k by omega] at this
      exact this
    have hL : ∀ k, cI (letX Y Q k) 2 = (k : Int) := letX_two Y Q
    have a2 := hL (Q + p)
    have sub : Q + p - Q = p := by omega
    have c0 : lg Y p 0 = cI (letX Y Q (Q + p)) 0 := by unfold letX; rw [sub]; rfl
    have c1 : lg Y p 1 = cI (letX Y Q (Q + p)) 1 := by unfold letX; rw [sub]; rfl
    have c2 : lg Y p 2 = cI (letX Y Q (Q + p)) 2 := by rw [a2, hXp]; omega
    have c3 : lb Y p 3 = cB (letX Y Q (Q + p)) 3 := by unfold letX; rw [sub]; rfl
    have c4 : lg Y p 4 = cI (letX Y Q (Q + p)) 4 := by unfold letX; rw [sub]; rfl
    have c5 : lg Y p 5 = cI (letX Y Q (Q + p)) 5 := by unfold letX; rw [sub]; rfl
    have c6 : lg Y p 6 = cI (letX Y Q (Q + p)) 6 := by unfold letX; rw [sub]; rfl
    have c7 : lg Y p 7 = cI (letX Y Q (Q + p)) 7 := by unfold letX; rw [sub]; rfl
    have c8 : lg Y p 8 = cI (letX Y Q (Q + p)) 8 := by unfold letX; rw [sub]; rfl
    have c9 : lg Y p 9 = cI (letX Y Q (Q + p)) 9 := by unfold letX; rw [sub]; rfl
    have c10 : lr Y p 10 = cR (letX Y Q (Q + p)) 10 := by unfold letX; rw [sub]; rfl
    have eL : [D.i (cI (letX Y Q (Q + p)) 0), D.i (cI (letX Y Q (Q + p)) 1), D.i (cI (letX Y Q (Q + p)) 2), D.b (cB (letX Y Q (Q + p)) 3), D.i (cI (letX Y Q (Q + p)) 4), D.i (cI (letX Y Q (Q + p)) 5), D.i (cI (letX Y Q (Q + p)) 6), D.i (cI (letX Y Q (Q + p)) 7), D.i (cI (letX Y Q (Q + p)) 8), D.i (cI (letX Y Q (Q + p)) 9), D.l (cR (letX Y Q (Q + p)) 10)] = letX Y Q (Q + p) := rfl
    have eN : ntR (letX Y Q (Q + p)) = [D.i (cI (letX Y Q (Q + p)) 4), D.i (cI (letX Y Q (Q + p)) 5), D.i (cI (letX Y Q (Q + p)) 6), D.i (cI (letX Y Q (Q + p)) 7), D.i (cI (letX Y Q (Q + p)) 8), D.i (cI (letX Y Q (Q + p)) 9), D.l (cR (letX Y Q (Q + p)) 10)] := rfl
    have eC : carL (letX Y Q (Q + p)) = carR (letX Y Q (Q + p)) := rfl
    rw [a0, a1, a2] at eL
    rw [a0] at c0
    rw [a1] at c1
    rw [a2] at c2
    have hdel := deliv_more (X := Y) (Q := Q) (e := insL x.g x.e (Q + p)) (g := x.g) (by have := hxO.sg; omega) (by have := (hxO.take_ok (l := Q + p) (by omega)).gh; have e : (x.take (Q + p)).h = x.h := rfl; have e2 : (x.take (Q + p)).g = x.g + runL (insL x.g x.e (Q + p)) x.g := rfl; omega)
    generalize hLL : letX Y Q = L at *
    generalize hPl : Q + p = ll at *
    have hll : ll < x.h := by omega
    have hEo : oursB (gts L x.e) f t = true := g_ours (fun k hk => hwin k (by have := hxO.lo k hk; have := hxO.sg; omega) (by have := hxO.eh k hk; omega))
    have hwinE := g_win hL (g := x.g + 1) hxO.up (fun k hk => hxO.lo k hk) (fun k hk => by have := hxO.hi k hk; omega)
    have hris := win_ris hwinE
    have hel := win_len hwinE
    rw [gts_len] at hel
    have hsg := hxO.sg
    have hgh := hxO.gh
    have hhn := hxO.hn
    have hIB : inB x.g (gts L x.e) = true := in_iff.2 ⟨⟨by omega, by omega⟩, alk_of hEo, hwinE, fun i hi => by
      rw [gts_len] at hi
      rw [g_lg hL hi]
      have := hxO.hi _ (List.getElem_mem hi); omega⟩
    have hlow := lowS_spec (gts L x.e) ll
    rw [gts_len] at hlow
    have hlow1 := hlow.1
    clear hlow
    have lgd : ∀ (i : Nat) j, i < x.e.length → lg (v.d 9) (v.i 10 + (i : Int)) j = lg (gts L x.e) i j := fun i j h => by rw [lg_sub (by rw [early, gts_len]; exact h) lo, early]
    have lrd : ∀ (i : Nat) j, i < x.e.length → lr (v.d 9) (v.i 10 + (i : Int)) j = lr (gts L x.e) i j := fun i j h => by rw [lr_sub (by rw [early, gts_len]; exact h) lo, early]
    have hins := g_ins hL (g := x.g) hris ll
    have he1 : ∀ k ∈ insL x.g x.e ll, x.g ≤ k ∧ k < x.g + 4 ∧ k < x.h := fun k hk => by
      rcases mem_insL hk with q | ⟨rfl, q⟩
      · exact ⟨Nat.le_of_lt (hxO.lo k q), hxO.hi k q, hxO.eh k q⟩
      · exact ⟨q.1, q.2, hll⟩
    have hw1 := g_win hL (g := x.g) (insL_up (g := x.g) (l := ll) hxO.up) (fun k hk => (he1 k hk).1) (fun k hk => (he1 k hk).2.1)
    have hl1 := win_len hw1
    rw [gts_len] at hl1
    have hrun := g_run hL (e := insL x.g x.e ll) (g := x.g)
    obtain ⟨r1, _, _⟩ := runL_spec (insL x.g x.e ll) x.g
    have hyg : x.g + runL (insL x.g x.e ll) x.g ≤ x.h := (hxO.take_ok hll).gh
    refine TT.sat_join (fun u => u.b 4 = false) (fun y hy => ?_) (fun y hy hY => ?_)
    · simp only [TT.sat_ret, TT.sat_ite, TT.sat_ob, TT.sat_next, TT.sat_stuck, put_i, put_b, put_d, put_fi, put_fb, put_fd, Ob.ok, B.ev, E.ev, X.ev, AL.ev, cmp_t, cmp_f, arEv, V.plain, V2.plain, S.plain, S0.plain, V.val, V2.val, S.val, S0.val, bV, iV, List.all_cons, List.all_nil, Bool.and_true, Bool.and_self, envOf_i, envOf_b, envOf_d, List.map_cons, List.map_nil, true_and, Bool.not_eq_true', Bool.not_eq_false', Bool.not_not, Bool.and_eq_true, and_f, cell_lg, cell_lb, cell_lr, cmpP, val_i, val_b, val_d, aget, Nat.reduceBEq, beq_self_eq_true, Bool.false_eq_true, if_true, if_false, Nat.reduceLT, Nat.reduceSub, Nat.sub_self, Nat.lt_irrefl, hy, e1, e3, hXs, i0, got, early, hidx, c0, c1, c2, c3, c4, c5, c6, c7, c8, c9, c10, eL, Q5b211, Q5b191, Q5b201, in_two, ours_three, hIB, eC, hcar, hEo]
      exact ⟨fun h => (by cases h), fun _ => ⟨fun h => (by cases h), fun _ => trivial⟩⟩
    simp only [TT.sat_ret, TT.sat_ite, TT.sat_ob, TT.sat_next, TT.sat_stuck, put_i, put_b, put_d, put_fi, put_fb, put_fd, Ob.ok, B.ev, E.ev, X.ev, AL.ev, cmp_t, cmp_f, arEv, V.plain, V2.plain, S.plain, S0.plain, V.val, V2.val, S.val, S0.val, bV, iV, List.all_cons, List.all_nil, Bool.and_true, Bool.and_self, envOf_i, envOf_b, envOf_d, List.map_cons, List.map_nil, true_and, Bool.not_eq_true', Bool.not_eq_false', Bool.not_not, Bool.and_eq_true, and_f, cell_lg, cell_lb, cell_lr, cmpP, val_i, val_b, val_d, aget, Nat.reduceBEq, beq_self_eq_true, Bool.false_eq_true, if_true, if_false, Nat.reduceLT, Nat.reduceSub, Nat.sub_self, Nat.lt_irrefl, hy, hY, early, Q5b203, ris_one, hris]
    refine ⟨fun h => (by cases h), fun _ => ?_⟩
    refine TT.sat_join (fun u => u.b 2 = false) (fun y2 hy2 => ?_) (fun y2 hy2 hY2 => ?_)
    · simp only [TT.sat_ret, TT.sat_ite, TT.sat_ob, TT.sat_next, TT.sat_stuck, put_i, put_b, put_d, put_fi, put_fb, put_fd, Ob.ok, B.ev, E.ev, X.ev, AL.ev, cmp_t, cmp_f, arEv, V.plain, V2.plain, S.plain, S0.plain, V.val, V2.val, S.val, S0.val, bV, iV, List.all_cons, List.all_nil, Bool.and_true, Bool.and_self, envOf_i, envOf_b, envOf_d, List.map_cons, List.map_nil, true_and, Bool.not_eq_true', Bool.not_eq_false', Bool.not_not, Bool.and_eq_true, and_f, cell_lg, cell_lb, cell_lr, cmpP, val_i, val_b, val_d, aget, Nat.reduceBEq, beq_self_eq_true, Bool.false_eq_true, if_true, if_false, Nat.reduceLT, Nat.reduceSub, Nat.sub_self, Nat.lt_irrefl, hy2, e1, e3, hXs, i0, early, hidx, c0, c1, c2, c3, c4, c5, c6, c7, c8, c9, c10, Q5b204, Q5i200, Q5b190, is_two, low_two]
      refine ⟨fun h => ?_, fun _ => trivial⟩
      unfold isS at h
      rw [decide_eq_true_eq] at h
      have hl := h.1
      have hl' := hl
      rw [gts_len] at hl'
      simp only [lgd _ _ hl', lrd _ _ hl']
      refine ⟨by omega, by omega, ?_⟩
      have hx := g_agr hL (e := x.e) ll _ (List.getElem_mem hl) (by rw [← lg_cI hl]; exact h.2)
      rw [ntR_at hl, eN] at hx
      exact (ns14 _ _ _ _ _ _ _ _ _ _ _ _ _ _).2 hx
    simp only [TT.sat_ret, TT.sat_ite, TT.sat_ob, TT.sat_next, TT.sat_stuck, put_i, put_b, put_d, put_fi, put_fb, put_fd, Ob.ok, B.ev, E.ev, X.ev, AL.ev, cmp_t, cmp_f, arEv, V.plain, V2.plain, S.plain, S0.plain, V.val, V2.val, S.val, S0.val, bV, iV, List.all_cons, List.all_nil, Bool.and_true, Bool.and_self, envOf_i, envOf_b, envOf_d, List.map_cons, List.map_nil, true_and, Bool.not_eq_true', Bool.not_eq_false', Bool.not_not, Bool.and_eq_true, and_f, cell_lg, cell_lb, cell_lr, cmpP, val_i, val_b, val_d, aget, Nat.reduceBEq, beq_self_eq_true, Bool.false_eq_true, if_true, if_false, Nat.reduceLT, Nat.reduceSub, Nat.sub_self, Nat.lt_irrefl, hy2, hY2, early, gts_len]
    refine ⟨fun h => (by cases h), fun _ => ⟨by omega, ?_⟩⟩
    refine TT.sat_join (fun u => u.b 2 = putB x.g (gts L x.e) ll) (fun y3 hy3 => ?_) (fun y3 hy3 hY3 => ?_)
    · simp only [TT.sat_ret, TT.sat_ite, TT.sat_ob, TT.sat_next, TT.sat_stuck, put_i, put_b, put_d, put_fi, put_fb, put_fd, Ob.ok, B.ev, E.ev, X.ev, AL.ev, cmp_t, cmp_f, arEv, V.plain, V2.plain, S.plain, S0.plain, V.val, V2.val, S.val, S0.val, bV, iV, List.all_cons, List.all_nil, Bool.and_true, Bool.and_self, envOf_i, envOf_b, envOf_d, List.map_cons, List.map_nil, true_and, Bool.not_eq_true', Bool.not_eq_false', Bool.not_not, Bool.and_eq_true, and_f, cell_lg, cell_lb, cell_lr, cmpP, val_i, val_b, val_d, aget, Nat.reduceBEq, beq_self_eq_true, Bool.false_eq_true, if_true, if_false, Nat.reduceLT, Nat.reduceSub, Nat.sub_self, Nat.lt_irrefl, hy3, e1, e3, hXs, i0, got, early, hidx, c0, c1, c2, c3, c4, c5, c6, c7, c8, c9, c10, Q5b204, is_two, wrap_in ((x.g : Int) + 4) (by omega) (by omega)]
      refine ⟨fun h => ⟨fun a => ?_, fun a => ?_⟩, fun h => ?_⟩
      · rw [putB, h, lss_dec]
        simp only [Bool.not_false, Bool.true_and]
        exact decide_eq_decide.2 ⟨fun b => ⟨a, b⟩, fun b => b.2⟩
      · rw [putB, decide_eq_false (fun b => a b.1), Bool.and_false]
      · rw [putB, h]; rfl
    refine TT.sat_join (fun u => u.d 2 = gts L (insL x.g x.e ll)) (fun y4 hy4 => ?_) (fun y4 hy4 hY4 => ?_)
    · simp only [TT.sat_ret, TT.sat_ite, TT.sat_ob, TT.sat_next, TT.sat_stuck, put_i, put_b, put_d, put_fi, put_fb, put_fd, Ob.ok, B.ev, E.ev, X.ev, AL.ev, cmp_t, cmp_f, arEv, V.plain, V2.plain, S.plain, S0.plain, V.val, V2.val, S.val, S0.val, bV, iV, List.all_cons, List.all_nil, Bool.and_true, Bool.and_self, envOf_i, envOf_b, envOf_d, List.map_cons, List.map_nil, true_and, Bool.not_eq_true', Bool.not_eq_false', Bool.not_not, Bool.and_eq_true, and_f, cell_lg, cell_lb, cell_lr, cmpP, val_i, val_b, val_d, aget, Nat.reduceBEq, beq_self_eq_true, Bool.false_eq_true, if_true, if_false, Nat.reduceLT, Nat.reduceSub, Nat.sub_self, Nat.lt_irrefl, hy4, hY3, e1, e3, hXs, i0, early, gts_len, hidx, c0, c1, c2, c3, c4, c5, c6, c7, c8, c9, c10, eL, Q5i200, low_two, X.ev]
      rw [← hins]
      refine ⟨fun h => ⟨by omega, by omega, by omega, ?_⟩, fun h => ?_⟩
      · unfold insR; rw [if_pos h, ← gts_len L x.e, subR_end, subR_zero, Int.toNat_natCast, List.append_nil, List.append_assoc]
      · unfold insR; rw [h, if_neg (by decide)]
    generalize hE1 : insL x.g x.e ll = e at *
    refine TT.sat_join (fun u => u.i 1 = (runL e x.g : Nat) ∧ u.i 2 = (e.length : Nat) ∧ u.i 4 = (x.g : Int) + (runL e x.g : Nat) ∧ u.d 15 = ((gts L e).take (runL e x.g)).map ntR) (fun y5 hy5 => ?_) (fun y5 hy5 hY5 => ?_)
    · refine TT.sat_loop (fun z => ∃ i : Nat, z.i 0 = i ∧ i ≤ e.length ∧ z.i 1 = (e.length : Nat) ∧ z.i 4 = (x.g : Int) + i ∧ z.d 3 = ((gts L e).take i).map ntR ∧ ∀ k : Nat, k < i → lg (gts L e) k 2 = (x.g : Int) + k) (fun z => e.length - (z.i 0).toNat)
        ⟨0, ?_, by omega, ?_, ?_, ?_, fun k hk => by omega⟩ (fun z hz => ?_)
      · simp only [TT.sat_ret, TT.sat_ite, TT.sat_ob, TT.sat_next, TT.sat_stuck, put_i, put_b, put_d, put_fi, put_fb, put_fd, Ob.ok, B.ev, E.ev, X.ev, AL.ev, cmp_t, cmp_f, arEv, V.plain, V2.plain, S.plain, S0.plain, V.val, V2.val, S.val, S0.val, bV, iV, List.all_cons, List.all_nil, Bool.and_true, Bool.and_self, envOf_i, envOf_b, envOf_d, List.map_cons, List.map_nil, true_and, Bool.not_eq_true', Bool.not_eq_false', Bool.not_not, Bool.and_eq_true, and_f, cell_lg, cell_lb, cell_lr, cmpP, val_i, val_b, val_d, aget, Nat.reduceBEq, beq_self_eq_true, Bool.false_eq_true, if_true, if_false, Nat.reduceLT, Nat.reduceSub, Nat.sub_self, Nat.lt_irrefl]; rfl
      · simp only [TT.sat_ret, TT.sat_ite, TT.sat_ob, TT.sat_next, TT.sat_stuck, put_i, put_b, put_d, put_fi, put_fb, put_fd, Ob.ok, B.ev, E.ev, X.ev, AL.ev, cmp_t, cmp_f, arEv, V.plain, V2.plain, S.plain, S0.plain, V.val, V2.val, S.val, S0.val, bV, iV, List.all_cons, List.all_nil, Bool.and_true, Bool.and_self, envOf_i, envOf_b, envOf_d, List.map_cons, List.map_nil, true_and, Bool.not_eq_true', Bool.not_eq_false', Bool.not_not, Bool.and_eq_true, and_f, cell_lg, cell_lb, cell_lr, cmpP, val_i, val_b, val_d, aget, Nat.reduceBEq, beq_self_eq_true, Bool.false_eq_true, if_true, if_false, Nat.reduceLT, Nat.reduceSub, Nat.sub_self, Nat.lt_irrefl, hY4, gts_len]
      · simp only [TT.sat_ret, TT.sat_ite, TT.sat_ob, TT.sat_next, TT.sat_stuck, put_i, put_b, put_d, put_fi, put_fb, put_fd, Ob.ok, B.ev, E.ev, X.ev, AL.ev, cmp_t, cmp_f, arEv, V.plain, V2.plain, S.plain, S0.plain, V.val, V2.val, S.val, S0.val, bV, iV, List.all_cons, List.all_nil, Bool.and_true, Bool.and_self, envOf_i, envOf_b, envOf_d, List.map_cons, List.map_nil, true_and, Bool.not_eq_true', Bool.not_eq_false', Bool.not_not, Bool.and_eq_true, and_f, cell_lg, cell_lb, cell_lr, cmpP, val_i, val_b, val_d, aget, Nat.reduceBEq, beq_self_eq_true, Bool.false_eq_true, if_true, if_false, Nat.reduceLT, Nat.reduceSub, Nat.sub_self, Nat.lt_irrefl, got]; omega
      · simp only [TT.sat_ret, TT.sat_ite, TT.sat_ob, TT.sat_next, TT.sat_stuck, put_i, put_b, put_d, put_fi, put_fb, put_fd, Ob.ok, B.ev, E.ev, X.ev, AL.ev, cmp_t, cmp_f, arEv, V.plain, V2.plain, S.plain, S0.plain, V.val, V2.val, S.val, S0.val, bV, iV, List.all_cons, List.all_nil, Bool.and_true, Bool.and_self, envOf_i, envOf_b, envOf_d, List.map_cons, List.map_nil, true_and, Bool.not_eq_true', Bool.not_eq_false', Bool.not_not, Bool.and_eq_true, and_f, cell_lg, cell_lb, cell_lr, cmpP, val_i, val_b, val_d, aget, Nat.reduceBEq, beq_self_eq_true, Bool.false_eq_true, if_true, if_false, Nat.reduceLT, Nat.reduceSub, Nat.sub_self, Nat.lt_irrefl, X.ev, val_d, List.take_zero, List.map_nil]
      obtain ⟨i', j0, j1, j2, j3, j4, j5⟩ := hz
      have hse : subR (gts L e) (i' : Int) ((e.length : Nat) : Int) = (gts L e).drop i' := by rw [← gts_len L e, subR_end, Int.toNat_natCast]
      have hdl : ((gts L e).drop i').length = e.length - i' := by rw [List.length_drop, gts_len]
      simp only [TT.sat_ret, TT.sat_ite, TT.sat_ob, TT.sat_next, TT.sat_stuck, put_i, put_b, put_d, put_fi, put_fb, put_fd, Ob.ok, B.ev, E.ev, X.ev, AL.ev, cmp_t, cmp_f, arEv, V.plain, V2.plain, S.plain, S0.plain, V.val, V2.val, S.val, S0.val, bV, iV, List.all_cons, List.all_nil, Bool.and_true, Bool.and_self, envOf_i, envOf_b, envOf_d, List.map_cons, List.map_nil, true_and, Bool.not_eq_true', Bool.not_eq_false', Bool.not_not, Bool.and_eq_true, and_f, cell_lg, cell_lb, cell_lr, cmpP, val_i, val_b, val_d, aget, Nat.reduceBEq, beq_self_eq_true, Bool.false_eq_true, if_true, if_false, Nat.reduceLT, Nat.reduceSub, Nat.sub_self, Nat.lt_irrefl, hY4, j0, j2, j3, j4, X.ev, hse, hdl]
      have done : (i' < e.length → lg (gts L e) i' 2 ≠ (x.g : Int) + i') → (i' : Int) = (runL e x.g : Nat) ∧ (x.g : Int) + (i' : Int) = (x.g : Int) + (runL e x.g : Nat) ∧ ((gts L e).take i').map ntR = ((gts L e).take (runL e x.g)).map ntR := fun h => by
        rw [← hrun, ← run_uniq (e := gts L e) (g := x.g) (by rw [gts_len]; exact j1) j5 (fun q => h (by rw [gts_len] at q; exact q))]; exact ⟨rfl, rfl, rfl⟩
      rw [if_neg (by decide)]
      refine ⟨fun hc => ⟨hc, fun hq => ?_, fun hq => done (fun _ => hq)⟩, fun hc => done (fun h => by omega)⟩
      have hi' : i' < e.length := by omega
      rw [wrap_in ((x.g : Int) + (i' : Int) + 1) (by omega) (by omega)]
      refine ⟨by omega, ?_, by omega, ⟨i' + 1, Int.natCast_succ i', by omega, sub_back j1, by omega, ?_, fun k hk => ?_⟩, meas_next hi'⟩
      · simp only [List.length_append, List.length_map, List.length_take, gts_len, List.length_cons, List.length_nil]; omega
      · rw [map_take (by rw [gts_len]; exact hi'), List.append_nil]
      · by_cases ek : k = i'
        · subst ek; exact hq
        · exact j5 k (by omega)
    obtain ⟨z1, z2, z4, z5⟩ := hY5
    have hdl : (deliv Y (x.g - Q)).length ≤ 8 := by unfold deliv; rw [List.length_map, List.length_take]; omega
    have hne : subR (gts L e) ((runL e x.g : Nat) : Int) ((e.length : Nat) : Int) = gts L (e.drop (runL e x.g)) := by rw [← gts_drop, ← gts_len L e, subR_end, Int.toNat_natCast]
    have w1' : IntKind.i64.wrap ((i : Int) + 1) = (i : Int) + 1 := wrap_in _ (by omega) (by omega)
    have hgt : x.g + runL e x.g - Q = x.g + runL e x.g - Q := rfl
    simp only [TT.sat_ret, TT.sat_ite, TT.sat_ob, TT.sat_next, TT.sat_stuck, put_i, put_b, put_d, put_fi, put_fb, put_fd, Ob.ok, B.ev, E.ev, X.ev, AL.ev, cmp_t, cmp_f, arEv, V.plain, V2.plain, S.plain, S0.plain, V.val, V2.val, S.val, S0.val, bV, iV, List.all_cons, List.all_nil, Bool.and_true, Bool.and_self, envOf_i, envOf_b, envOf_d, List.map_cons, List.map_nil, true_and, Bool.not_eq_true', Bool.not_eq_false', Bool.not_not, Bool.and_eq_true, and_f, cell_lg, cell_lb, cell_lr, cmpP, val_i, val_b, val_d, aget, Nat.reduceBEq, beq_self_eq_true, Bool.false_eq_true, if_true, if_false, Nat.reduceLT, Nat.reduceSub, Nat.sub_self, Nat.lt_irrefl, hy5, e1, e3, hXs, i0, told, hidx, c0, c1, c2, c3, c4, c5, c6, c7, c8, c9, c10, X.ev, z4, z5]
    refine ⟨?_, ?_⟩
    · rw [hdel]; unfold deliv; rw [List.length_map, List.length_take]; omega
    iterate 5 rw [if_neg (by decide)]
    refine ⟨?_, by rw [w1']; omega⟩
    refine step' ?_ ?_ ?_ ?_ ?_ ?_ ?_ ?_ ?_
    all_goals simp only [TT.sat_ret, TT.sat_ite, TT.sat_ob, TT.sat_next, TT.sat_stuck, put_i, put_b, put_d, put_fi, put_fb, put_fd, Ob.ok, B.ev, E.ev, X.ev, AL.ev, cmp_t, cmp_f, arEv, V.plain, V2.plain, S.plain, S0.plain, V.val, V2.val, S.val, S0.val, bV, iV, List.all_cons, List.all_nil, Bool.and_true, Bool.and_self, envOf_i, envOf_b, envOf_d, List.map_cons, List.map_nil, true_and, Bool.not_eq_true', Bool.not_eq_false', Bool.not_not, Bool.and_eq_true, and_f, cell_lg, cell_lb, cell_lr, cmpP, val_i, val_b, val_d, aget, Nat.reduceBEq, beq_self_eq_true, Bool.false_eq_true, if_true, if_false, Nat.reduceLT, Nat.reduceSub, Nat.sub_self, Nat.lt_irrefl, X.ev, val_i, val_d, val_b, i0, got, told, early, w1', e1, e3, hXs, hidx, c0, c1, hY4, z1, z2, z4, z5, hne, hdel]
    all_goals subst hE1
    all_goals first | rfl | omega
  · obtain rfl : i = R.length := by omega
    obtain ⟨hg, he⟩ := hI.cov.done (fun j hj => by
      have a := hI.all (O.length + j) (by omega)
      have b := hRl j hj
      rw [b, Int.toNat_natCast, Nat.mod_eq_of_lt hj] at a
      exact a)
    obtain ⟨l3, l4, l5, l6⟩ := hI.last (by omega)
    rw [he] at early
    rw [hg] at got told l5
    rw [show Q + Y.length - Q = Y.length by omega] at told
    refine TT.sat_loop (fun z => ∃ k : Nat, z.i 2 = k ∧ k ≤ Y.length ∧ z.d 1 = deliv Y k) (fun z => Y.length - (z.i 2).toNat) ⟨0, ?_, Nat.zero_le _, ?_⟩ (fun z hz => ?_)
    · simp only [TT.sat_ret, TT.sat_ite, TT.sat_ob, TT.sat_next, TT.sat_stuck, put_i, put_b, put_d, put_fi, put_fb, put_fd, Ob.ok, B.ev, E.ev, X.ev, AL.ev, cmp_t, cmp_f, arEv, V.plain, V2.plain, S.plain, S0.plain, V.val, V2.val, S.val, S0.val, bV, iV, List.all_cons, List.all_nil, Bool.and_true, Bool.and_self, envOf_i, envOf_b, envOf_d, List.map_cons, List.map_nil, true_and, Bool.not_eq_true', Bool.not_eq_false', Bool.not_not, Bool.and_eq_true, and_f, cell_lg, cell_lb, cell_lr, cmpP, val_i, val_b, val_d, aget, Nat.reduceBEq, beq_self_eq_true, Bool.false_eq_true, if_true, if_false, Nat.reduceLT, Nat.reduceSub, Nat.sub_self, Nat.lt_irrefl]; rfl
    · simp only [TT.sat_ret, TT.sat_ite, TT.sat_ob, TT.sat_next, TT.sat_stuck, put_i, put_b, put_d, put_fi, put_fb, put_fd, Ob.ok, B.ev, E.ev, X.ev, AL.ev, cmp_t, cmp_f, arEv, V.plain, V2.plain, S.plain, S0.plain, V.val, V2.val, S.val, S0.val, bV, iV, List.all_cons, List.all_nil, Bool.and_true, Bool.and_self, envOf_i, envOf_b, envOf_d, List.map_cons, List.map_nil, true_and, Bool.not_eq_true', Bool.not_eq_false', Bool.not_not, Bool.and_eq_true, and_f, cell_lg, cell_lb, cell_lr, cmpP, val_i, val_b, val_d, aget, Nat.reduceBEq, beq_self_eq_true, Bool.false_eq_true, if_true, if_false, Nat.reduceLT, Nat.reduceSub, Nat.sub_self, Nat.lt_irrefl, val_d, X.ev]; simp [deliv]
    obtain ⟨k, k0, k1, k2⟩ := hz
    have hdl : ∀ k, (deliv Y k).length ≤ 8 := fun k => by unfold deliv; rw [List.length_map, List.length_take]; omega
    simp only [TT.sat_ret, TT.sat_ite, TT.sat_ob, TT.sat_next, TT.sat_stuck, put_i, put_b, put_d, put_fi, put_fb, put_fd, Ob.ok, B.ev, E.ev, X.ev, AL.ev, cmp_t, cmp_f, arEv, V.plain, V2.plain, S.plain, S0.plain, V.val, V2.val, S.val, S0.val, bV, iV, List.all_cons, List.all_nil, Bool.and_true, Bool.and_self, envOf_i, envOf_b, envOf_d, List.map_cons, List.map_nil, true_and, Bool.not_eq_true', Bool.not_eq_false', Bool.not_not, Bool.and_eq_true, and_f, cell_lg, cell_lb, cell_lr, cmpP, val_i, val_b, val_d, aget, Nat.reduceBEq, beq_self_eq_true, Bool.false_eq_true, if_true, if_false, Nat.reduceLT, Nat.reduceSub, Nat.sub_self, Nat.lt_irrefl, k0, k2, e1, hXs, X.ev]
    refine ⟨fun hc => ⟨by omega, hc, ?_, ⟨k + 1, ?_, by omega, ?_⟩, ?_⟩, fun hc => ?_⟩
    · rw [List.length_append]; have := hdl k; simp only [List.length_cons, List.length_nil, List.length_append]; omega
    · rw [wrap_in ((k : Int) + 1) (by omega) (by omega)]; rfl
    · unfold deliv; rw [List.append_nil, map_take (by omega)]
    · rw [wrap_in ((k : Int) + 1) (by omega) (by omega)]; omega
    obtain rfl : k = Y.length := by omega
    have hway : wayP f t := by
      have h := letX_car (i := 0) (Q := Q) hXo hYp (hXn 0 hYp)
      simp only [Bool.and_eq_true, decide_eq_true_eq] at h
      obtain ⟨h1, h2, h3⟩ := h
      unfold carR carB at h1
      simp only [Bool.and_eq_true, decide_eq_true_eq] at h1
      have := h1.1.2.1
      rw [h2, h3] at this
      exact this
    have hack : ackL [D.i t, D.i f, D.i ((Q + Y.length : Nat) : Int), D.b true, D.i 0, D.i 0, D.i 0, D.i 0, D.i 0, D.i 0, D.l []] = true := by
      have e : ackL [D.i t, D.i f, D.i ((Q + Y.length : Nat) : Int), D.b true, D.i 0, D.i 0, D.i 0, D.i 0, D.i 0, D.i 0, D.l []] = ((true && decide (wayP t f ∧ 0 ≤ ((Q + Y.length : Nat) : Int) ∧ ((Q + Y.length : Nat) : Int) ≤ 1000)) && nsL [.i 0, .i 0, .i 0, .i 0, .i 0, .i 0, .l [], .i 0, .i 0, .i 0, .i 0, .i 0, .i 0, .l []]) := rfl
      rw [e, (ns14 _ _ _ _ _ _ _ _ _ _ _ _ _ _).2 rfl, decide_eq_true ⟨by unfold wayP at *; omega, by omega, by omega⟩]; rfl
    refine TT.sat_join (fun u => u.b 3 = false) (fun y hy => ?_) (fun y hy hY => ?_)
    · simp only [TT.sat_ret, TT.sat_ite, TT.sat_ob, TT.sat_next, TT.sat_stuck, put_i, put_b, put_d, put_fi, put_fb, put_fd, Ob.ok, B.ev, E.ev, X.ev, AL.ev, cmp_t, cmp_f, arEv, V.plain, V2.plain, S.plain, S0.plain, V.val, V2.val, S.val, S0.val, bV, iV, List.all_cons, List.all_nil, Bool.and_true, Bool.and_self, envOf_i, envOf_b, envOf_d, List.map_cons, List.map_nil, true_and, Bool.not_eq_true', Bool.not_eq_false', Bool.not_not, Bool.and_eq_true, and_f, cell_lg, cell_lb, cell_lr, cmpP, val_i, val_b, val_d, aget, Nat.reduceBEq, beq_self_eq_true, Bool.false_eq_true, if_true, if_false, Nat.reduceLT, Nat.reduceSub, Nat.sub_self, Nat.lt_irrefl, hy, e0, e1, l3, l4, l5, l6, Q5b210, Q5b200, Q5b201, out_two, ours_three, ho, hack, hro]
      exact ⟨fun h => (by cases h), fun _ => ⟨fun h => (by cases h), fun _ => trivial⟩⟩
    have g1 : IntKind.i64.wrap ((Q : Int) + ((r.length : Nat) : Int)) = (Q : Int) + r.length := wrap_in _ (by omega) (by omega)
    have g2 : max (IntKind.i64.wrap (((Q + Y.length : Nat) : Int) - (Q : Int))) 0 = ((Y.length : Nat) : Int) := by rw [wrap_in _ (by omega) (by omega)]; omega
    have g3 : IntKind.i64.wrap ((Q : Int) + ((Y.length : Nat) : Int)) = (Q : Int) + Y.length := wrap_in _ (by omega) (by omega)
    have g4 : subR r ((Y.length : Nat) : Int) ((r.length : Nat) : Int) = r.drop Y.length := by rw [subR_end, Int.toNat_natCast]
    have g5 : IntKind.i64.wrap (((r.length : Nat) : Int) - ((Y.length : Nat) : Int)) = ((r.length : Nat) : Int) - Y.length := wrap_in _ (by omega) (by omega)
    simp only [TT.sat_ret, TT.sat_ite, TT.sat_ob, TT.sat_next, TT.sat_stuck, put_i, put_b, put_d, put_fi, put_fb, put_fd, Ob.ok, B.ev, E.ev, X.ev, AL.ev, cmp_t, cmp_f, arEv, V.plain, V2.plain, S.plain, S0.plain, V.val, V2.val, S.val, S0.val, bV, iV, List.all_cons, List.all_nil, Bool.and_true, Bool.and_self, envOf_i, envOf_b, envOf_d, List.map_cons, List.map_nil, true_and, Bool.not_eq_true', Bool.not_eq_false', Bool.not_not, Bool.and_eq_true, and_f, cell_lg, cell_lb, cell_lr, cmpP, val_i, val_b, val_d, aget, Nat.reduceBEq, beq_self_eq_true, Bool.false_eq_true, if_true, if_false, Nat.reduceLT, Nat.reduceSub, Nat.sub_self, Nat.lt_irrefl, hy, hY, e0, e1, hXs, l3, l4, l5, l6, got, early, told, k2, X.ev, g1, g2, g3, g4, g5, Q5b220, Q5b224, eqRL_two, List.length_drop]
    have b1 : bxL [D.i ((Q + Y.length : Nat) : Int), D.l (gts (letX Y Q) []), D.i ((Q : Int) + ((Y.length : Nat) : Int)), D.l []] = true := by
      rw [bx_four, eqb_iff.2 (show gts (letX Y Q) [] = [] from rfl), decide_eq_true (by omega)]; rfl
    have b2 : rowsEqb (deliv Y Y.length) (deliv Y Y.length) = true := eqb_iff.2 rfl
    have b3 : cmpEv BinOp.eql (((r.length - Y.length : Nat)) : Int) (max 0 (((r.length : Nat) : Int) - ((Y.length : Nat) : Int))) = true := by
      show ((((r.length - Y.length : Nat)) : Int) == max 0 (((r.length : Nat) : Int) - ((Y.length : Nat) : Int))) = true
      rw [beq_iff_eq]; omega
    rw [b1, b2, b3]
    exact ⟨fun h => h, fun _ => ⟨fun h => by omega, fun _ => ⟨by omega, by omega, by omega, fun _ => ⟨fun _ => ⟨fun _ => rfl, fun h => absurd trivial h⟩, fun h => (by cases h)⟩, fun h => (by cases h)⟩⟩⟩
end Go.Proofs.YtbbjlleaofgddaaGreat
/- Chapter 42: what the arguments' integers are. -/
namespace Go.Proofs.YtbbjlleaofgddaaGreat
open Go.ChangeShapes Go.WideShapes Go.ChangeAt Go.RowKit
section
variable {H : Type} {enc : TypeId × Value → H} {P : Program} {W : World} {sp : Nat → Bool} {held : Bool}
theorem wf_le {n : Int} (h : (Lit.int .i64 n).wf = true) : n ≤ 9223372036854775807 := by
  unfold Lit.wf at h
  simp only [Bool.and_eq_true, decide_eq_true_eq] at h
  have e2 : IntKind.i64.max = 9223372036854775807 := by decide
  have h2 := h.2
  rw [e2] at h2
  exact h2
theorem ints_wide {t e : TypeId} (hu : P.underlying t = some (.slice e)) (he : P.underlying e = some (.int .i64)) {v : Value} {d : DataW H} {p : List MemPlace} (h : DataW.Trod enc P W 0 sp held t v d p) {rows : Rows} (hr : CK.rep W (.sl [.int .i64]) v (.l rows)) :
    ∀ i, i < rows.length → lg rows i 0 ≤ 9223372036854775807 := by
  intro i hi
  obtain ⟨fuel, hf⟩ := h
  obtain ⟨r, e0, a, n, c, rfl, hs, _⟩ := rep_sl.1 hr
  simp only [D.l.injEq] at e0
  subst e0
  have hf : DataW.trod enc P W 0 sp held fuel t [.slice a n c] = some (d, p) := hf
  cases fuel with
  | zero => simp [DataW.trod] at hf
  | succ fuel =>
    rcases DataW.trod_slice hu hf with ⟨q, _⟩ | ⟨a', len, cap, elems, rest, m, hm, q, _, _, _, _, hlen, hel, _, _⟩
    · simp only [List.cons.injEq, Value.slice.injEq, and_true] at q
      have := hs.len
      omega
    · simp only [List.cons.injEq, Value.slice.injEq, and_true] at q
      obtain ⟨rfl, rfl, rfl⟩ := q
      have hl := hs.len
      have h2 := hel i (by omega)
      rw [List.getElem?_eq_getElem (by omega)] at h2
      simp only [Option.bind_eq_some_iff] at h2
      obtain ⟨vs, h3, h4⟩ := h2
      obtain ⟨c1, c2⟩ := cells_of h3
      obtain ⟨x, rfl, _, hw⟩ := DataW.trod_int he h4
      obtain ⟨us, g1, g2⟩ := hs.cell a' rfl i rows[i] (List.getElem?_eq_getElem hi)
      unfold CK.reps CK.reps CK.rep at g1
      obtain ⟨u, us', d', ds', rfl, g3, ⟨y, rfl, rfl⟩, rfl, rfl⟩ := g1
      have q1 := c2 0 _ rfl
      have q2 := g2 0 _ rfl
      have hc : P.cellsOf e = 1 := by simpa using c1.symm
      rw [hc] at q1
      simp only [List.length_cons, List.length_nil, Nat.zero_add, Nat.add_zero] at q1 q2
      have q3 : (a'.add (i * 1)).add 0 = a'.add (i * 1) := by simp [Addr.add]
      rw [q3, q2] at q1
      simp only [Option.some.injEq, Value.int.injEq, true_and] at q1
      subst q1
      rw [lg_cI hi, g3]
      exact wf_le hw
end
theorem scr_arg {W : World} {vals vs0 vs1 : List Value} {v0 v1 : Value} {sh : List Sh} {xs : List D} (h : repSh W (nots :: ints :: sh) vals xs) (h0 : vals = v0 :: vs0) (h1 : vs0 = v1 :: vs1) (hw : ∀ rows, CK.rep W (.sl [.int .i64]) v1 (.l rows) → ∀ i, i < rows.length → lg rows i 0 ≤ 9223372036854775807) : scrOk xs := by
  subst h0 h1
  obtain ⟨u0, us0, d0, ds0, e0, rfl, ⟨x0, rfl, g0⟩, u1, us1, d1, ds1, e1, rfl, ⟨x1, rfl, g1⟩, _⟩ := h
  simp only [List.cons.injEq] at e0
  obtain ⟨rfl, rfl⟩ := e0
  simp only [List.cons.injEq] at e1
  obtain ⟨rfl, rfl⟩ := e1
  obtain ⟨r, rfl, hs⟩ := rep_sl.1 g1
  exact hw r g1
theorem u8_arg2 {W : World} {vals : List Value} {ds : List D} (h : repSh W [nots, ints, .one (.int .u8)] vals ds) (hr : ∀ v, vals[2]? = some v → ∃ n : Int, v = .int .u8 n ∧ 0 ≤ n ∧ n ≤ 255) : 0 ≤ iAt ds 2 ∧ iAt ds 2 ≤ 255 := by
  obtain ⟨v0, vs0, d0, ds0, rfl, rfl, ⟨x0, rfl, h0⟩, v1, vs1, d1, ds1, rfl, rfl, ⟨x1, rfl, h1⟩, v2, vs2, d2, ds2, rfl, rfl, ⟨x2, rfl, h2⟩, rfl, rfl⟩ := h
  obtain ⟨n, rfl, n1, n2⟩ := hr v2 rfl
  unfold CK.rep at h2
  obtain ⟨n', e1, rfl⟩ := h2
  cases e1
  exact ⟨n1, n2⟩
theorem okWide_u8 {P : Program} {w : World} {r : Reach} {base : Nat} {t : TypeId} {v : Value} (hu : P.underlying t = some (.int .u8)) (h : Value.okWide P w r base t v) : ∃ n : Int, v = .int .u8 n ∧ 0 ≤ n ∧ n ≤ 255 := by
  unfold Value.okWide at h
  simp only [hu] at h
  unfold Cell.okWide at h
  simp only [hu] at h
  unfold Cell.ok at h
  simp only [hu] at h
  cases v <;> simp only at h <;> try exact h.elim
  rename_i k n
  obtain ⟨rfl, h⟩ := h
  refine ⟨n, rfl, ?_⟩
  have e1 : IntKind.u8.min = 0 := by decide
  have e2 : IntKind.u8.max = 255 := by decide
  unfold IntKind.has at h
  rw [e1, e2] at h
  exact h
end Go.Proofs.YtbbjlleaofgddaaGreat
/- Chapter 42: the range of a law's bytes. -/
namespace Go.Proofs.YtbbjlleaofgddaaGreat
open Go.ChangeShapes Go.WideShapes Go.ChangeAt Go.RowKit
section
variable {H : Type} {enc : TypeId × Value → H} {P : Program} {W : World} {sp : Nat → Bool} {held : Bool}
theorem wf_byte {n : Int} (h : (Lit.int .u8 n).wf = true) : 0 ≤ n ∧ n ≤ 255 := by
  unfold Lit.wf at h
  simp only [Bool.and_eq_true, decide_eq_true_eq] at h
  have e1 : IntKind.u8.min = 0 := by decide
  have e2 : IntKind.u8.max = 255 := by decide
  rw [e1, e2] at h
  exact h
theorem bytes_wide {t e : TypeId} (hu : P.underlying t = some (.slice e)) (he : P.underlying e = some (.int .u8)) {v : Value} {d : DataW H} {p : List MemPlace} (h : DataW.Trod enc P W 0 sp held t v d p) {rows : Rows} (hr : CK.rep W (.sl [.int .u8]) v (.l rows)) :
    ∀ i, i < rows.length → 0 ≤ lg rows i 0 ∧ lg rows i 0 ≤ 255 := by
  intro i hi
  obtain ⟨fuel, hf⟩ := h
  obtain ⟨r, e0, a, n, c, rfl, hs, _⟩ := rep_sl.1 hr
  simp only [D.l.injEq] at e0
  subst e0
  have hf : DataW.trod enc P W 0 sp held fuel t [.slice a n c] = some (d, p) := hf
  cases fuel with
  | zero => simp [DataW.trod] at hf
  | succ fuel =>
    rcases DataW.trod_slice hu hf with ⟨q, _⟩ | ⟨a', len, cap, elems, rest, m, hm, q, _, _, _, _, hlen, hel, _, _⟩
    · simp only [List.cons.injEq, Value.slice.injEq, and_true] at q
      have := hs.len
      omega
    · simp only [List.cons.injEq, Value.slice.injEq, and_true] at q
      obtain ⟨rfl, rfl, rfl⟩ := q
      have hl := hs.len
      have h2 := hel i (by omega)
      rw [List.getElem?_eq_getElem (by omega)] at h2
      simp only [Option.bind_eq_some_iff] at h2
      obtain ⟨vs, h3, h4⟩ := h2
      obtain ⟨c1, c2⟩ := cells_of h3
      obtain ⟨x, rfl, _, hw⟩ := DataW.trod_int he h4
      obtain ⟨us, g1, g2⟩ := hs.cell a' rfl i rows[i] (List.getElem?_eq_getElem hi)
      unfold CK.reps CK.reps CK.rep at g1
      obtain ⟨u, us', d', ds', rfl, g3, ⟨y, rfl, rfl⟩, rfl, rfl⟩ := g1
      have q1 := c2 0 _ rfl
      have q2 := g2 0 _ rfl
      have hc : P.cellsOf e = 1 := by simpa using c1.symm
      rw [hc] at q1
      simp only [List.length_cons, List.length_nil, Nat.zero_add, Nat.add_zero] at q1 q2
      have q3 : (a'.add (i * 1)).add 0 = a'.add (i * 1) := by simp [Addr.add]
      rw [q3, q2] at q1
      simp only [Option.some.injEq, Value.int.injEq, true_and] at q1
      subst q1
      rw [lg_cI hi, g3]
      exact wf_byte hw
end
theorem ord_arg {W : World} {vals vs0 vs1 : List Value} {v0 v1 : Value} {xs : List D} (h : repSh W [boxS, .one (.sl [.int .u8])] vals xs) (h0 : vals = v0 :: vs0) (h1 : vs0 = v1 :: vs1) (hw : ∀ rows, CK.rep W (.sl [.int .u8]) v1 (.l rows) → ∀ i, i < rows.length → 0 ≤ lg rows i 0 ∧ lg rows i 0 ≤ 255) : ordOk xs := by
  subst h0 h1
  obtain ⟨u0, us0, d0, ds0, e0, rfl, ⟨cs, _, g0⟩, u1, us1, d1, ds1, e1, rfl, ⟨x1, rfl, g1⟩, _⟩ := h
  simp only [List.cons.injEq] at e0
  obtain ⟨rfl, rfl⟩ := e0
  simp only [List.cons.injEq] at e1
  obtain ⟨rfl, rfl⟩ := e1
  obtain ⟨r, rfl, hs⟩ := rep_sl.1 g1
  unfold CK.reps CK.reps CK.reps at g0
  obtain ⟨a, l1, b, l2, _, rfl, _, a2, l3, b2, l4, _, rfl, _, _, rfl⟩ := g0
  exact hw r g1
end Go.Proofs.YtbbjlleaofgddaaGreat
