/- LRun, merged: Ar, As, At0, At. -/
import Derived.Test.YtbbjlleaofgddaaGreatLRep
import Derived.Test.YtbbjlleaofgddaaGreatLRunT
set_option linter.unusedSimpArgs false
set_option linter.unusedVariables false
/- Chapter 42: a run of the link, by numbers. No program. -/
namespace Go.Proofs.YtbbjlleaofgddaaGreat
open Go.RowKit
structure RS where
  s : Nat
  g : Nat
  h : Nat
  e : List Nat
  w : List Nat
  b : List Nat
def RS.start : RS := ⟨0, 0, 0, [], [], []⟩
def lowL : List Nat → Nat → Nat
  | [], _ => 0
  | a :: e, l => if a < l then lowL e l + 1 else 0
def putL : List Nat → Nat → List Nat
  | [], l => [l]
  | a :: e, l => if a < l then a :: putL e l else l :: a :: e
def insL (g : Nat) (e : List Nat) (l : Nat) : List Nat := if l ∉ e ∧ g ≤ l ∧ l < g + 4 then putL e l else e
def runL : List Nat → Nat → Nat
  | [], _ => 0
  | a :: e, g => if a = g then runL e (g + 1) + 1 else 0
def RS.take (x : RS) (l : Nat) : RS := { x with g := x.g + runL (insL x.g x.e l) x.g, e := (insL x.g x.e l).drop (runL (insL x.g x.e l) x.g), b := x.b ++ [x.g + runL (insL x.g x.e l) x.g] }
def RS.hear (x : RS) (a : Nat) : RS := { x with s := max x.s a }
def RS.out (x : RS) : List Nat := (List.range (min 4 (x.h - x.s))).map fun k => x.s + k
def RS.step (n : Nat) (x : RS) (k : Nat) : RS :=
  let i := k / 8 % x.w.length
  let j := k / 8 % x.b.length
  match k % 8 with
  | 0 => { x with w := x.w ++ x.out }
  | 1 => if x.w.length = 0 then x else { x with w := x.w.eraseIdx i }.take (x.w.getD i 0)
  | 2 => if x.w.length = 0 then x else x.take (x.w.getD i 0)
  | 3 => if x.w.length = 0 then x else { x with w := x.w.eraseIdx i }
  | 4 => if x.b.length = 0 then x else { x with b := x.b.eraseIdx j }.hear (x.b.getD j 0)
  | 5 => if x.b.length = 0 then x else x.hear (x.b.getD j 0)
  | 6 => if x.b.length = 0 then x else { x with b := x.b.eraseIdx j }
  | _ => if x.h < n then { x with h := x.h + 1 } else x
def RS.run (n : Nat) (l : List Nat) : RS := l.foldl (RS.step n) RS.start
structure RS.Ok (n : Nat) (x : RS) : Prop where
  sg : x.s ≤ x.g
  gh : x.g ≤ x.h
  hn : x.h ≤ n
  lo : ∀ k ∈ x.e, x.g < k
  hi : ∀ k ∈ x.e, k < x.g + 4
  eh : ∀ k ∈ x.e, k < x.h
  up : x.e.Pairwise (· < ·)
  wh : ∀ k ∈ x.w, k < x.h
  bg : ∀ k ∈ x.b, k ≤ x.g
theorem RS.start_ok (n : Nat) : RS.start.Ok n := ⟨Nat.le_refl _, Nat.le_refl _, Nat.zero_le _, fun k h => (by cases h), fun k h => (by cases h), fun k h => (by cases h), List.Pairwise.nil, fun k h => (by cases h), fun k h => (by cases h)⟩
theorem mem_putL {k l : Nat} : ∀ {e : List Nat}, k ∈ putL e l ↔ k = l ∨ k ∈ e
  | [] => by simp [putL]
  | a :: e => by
    rw [putL]
    split
    · rw [List.mem_cons, mem_putL (e := e), List.mem_cons]
      constructor
      · rintro (h | h | h)
        · exact .inr (.inl h)
        · exact .inl h
        · exact .inr (.inr h)
      · rintro (h | h | h)
        · exact .inr (.inl h)
        · exact .inl h
        · exact .inr (.inr h)
    · simp
theorem putL_eq {l : Nat} : ∀ {e : List Nat}, putL e l = e.take (lowL e l) ++ ([l] ++ e.drop (lowL e l))
  | [] => by simp [putL, lowL]
  | a :: e => by
    rw [putL, lowL]
    split
    · rw [putL_eq (e := e)]; simp
    · simp
theorem putL_up {l : Nat} : ∀ {e : List Nat}, e.Pairwise (· < ·) → l ∉ e → (putL e l).Pairwise (· < ·)
  | [], _, _ => by simp [putL]
  | a :: e, h, hl => by
    rw [List.pairwise_cons] at h
    rw [List.mem_cons, not_or] at hl
    rw [putL]
    split
    · rename_i c
      rw [List.pairwise_cons]
      refine ⟨fun k hk => ?_, putL_up h.2 hl.2⟩
      rcases mem_putL.1 hk with rfl | hk
      · exact c
      · exact h.1 k hk
    · rename_i c
      rw [List.pairwise_cons, List.pairwise_cons]
      refine ⟨fun k hk => ?_, h⟩
      rcases List.mem_cons.1 hk with rfl | hk
      · omega
      · have := h.1 k hk; omega
theorem lowL_spec {l : Nat} : ∀ (e : List Nat), lowL e l ≤ e.length ∧ (∀ (i : Nat) (hi : i < e.length), i < lowL e l → e[i] < l) ∧ ∀ (h : lowL e l < e.length), ¬ e[lowL e l] < l
  | [] => ⟨Nat.le_refl _, fun i hi => (by cases hi), fun h => (by cases h)⟩
  | a :: e => by
    obtain ⟨h1, h2, h3⟩ := lowL_spec (l := l) e
    rw [lowL]
    split
    · rename_i c
      refine ⟨by simp; omega, fun i hi h => ?_, fun h => ?_⟩
      · cases i with
        | zero => exact c
        | succ i => exact h2 i (by simpa using hi) (by omega)
      · exact h3 (by simpa using h)
    · rename_i c
      exact ⟨Nat.zero_le _, fun i hi h => (by omega), fun h => c⟩
theorem mem_insL {g l k : Nat} {e : List Nat} (h : k ∈ insL g e l) : k ∈ e ∨ k = l ∧ g ≤ l ∧ l < g + 4 := by
  unfold insL at h
  split at h
  · rename_i hp
    rcases mem_putL.1 h with h | h
    · exact .inr ⟨h, hp.2⟩
    · exact .inl h
  · exact .inl h
theorem insL_up {g l : Nat} {e : List Nat} (h : e.Pairwise (· < ·)) : (insL g e l).Pairwise (· < ·) := by
  unfold insL
  split
  · rename_i hp; exact putL_up h hp.1
  · exact h
theorem runL_spec : ∀ (e : List Nat) (g : Nat), runL e g ≤ e.length ∧ (∀ (i : Nat) (hi : i < e.length), i < runL e g → e[i] = g + i) ∧ ∀ (h : runL e g < e.length), e[runL e g] ≠ g + runL e g
  | [], g => ⟨Nat.le_refl _, fun i hi => (by cases hi), fun h => (by cases h)⟩
  | a :: e, g => by
    obtain ⟨h1, h2, h3⟩ := runL_spec e (g + 1)
    rw [runL]
    split
    · rename_i c
      refine ⟨by simp; omega, fun i hi h => ?_, fun h => ?_⟩
      · cases i with
        | zero => exact c
        | succ i =>
          have := h2 i (by simpa using hi) (by omega)
          rw [List.getElem_cons_succ, this]; omega
      · have := h3 (by simpa using h)
        rw [List.getElem_cons_succ]; omega
    · rename_i c
      exact ⟨Nat.zero_le _, fun i hi h => (by omega), fun h => c⟩
theorem rest_gt {e : List Nat} {g : Nat} (hu : e.Pairwise (· < ·)) (hlo : ∀ k ∈ e, g ≤ k) : ∀ k ∈ e.drop (runL e g), g + runL e g < k := by
  obtain ⟨h1, h2, h3⟩ := runL_spec e g
  intro k hk
  obtain ⟨i, hi, rfl⟩ := List.getElem_of_mem hk
  rw [List.length_drop] at hi
  rw [List.getElem_drop]
  have hp := List.pairwise_iff_getElem.1 hu
  have hm : g + runL e g < e[runL e g]'(by omega) := by
    have := h3 (by omega)
    rcases Nat.eq_zero_or_pos (runL e g) with z | z
    · have := hlo _ (List.getElem_mem (show runL e g < e.length by omega))
      omega
    · have a := h2 (runL e g - 1) (by omega) (by omega)
      have b := hp (runL e g - 1) (runL e g) (by omega) (by omega) (by omega)
      omega
  rcases Nat.eq_zero_or_pos i with z | z
  · subst z; simpa using hm
  · have := hp (runL e g) (runL e g + i) (by omega) (by omega) (by omega)
    omega
theorem RS.Ok.take_ok {n : Nat} {x : RS} (h : x.Ok n) {l : Nat} (hl : l < x.h) : (x.take l).Ok n := by
  have hin : ∀ k ∈ insL x.g x.e l, x.g ≤ k ∧ k < x.g + 4 ∧ k < x.h := fun k hk => by
    rcases mem_insL hk with q | ⟨rfl, q⟩
    · exact ⟨Nat.le_of_lt (h.lo k q), h.hi k q, h.eh k q⟩
    · exact ⟨q.1, q.2, hl⟩
  have hu := insL_up (g := x.g) (l := l) h.up
  have hr := rest_gt hu (fun k hk => (hin k hk).1)
  obtain ⟨r1, r2, r3⟩ := runL_spec (insL x.g x.e l) x.g
  refine ⟨by show x.s ≤ x.g + _; have := h.sg; omega, ?_, h.hn, fun k hk => hr k hk, fun k hk => ?_, fun k hk => (hin k (List.mem_of_mem_drop hk)).2.2, hu.sublist (List.drop_sublist _ _), h.wh, fun k hk => ?_⟩
  · show x.g + runL (insL x.g x.e l) x.g ≤ x.h
    rcases Nat.eq_zero_or_pos (runL (insL x.g x.e l) x.g) with z | z
    · have := h.gh; omega
    · have a := r2 (runL (insL x.g x.e l) x.g - 1) (by omega) (by omega)
      have b := (hin _ (List.getElem_mem (show runL (insL x.g x.e l) x.g - 1 < (insL x.g x.e l).length by omega))).2.2
      omega
  · have := (hin k (List.mem_of_mem_drop hk)).2.1
    show k < x.g + _ + 4
    omega
  · show k ≤ x.g + _
    rcases List.mem_append.1 hk with q | q
    · have := h.bg k q; omega
    · rw [List.mem_singleton] at q; omega
theorem RS.Ok.hear_ok {n : Nat} {x : RS} (h : x.Ok n) {a : Nat} (ha : a ≤ x.g) : (x.hear a).Ok n :=
  ⟨by show max x.s a ≤ x.g; have := h.sg; omega, h.gh, h.hn, h.lo, h.hi, h.eh, h.up, h.wh, h.bg⟩
theorem getD_mem {l : List Nat} {i : Nat} (h : i < l.length) : l.getD i 0 ∈ l := by
  rw [List.getD_eq_getElem?_getD, List.getElem?_eq_getElem h]; exact List.getElem_mem h
theorem RS.Ok.w_ok {n : Nat} {x : RS} (h : x.Ok n) {w : List Nat} (hw : ∀ k ∈ w, k < x.h) : ({ x with w := w } : RS).Ok n := ⟨h.sg, h.gh, h.hn, h.lo, h.hi, h.eh, h.up, hw, h.bg⟩
theorem RS.Ok.b_ok {n : Nat} {x : RS} (h : x.Ok n) {b : List Nat} (hb : ∀ k ∈ b, k ≤ x.g) : ({ x with b := b } : RS).Ok n := ⟨h.sg, h.gh, h.hn, h.lo, h.hi, h.eh, h.up, h.wh, hb⟩
theorem RS.Ok.step_ok {n : Nat} {x : RS} (h : x.Ok n) (k : Nat) : (x.step n k).Ok n := by
  unfold RS.step
  have iw : x.w.length ≠ 0 → x.w.getD (k / 8 % x.w.length) 0 < x.h := fun q => h.wh _ (getD_mem (Nat.mod_lt _ (by omega)))
  have jb : x.b.length ≠ 0 → x.b.getD (k / 8 % x.b.length) 0 ≤ x.g := fun q => h.bg _ (getD_mem (Nat.mod_lt _ (by omega)))
  dsimp only
  split
  · refine h.w_ok fun k hk => ?_
    rcases List.mem_append.1 hk with q | q
    · exact h.wh k q
    · unfold RS.out at q
      obtain ⟨i, hi, rfl⟩ := List.mem_map.1 q
      rw [List.mem_range] at hi
      omega
  · split
    · exact h
    · rename_i q
      exact RS.Ok.take_ok (h.w_ok fun k hk => h.wh k (List.mem_of_mem_eraseIdx hk)) (iw q)
  · split
    · exact h
    · rename_i q; exact RS.Ok.take_ok h (iw q)
  · split
    · exact h
    · exact h.w_ok fun k hk => h.wh k (List.mem_of_mem_eraseIdx hk)
  · split
    · exact h
    · rename_i q
      exact RS.Ok.hear_ok (h.b_ok fun k hk => h.bg k (List.mem_of_mem_eraseIdx hk)) (jb q)
  · split
    · exact h
    · rename_i q; exact RS.Ok.hear_ok h (jb q)
  · split
    · exact h
    · exact h.b_ok fun k hk => h.bg k (List.mem_of_mem_eraseIdx hk)
  · split
    · rename_i q
      exact ⟨h.sg, by show x.g ≤ x.h + 1; have := h.gh; omega, q, h.lo, h.hi, fun k hk => by show k < x.h + 1; have := h.eh k hk; omega, h.up, fun k hk => by show k < x.h + 1; have := h.wh k hk; omega, h.bg⟩
    · exact h
theorem RS.fold_ok {n : Nat} : ∀ (l : List Nat) {x : RS}, x.Ok n → (l.foldl (RS.step n) x).Ok n
  | [], _, h => h
  | k :: l, _, h => RS.fold_ok l (h.step_ok k)
theorem RS.run_ok (n : Nat) (l : List Nat) : (RS.run n l).Ok n := RS.fold_ok l (RS.start_ok n)
end Go.Proofs.YtbbjlleaofgddaaGreat
/- Chapter 42: what the numbers of a run stand for. No program. -/
namespace Go.Proofs.YtbbjlleaofgddaaGreat
open Go.RowKit
def letR (N : Rows) (k : Nat) : List D := [.i 1, .i 2, .i k, .b false, .i (lg N k 0), .i (lg N k 1), .i (lg N k 2), .i (lg N k 3), .i (lg N k 4), .i (lg N k 5), .l (lr N k 6)]
def ackR (g : Nat) : List D := [.i 2, .i 1, .i g, .b true, .i 0, .i 0, .i 0, .i 0, .i 0, .i 0, .l []]
def lts (N : Rows) (l : List Nat) : Rows := l.map (letR N)
def RS.q (x : RS) : List Nat := (List.range (x.h - x.s)).map fun k => x.s + k
theorem lts_len (N : Rows) (l : List Nat) : (lts N l).length = l.length := List.length_map ..
theorem lg_lets {N : Rows} {l : List Nat} {i : Nat} (h : i < l.length) : lg (lts N l) i 2 = (l[i] : Nat) := by
  rw [lg_cI (by rw [lts_len]; exact h)]
  unfold lts
  rw [List.getElem_map]; rfl
theorem not_at {N : Rows} (h : areNB N = true) {k : Nat} (hk : k < N.length) : noticeL [.i (lg N k 0), .i (lg N k 1), .i (lg N k 2), .i (lg N k 3), .i (lg N k 4), .i (lg N k 5), .l (lr N k 6)] = true := by
  unfold areNB at h
  rw [Bool.and_eq_true, List.all_eq_true] at h
  have := h.2 _ (List.getElem_mem hk)
  unfold ntR0 at this
  simp only [← lg_cI hk, ← lr_cR hk] at this
  exact this
theorem not_len {N : Rows} (h : areNB N = true) : N.length ≤ 200 := by
  unfold areNB at h
  rw [Bool.and_eq_true, decide_eq_true_eq] at h
  exact h.1
theorem letR_car {N : Rows} (h : areNB N = true) {k : Nat} (hk : k < N.length) : carR (letR N k) = true := by
  have e : carR (letR N k) = ((!false && decide (wayP 1 2 ∧ 0 ≤ (k : Int) ∧ (k : Int) < 1000)) && noticeL [.i (lg N k 0), .i (lg N k 1), .i (lg N k 2), .i (lg N k 3), .i (lg N k 4), .i (lg N k 5), .l (lr N k 6)]) := rfl
  have := not_len h
  rw [e, not_at h hk, decide_eq_true ⟨by unfold wayP; omega, by omega, by omega⟩]; rfl
theorem lts_ours {N : Rows} (h : areNB N = true) {l : List Nat} (hl : ∀ k ∈ l, k < N.length) : oursB (lts N l) 1 2 = true := by
  unfold oursB lts
  rw [List.all_eq_true]
  intro x hx
  obtain ⟨k, hk, rfl⟩ := List.mem_map.1 hx
  rw [letR_car h (hl k hk)]; rfl
theorem lts_win {N : Rows} {e : List Nat} {g : Nat} (hu : e.Pairwise (· < ·)) (hlo : ∀ k ∈ e, g ≤ k) (hhi : ∀ k ∈ e, k < g + 4) : Win g (lts N e) := by
  refine ⟨fun i hi => ?_, fun i hi => ?_, fun i j hij hj => ?_⟩
  · rw [lts_len] at hi
    rw [lg_lets hi]
    have := hlo _ (List.getElem_mem hi); omega
  · rw [lts_len] at hi
    rw [lg_lets hi]
    have := hhi _ (List.getElem_mem hi); omega
  · rw [lts_len] at hj
    rw [lg_lets (show i < e.length by omega), lg_lets hj]
    have := List.pairwise_iff_getElem.1 hu i j (by omega) hj hij
    omega
theorem lts_low {N : Rows} {e : List Nat} (l : Nat) : lowS (lts N e) l = lowL e l := by
  obtain ⟨a, b, c⟩ := lowL_spec (l := l) e
  refine (low_uniq2 (by rw [lts_len]; exact a) (fun k hk => ?_) (fun h => ?_)).symm
  · rw [lg_lets (show k < e.length by omega)]
    have := b k (by omega) hk; omega
  · rw [lts_len] at h
    rw [lg_lets h]
    have := c h; omega
theorem lts_is {N : Rows} {e : List Nat} (hu : risS (lts N e) = true) (l : Nat) : isS (lts N e) l = decide (l ∈ e) := by
  rw [Bool.eq_iff_iff, isS_iff hu, decide_eq_true_eq]
  constructor
  · rintro ⟨k, hk, h⟩
    rw [lts_len] at hk
    rw [lg_lets hk] at h
    have : e[k] = l := by omega
    rw [← this]; exact List.getElem_mem hk
  · intro h
    obtain ⟨k, hk, rfl⟩ := List.getElem_of_mem h
    exact ⟨k, by rw [lts_len]; exact hk, lg_lets hk⟩
theorem lts_ins {N : Rows} {e : List Nat} {g : Nat} (hu : risS (lts N e) = true) (l : Nat) : insR g (lts N e) l (letR N l) = lts N (insL g e l) := by
  have hp : putB g (lts N e) l = decide (l ∉ e ∧ g ≤ l ∧ l < g + 4) := by
    unfold putB
    rw [lts_is hu, Bool.eq_iff_iff]
    simp only [Bool.and_eq_true, Bool.not_eq_true', decide_eq_true_eq, decide_eq_false_iff_not]
    constructor
    · rintro ⟨a, b, c⟩; exact ⟨a, by omega, by omega⟩
    · rintro ⟨a, b, c⟩; exact ⟨a, by omega, by omega⟩
  unfold insR insL
  rw [hp]
  by_cases h : l ∉ e ∧ g ≤ l ∧ l < g + 4
  · rw [decide_eq_true h, if_pos rfl, if_pos h, lts_low, putL_eq]
    unfold lts
    rw [List.map_append, List.map_append, List.map_take, List.map_drop]; rfl
  · rw [decide_eq_false h, if_neg (by decide), if_neg h]
theorem lts_run {N : Rows} {e : List Nat} {g : Nat} : runE (lts N e) g = runL e g := by
  obtain ⟨a, b, c⟩ := runL_spec e g
  refine (run_uniq (by rw [lts_len]; exact a) (fun k hk => ?_) (fun h => ?_)).symm
  · rw [lg_lets (show k < e.length by omega)]
    have := b k (by omega) hk; omega
  · rw [lts_len] at h
    rw [lg_lets h]
    have := c h; omega
theorem lts_drop (N : Rows) (l : List Nat) (k : Nat) : (lts N l).drop k = lts N (l.drop k) := by unfold lts; rw [List.map_drop]
theorem lts_take (N : Rows) (l : List Nat) (k : Nat) : (lts N l).take k = lts N (l.take k) := by unfold lts; rw [List.map_take]
theorem lts_app (N : Rows) (l m : List Nat) : lts N l ++ lts N m = lts N (l ++ m) := by unfold lts; rw [List.map_append]
theorem letR_agr {N : Rows} {e : List Nat} (l : Nat) : Agr (lts N e) l (letR N l) := by
  intro x hx h
  unfold lts at hx
  obtain ⟨k, hk, rfl⟩ := List.mem_map.1 hx
  have : (k : Int) = l := h
  have : k = l := by omega
  rw [this]
variable {n : Nat} {x : RS} {N : Rows}
theorem RS.Ok.q_len (_ : x.Ok n) : x.q.length = x.h - x.s := by unfold RS.q; rw [List.length_map, List.length_range]
theorem q_get (x : RS) {i : Nat} (h : i < x.h - x.s) : x.q[i]? = some (x.s + i) := by
  unfold RS.q
  rw [List.getElem?_map, List.getElem?_range h]; rfl
theorem RS.Ok.q_mem (h : x.Ok n) : ∀ k ∈ x.q, k < x.h := by
  intro k hk
  unfold RS.q at hk
  obtain ⟨i, hi, rfl⟩ := List.mem_map.1 hk
  rw [List.mem_range] at hi
  omega
theorem alk_empty : alkB [] = true := rfl
theorem RS.Ok.outB (h : x.Ok N.length) (hN : areNB N = true) : outB x.s (lts N x.q) = true := by
  have hn := not_len hN
  have h1 := h.sg
  have h2 := h.gh
  have h3 := h.hn
  refine out_iff.2 ⟨⟨by omega, by omega, by rw [lts_len, h.q_len]; omega⟩, alk_of (lts_ours hN (fun k hk => by have := h.q_mem k hk; omega)), fun i hi => ?_⟩
  rw [lts_len] at hi
  rw [lg_lets hi]
  have e := q_get x (i := i) (by rw [← h.q_len]; exact hi)
  rw [List.getElem?_eq_getElem hi, Option.some.injEq] at e
  rw [e]; omega
theorem RS.Ok.inB (h : x.Ok N.length) (hN : areNB N = true) : inB x.g (lts N x.e) = true := by
  have hn := not_len hN
  have h2 := h.gh
  have h3 := h.hn
  refine in_iff.2 ⟨⟨by omega, by omega⟩, alk_of (lts_ours hN (fun k hk => by have := h.eh k hk; omega)), ?_, fun i hi => ?_⟩
  · have := lts_win (N := N) (g := x.g + 1) h.up (fun k hk => h.lo k hk) (fun k hk => by have := h.hi k hk; omega)
    exact this
  · rw [lts_len] at hi
    rw [lg_lets hi]
    have := h.hi _ (List.getElem_mem hi); omega
theorem ackR_ack {g : Nat} (h : g ≤ 1000) : ackL (ackR g) = true := by
  have e : ackL (ackR g) = ((true && decide (wayP 2 1 ∧ 0 ≤ (g : Int) ∧ (g : Int) ≤ 1000)) && nsL [.i 0, .i 0, .i 0, .i 0, .i 0, .i 0, .l [], .i 0, .i 0, .i 0, .i 0, .i 0, .i 0, .l []]) := rfl
  rw [e, (ns14 _ _ _ _ _ _ _ _ _ _ _ _ _ _).2 rfl, decide_eq_true ⟨by unfold wayP; omega, by omega, by omega⟩]; rfl
theorem q_drop (x : RS) (k : Nat) : x.q.drop k = ({ x with s := x.s + k } : RS).q := by
  unfold RS.q
  rw [← List.map_drop]
  apply List.ext_getElem?
  intro i
  simp only [List.getElem?_map, List.getElem?_drop]
  by_cases h : k + i < x.h - x.s
  · rw [List.getElem?_range h, List.getElem?_range (by show i < x.h - (x.s + k); omega)]
    simp; omega
  · rw [List.getElem?_eq_none (by rw [List.length_range]; omega), List.getElem?_eq_none (by rw [List.length_range]; show x.h - (x.s + k) ≤ i; omega)]; rfl
theorem q_more (x : RS) (h : x.s ≤ x.h) : x.q ++ [x.h] = ({ x with h := x.h + 1 } : RS).q := by
  unfold RS.q
  rw [show ({ x with h := x.h + 1 } : RS).h - ({ x with h := x.h + 1 } : RS).s = (x.h - x.s) + 1 by show x.h + 1 - x.s = _; omega, List.range_succ, List.map_append]
  simp only [List.map_cons, List.map_nil]
  congr 2
  omega
theorem out_q (x : RS) : x.out = x.q.take 4 := by
  unfold RS.out RS.q
  rw [← List.map_take, List.take_range]
end Go.Proofs.YtbbjlleaofgddaaGreat
/- Chapter 42: cells of the letters of a run. No program. -/
namespace Go.Proofs.YtbbjlleaofgddaaGreat
open Go.RowKit
theorem lg_sub {r : Rows} {lo hi : Int} {i : Nat} (h : i < (subR r lo hi).length) (hlo : 0 ≤ lo) (j : Nat) : lg r (lo + (i : Int)) j = lg (subR r lo hi) i j := by
  obtain ⟨k, rfl⟩ := Int.eq_ofNat_of_zero_le hlo
  unfold subR at *
  rw [List.length_take] at h
  unfold lg cellAt
  rw [← Int.natCast_add, Int.toNat_natCast, Int.toNat_natCast, Int.toNat_natCast, List.getElem?_take_of_lt (by rw [Int.toNat_natCast] at h; omega), List.getElem?_drop]
theorem lr_sub {r : Rows} {lo hi : Int} {i : Nat} (h : i < (subR r lo hi).length) (hlo : 0 ≤ lo) (j : Nat) : lr r (lo + (i : Int)) j = lr (subR r lo hi) i j := by
  obtain ⟨k, rfl⟩ := Int.eq_ofNat_of_zero_le hlo
  unfold subR at *
  rw [List.length_take] at h
  unfold lr cellAt
  rw [← Int.natCast_add, Int.toNat_natCast, Int.toNat_natCast, Int.toNat_natCast, List.getElem?_take_of_lt (by rw [Int.toNat_natCast] at h; omega), List.getElem?_drop]
theorem lts_get {N : Rows} {l : List Nat} {p : Nat} (h : p < l.length) : (lts N l)[(p : Int).toNat]? = some (letR N (l.getD p 0)) := by
  unfold lts
  rw [Int.toNat_natCast, List.getElem?_map, List.getD_eq_getElem?_getD, List.getElem?_eq_getElem h]; rfl
theorem lts_lg {N : Rows} {l : List Nat} {p : Nat} (h : p < l.length) (j : Nat) : lg (lts N l) p j = cI (letR N (l.getD p 0)) j := by
  unfold lg cellAt; rw [lts_get h]; rfl
theorem lts_lb {N : Rows} {l : List Nat} {p : Nat} (h : p < l.length) (j : Nat) : lb (lts N l) p j = cB (letR N (l.getD p 0)) j := by
  unfold lb cellAt; rw [lts_get h]; rfl
theorem lts_lr {N : Rows} {l : List Nat} {p : Nat} (h : p < l.length) (j : Nat) : lr (lts N l) p j = cR (letR N (l.getD p 0)) j := by
  unfold lr cellAt; rw [lts_get h]; rfl
def acks (b : List Nat) : Rows := b.map ackR
theorem acks_len (b : List Nat) : (acks b).length = b.length := List.length_map ..
theorem acks_get {l : List Nat} {p : Nat} (h : p < l.length) : (acks l)[(p : Int).toNat]? = some (ackR (l.getD p 0)) := by
  unfold acks
  rw [Int.toNat_natCast, List.getElem?_map, List.getD_eq_getElem?_getD, List.getElem?_eq_getElem h]; rfl
theorem acks_lg {l : List Nat} {p : Nat} (h : p < l.length) (j : Nat) : lg (acks l) p j = cI (ackR (l.getD p 0)) j := by
  unfold lg cellAt; rw [acks_get h]; rfl
theorem acks_lb {l : List Nat} {p : Nat} (h : p < l.length) (j : Nat) : lb (acks l) p j = cB (ackR (l.getD p 0)) j := by
  unfold lb cellAt; rw [acks_get h]; rfl
theorem acks_lr {l : List Nat} {p : Nat} (h : p < l.length) (j : Nat) : lr (acks l) p j = cR (ackR (l.getD p 0)) j := by
  unfold lr cellAt; rw [acks_get h]; rfl
theorem cut_erase (r : Rows) {p : Nat} (h : p < r.length) : subR r 0 (p : Int) ++ subR r ((p : Int) + 1) ((r.length : Nat) : Int) = r.eraseIdx p := by
  rw [subR_end, subR_zero, show ((p : Int) + 1).toNat = p + 1 by omega, List.eraseIdx_eq_take_drop_succ]
theorem erase_map {α β : Type} (f : α → β) : ∀ (l : List α) (p : Nat), (l.map f).eraseIdx p = (l.eraseIdx p).map f
  | [], p => by simp
  | a :: l, 0 => by simp
  | a :: l, p + 1 => by simp [erase_map f l p]
theorem lts_erase (N : Rows) (l : List Nat) (p : Nat) : (lts N l).eraseIdx p = lts N (l.eraseIdx p) := by unfold lts; rw [erase_map]
theorem acks_erase (l : List Nat) (p : Nat) : (acks l).eraseIdx p = acks (l.eraseIdx p) := by unfold acks; rw [erase_map]
theorem acks_app (l : List Nat) (a : Nat) : acks l ++ [ackR a] = acks (l ++ [a]) := by unfold acks; rw [List.map_append]; rfl
theorem ntR_letR {N : Rows} (hN : ∀ row ∈ N, notWf row) {k : Nat} (hk : k < N.length) : ntR (letR N k) = N[k] := by
  have := (hN _ (List.getElem_mem hk)).1
  rw [this]
  simp only [← lg_cI hk, ← lr_cR hk]
  rfl
theorem told_eq {N : Rows} (hN : ∀ row ∈ N, notWf row) {e : List Nat} {g : Nat} (hg : g + runL e g ≤ N.length) : N.take g ++ ((lts N e).take (runL e g)).map ntR = N.take (g + runL e g) := by
  obtain ⟨h1, h2, _⟩ := runL_spec e g
  rw [List.take_add]
  congr 1
  unfold lts
  apply List.ext_getElem
  · simp only [List.length_map, List.length_take, List.length_drop]; omega
  · intro i h3 h4
    simp only [List.length_map, List.length_take] at h3
    simp only [List.getElem_map, List.getElem_take, List.getElem_drop]
    rw [h2 i (by omega) (by omega), ntR_letR hN (by omega)]
/-! A script -/
def scr (S : Rows) (i : Nat) : List Nat := (List.range i).map fun (k : Nat) => (lg S k 0).toNat
theorem scr_next (S : Rows) (i : Nat) : scr S (i + 1) = scr S i ++ [(lg S i 0).toNat] := by
  unfold scr; rw [List.range_succ, List.map_append]; rfl
theorem run_next (n : Nat) (S : Rows) (i : Nat) : RS.run n (scr S (i + 1)) = (RS.run n (scr S i)).step n (lg S i 0).toNat := by
  unfold RS.run; rw [scr_next, List.foldl_append]; rfl
theorem step_len {n : Nat} (x : RS) (k : Nat) : (x.step n k).w.length ≤ x.w.length + 4 ∧ (x.step n k).b.length ≤ x.b.length + 1 := by
  have e1 : ∀ (l : List Nat) i, (l.eraseIdx i).length ≤ l.length := fun l i => List.length_eraseIdx_le _ _
  unfold RS.step
  dsimp only
  split
  · refine ⟨?_, by show x.b.length ≤ _; omega⟩
    show (x.w ++ x.out).length ≤ _
    unfold RS.out
    rw [List.length_append, List.length_map, List.length_range]; omega
  · split
    · omega
    · refine ⟨Nat.le_trans (e1 _ _) (by omega), ?_⟩
      show (x.b ++ [_]).length ≤ _
      rw [List.length_append]; simp
  · split
    · omega
    · refine ⟨by show x.w.length ≤ _; omega, ?_⟩
      show (x.b ++ [_]).length ≤ _
      rw [List.length_append]; simp
  · split
    · omega
    · exact ⟨Nat.le_trans (e1 _ _) (by omega), by show x.b.length ≤ _; omega⟩
  · split
    · omega
    · exact ⟨by show x.w.length ≤ _; omega, Nat.le_trans (e1 _ _) (by omega)⟩
  · split
    · omega
    · exact ⟨by show x.w.length ≤ _; omega, by show x.b.length ≤ _; omega⟩
  · split
    · omega
    · exact ⟨by show x.w.length ≤ _; omega, Nat.le_trans (e1 _ _) (by omega)⟩
  · split
    · exact ⟨by show x.w.length ≤ _; omega, by show x.b.length ≤ _; omega⟩
    · omega
theorem run_len (n : Nat) (S : Rows) : ∀ i, (RS.run n (scr S i)).w.length ≤ 4 * i ∧ (RS.run n (scr S i)).b.length ≤ i
  | 0 => ⟨Nat.le_refl _, Nat.le_refl _⟩
  | i + 1 => by
    obtain ⟨a, b⟩ := run_len n S i
    obtain ⟨c, d⟩ := step_len (n := n) (RS.run n (scr S i)) (lg S i 0).toNat
    rw [run_next]
    omega
theorem tm8 (K : Nat) : (K : Int).tmod 8 = ((K % 8 : Nat) : Int) := rfl
theorem td8 (K : Nat) : (K : Int).tdiv 8 = ((K / 8 : Nat) : Int) := rfl
theorem tmN (K n : Nat) : (K : Int).tmod (n : Int) = ((K % n : Nat) : Int) := rfl
end Go.Proofs.YtbbjlleaofgddaaGreat
/- Chapter 42: what Run answers. -/
namespace Go.Proofs.YtbbjlleaofgddaaGreat
open Go.RowKit
theorem lsAre_two {ρ : Env} {q : OpR} {l1 l2 : NL} {ds : List D} {s1 s2 : S0} {x1 x2 : X} (h1 : lrows q.2.1 l1.e l1.ks s1 = some x1) (e1 : x1.ev ρ = l1.rows ds) (h2 : lrows q.2.1 l2.e l2.ks s2 = some x2) (e2 : x2.ev ρ = l2.rows ds)
    (hne : ∀ id v v', s1 = .own id v → s2 = .own id v' → False) : LsAre ρ q [l1, l2] ds [s1, s2] := by
  refine ⟨rfl, fun k l s hk hs => ?_, fun i j id v v' hi hj => ?_⟩
  · match k with
    | 0 =>
      simp only [List.getElem?_cons_zero, Option.some.injEq] at hk hs
      subst hk hs
      exact ⟨x1, h1, e1⟩
    | 1 =>
      simp only [List.getElem?_cons_succ, List.getElem?_cons_zero, Option.some.injEq] at hk hs
      subst hk hs
      exact ⟨x2, h2, e2⟩
    | k + 2 => simp at hk
  · match i, j with
    | 0, 0 => rfl
    | 1, 1 => rfl
    | 0, 1 =>
      simp only [List.getElem?_cons_succ, List.getElem?_cons_zero, Option.some.injEq] at hi hj
      exact (hne _ _ _ hi hj).elim
    | 1, 0 =>
      simp only [List.getElem?_cons_succ, List.getElem?_cons_zero, Option.some.injEq] at hi hj
      exact (hne _ _ _ hj hi).elim
    | i + 2, _ => simp at hi
    | 0, j + 2 => simp at hj
    | 1, j + 2 => simp at hj
def runOB (N S : Rows) : Bool := areNB N && (decide (S.length ≤ 1000) && decide (∀ i, i < S.length → 0 ≤ lg S i 0))
def runO (ds : List D) : Bool := runOB (rAt ds 0) (rAt ds 1)
def runX (ds : List D) : RS := RS.run (rAt ds 0).length (scr (rAt ds 1) (rAt ds 1).length)
def runSq (ds : List D) : Int := if runO ds then (runX ds).s else 0
def runEr (ds : List D) : Int := if runO ds then 0 else 1
def runQ (ds : List D) : Rows := if runO ds then lts (rAt ds 0) (runX ds).q else []
def runT (ds : List D) : Rows := if runO ds then (rAt ds 0).take (runX ds).g else []
def nlRQ : NL := ⟨31, letK, 0, runQ⟩
def nlRT : NL := ⟨29, notK, 1, runT⟩
def runRes (_w0 : World) (ds : List D) (vs : List Value) (u : Value) : Prop := ∃ a b, vs = [a, b] ∧ u = .tuple #[.agg #[.int .i64 (runSq ds), a], b, .int .i64 (runEr ds)]
def scrOk (ds : List D) : Prop := ∀ i, i < (rAt ds 1).length → lg (rAt ds 1) i 0 ≤ 9223372036854775807
theorem run_den {ρ : Env} {σ : As} {s1 s2 : S0} {k e : E} {u : Value} (h : V.den ρ σ (.tup [.agg [.z (.int .i64 k), .z s1], .one (.z s2), .one (.z (.int .i64 e))]) u) :
    ∃ v1 v2, S0.den ρ σ s1 v1 ∧ S0.den ρ σ s2 v2 ∧ u = .tuple #[.agg #[.int .i64 (k.ev ρ), v1], v2, .int .i64 (e.ev ρ)] := by
  obtain ⟨vs, h, rfl⟩ := h
  obtain ⟨w1, vs, rfl, h1, h⟩ := DL.cons_inv h
  obtain ⟨w2, vs, rfl, h2, h⟩ := DL.cons_inv h
  obtain ⟨w3, vs, rfl, h3, h⟩ := DL.cons_inv h
  obtain rfl := DL.nil_inv h
  obtain rfl : w3 = .int .i64 (e.ev ρ) := h3
  obtain ⟨us, h1, rfl⟩ := h1
  obtain ⟨v1, us, rfl, g1, h1⟩ := DL.cons_inv h1
  obtain ⟨v2, us, rfl, g2, h1⟩ := DL.cons_inv h1
  obtain rfl := DL.nil_inv h1
  obtain rfl : v1 = .int .i64 (k.ev ρ) := g1
  exact ⟨v2, w2, g2, h2, rfl⟩
theorem run_end {ρ : Env} {w0 : World} {ds : List D} {s1 s2 : S0} {k e : E} {m : Mem} {n : Nat} {x1 x2 : X} (h1 : lrows m 31 letK s1 = some x1) (e1 : x1.ev ρ = runQ ds) (h2 : lrows m 29 notK s2 = some x2) (e2 : x2.ev ρ = runT ds)
    (hne : ∀ id v v', s1 = .own id v → s2 = .own id v' → False) (hk : k.ev ρ = runSq ds) (he : e.ev ρ = runEr ds) :
    ∃ ss, LsAre ρ ((.tup [.agg [.z (.int .i64 k), .z s1], .one (.z s2), .one (.z (.int .i64 e))]), m, n) [nlRQ, nlRT] ds ss ∧ ∀ (σ : As) u, ρ.w = w0 → V.den ρ σ (.tup [.agg [.z (.int .i64 k), .z s1], .one (.z s2), .one (.z (.int .i64 e))]) u → ∃ vs, DL (S0.den ρ σ) ss vs ∧ runRes w0 ds vs u := by
  refine ⟨[s1, s2], lsAre_two (l1 := nlRQ) (l2 := nlRT) h1 e1 h2 e2 hne, fun σ u _ hu => ?_⟩
  obtain ⟨v1, v2, g1, g2, rfl⟩ := run_den hu
  rw [hk, he]
  exact ⟨[v1, v2], ⟨g1, g2, trivial⟩, v1, v2, rfl, rfl⟩
theorem Q5b170 (W : World) (ds l : List D) : (envOf Q5 W ds).fb 170 l = noticeL l := by simp only [envOf, Q5, Q4, Q3, Q2, Q1, N4]
theorem Q5b202 (W : World) (ds l : List D) : (envOf Q5 W ds).fb 202 l = areNL l := by simp only [envOf, Q5, Q4, Q3]
theorem are_one (r : Rows) : areNL [.l r] = areNB r := rfl
structure Inv (N S : Rows) (i : Nat) (v : LV) : Prop where
  le : i ≤ S.length
  i0 : v.i 0 = i
  sq : v.i 15 = (RS.run N.length (scr S i)).s
  qu : v.d 4 = lts N (RS.run N.length (scr S i)).q
  got : v.i 6 = (RS.run N.length (scr S i)).g
  lo : 0 ≤ v.i 9
  early : subR (v.d 8) (v.i 9) (v.i 10) = lts N (RS.run N.length (scr S i)).e
  way : v.d 2 = lts N (RS.run N.length (scr S i)).w
  back : v.d 12 = acks (RS.run N.length (scr S i)).b
  told : v.d 14 = N.take (RS.run N.length (scr S i)).g
  left : v.d 5 = N.drop (RS.run N.length (scr S i)).h
theorem ge_dec (a b : Int) : cmpEv .geq a b = decide (a ≥ b) := rfl
theorem lss_dec (a b : Int) : cmpEv .lss a b = decide (a < b) := rfl
theorem step_kind {N R : Rows} {i : Nat} {v : LV} (h : Inv N R i v) (hi : i < R.length) {y : RS} (hy : (RS.run N.length (scr R i)).step N.length (lg R i 0).toNat = y) {u : LV} (i0 : u.i 0 = (i : Int) + 1) (sq : u.i 15 = y.s) (qu : u.d 4 = lts N y.q) (got : u.i 6 = y.g) (lo : 0 ≤ u.i 9) (early : subR (u.d 8) (u.i 9) (u.i 10) = lts N y.e)
    (way : u.d 2 = lts N y.w) (back : u.d 12 = acks y.b) (told : u.d 14 = N.take y.g) (left : u.d 5 = N.drop y.h) : Inv N R (i + 1) u := by
  have e : RS.run N.length (scr R (i + 1)) = y := by rw [run_next, hy]
  exact ⟨by omega, by rw [i0]; rfl, by rw [e]; exact sq, by rw [e]; exact qu, by rw [e]; exact got, lo, by rw [e]; exact early, by rw [e]; exact way, by rw [e]; exact back, by rw [e]; exact told, by rw [e]; exact left⟩
theorem sub_take4 (r : Rows) : subR r 0 (min 4 ((r.length : Nat) : Int)) = r.take 4 := by
  unfold subR
  rw [Int.toNat_zero, List.drop_zero, Nat.sub_zero]
  rcases Nat.lt_or_ge r.length 4 with h | h
  · rw [List.take_of_length_le (by omega), List.take_of_length_le (by omega)]
  · rw [show (min 4 ((r.length : Nat) : Int)).toNat = 4 by omega]
section
variable {n K : Nat} {x : RS}
theorem stepc0 (h : K % 8 = 0) : x.step n K = { x with w := x.w ++ x.out } := by unfold RS.step; rw [h]; rfl
theorem stepc1 (h : K % 8 = 1) (h0 : x.w.length ≠ 0) : x.step n K = ({ x with w := x.w.eraseIdx (K / 8 % x.w.length) } : RS).take (x.w.getD (K / 8 % x.w.length) 0) := by unfold RS.step; rw [h]; exact if_neg h0
theorem stepc2 (h : K % 8 = 2) (h0 : x.w.length ≠ 0) : x.step n K = x.take (x.w.getD (K / 8 % x.w.length) 0) := by unfold RS.step; rw [h]; exact if_neg h0
theorem stepc3 (h : K % 8 = 3) (h0 : x.w.length ≠ 0) : x.step n K = { x with w := x.w.eraseIdx (K / 8 % x.w.length) } := by unfold RS.step; rw [h]; exact if_neg h0
theorem stepc4 (h : K % 8 = 4) (h0 : x.b.length ≠ 0) : x.step n K = ({ x with b := x.b.eraseIdx (K / 8 % x.b.length) } : RS).hear (x.b.getD (K / 8 % x.b.length) 0) := by unfold RS.step; rw [h]; exact if_neg h0
theorem stepc5 (h : K % 8 = 5) (h0 : x.b.length ≠ 0) : x.step n K = x.hear (x.b.getD (K / 8 % x.b.length) 0) := by unfold RS.step; rw [h]; exact if_neg h0
theorem stepc6 (h : K % 8 = 6) (h0 : x.b.length ≠ 0) : x.step n K = { x with b := x.b.eraseIdx (K / 8 % x.b.length) } := by unfold RS.step; rw [h]; exact if_neg h0
theorem stepc7 (h : K % 8 = 7) (h0 : x.h < n) : x.step n K = { x with h := x.h + 1 } := by unfold RS.step; rw [h]; exact if_pos h0
theorem stepw (h : K % 8 = 1 ∨ K % 8 = 2 ∨ K % 8 = 3) (h0 : x.w.length = 0) : x.step n K = x := by unfold RS.step; rcases h with h | h | h <;> (rw [h]; exact if_pos h0)
theorem stepb (h : K % 8 = 4 ∨ K % 8 = 5 ∨ K % 8 = 6) (h0 : x.b.length = 0) : x.step n K = x := by unfold RS.step; rcases h with h | h | h <;> (rw [h]; exact if_pos h0)
theorem stepl (h : K % 8 = 7) (h0 : ¬ x.h < n) : x.step n K = x := by unfold RS.step; rw [h]; exact if_neg h0
end
set_option maxHeartbeats 4000000 in
theorem gRun : GivesN Tryz.prog 27 [nots, ints] [nlRQ, nlRT] scrOk runRes := by
  refine fn_givesN Q5 (by kernel_rfl) (fun ρ h => ctX2_ok (Sees.of h 230)) (by kernel_rfl) trRun_is trRun_low (by decide) (fun w0 vals ds hr hok => ?_)
  have hwf := rep_args hr
  have wN := rAt_wf (j := 0) hwf rfl
  have wS := rAt_wf (j := 1) hwf rfl
  have hN : ∀ row ∈ rAt ds 0, notWf row := fun row hrow => not_row (wN.2 row hrow)
  have hlS := wS.1
  have hX : runX ds = RS.run (rAt ds 0).length (scr (rAt ds 1) (rAt ds 1).length) := rfl
  have hOk : runO ds = runOB (rAt ds 0) (rAt ds 1) := rfl
  have hQ : runO ds = true → runQ ds = lts (rAt ds 0) (runX ds).q := fun h => by unfold runQ; rw [h, if_pos rfl]
  have hT : runO ds = true → runT ds = (rAt ds 0).take (runX ds).g := fun h => by unfold runT; rw [h, if_pos rfl]
  unfold scrOk at hok
  clear hr hwf wN wS
  simp only [trRun]
  generalize e0 : rAt ds 0 = N at *
  generalize e1 : rAt ds 1 = R at *
  refine TT.sat_join (fun u => u.b 4 = !runOB N R) (fun u hu => ?_) (fun u hu hU => ?_)
  · simp only [TT.sat_ret, TT.sat_ite, TT.sat_ob, TT.sat_next, TT.sat_stuck, put_i, put_b, put_d, put_fi, put_fb, put_fd, Ob.ok, B.ev, E.ev, X.ev, AL.ev, cmp_t, cmp_f, arEv, V.plain, V2.plain, S.plain, S0.plain, V.val, V2.val, S.val, S0.val, bV, iV, List.all_cons, List.all_nil, Bool.and_true, Bool.and_self, envOf_i, envOf_b, envOf_d, List.map_cons, List.map_nil, true_and, Bool.not_eq_true', Bool.not_eq_false', Bool.not_not, Bool.and_eq_true, and_f, cell_lg, cell_lb, cell_lr, cmpP, val_i, val_b, val_d, aget, Nat.reduceBEq, beq_self_eq_true, Bool.false_eq_true, if_true, if_false, Nat.reduceLT, Nat.reduceSub, Nat.sub_self, Nat.lt_irrefl, hu, e0, e1, Q5b202, are_one]
    refine ⟨fun h => ?_, fun h => ⟨fun h2 => ?_, fun h2 => ?_⟩⟩
    · unfold runOB; rw [h]; rfl
    · unfold runOB; rw [decide_eq_false (show ¬ R.length ≤ 1000 by omega), Bool.false_and, Bool.and_false]; rfl
    refine TT.sat_loop (fun v => ∃ i : Nat, v.i 0 = i ∧ i ≤ R.length ∧ ∀ k : Nat, k < i → 0 ≤ lg R k 0) (fun v => R.length - (v.i 0).toNat) ⟨0, by simp [val_i, aget, E.ev], by omega, fun k hk => by omega⟩ (fun v hv => ?_)
    obtain ⟨i, i0, i1, i2⟩ := hv
    simp only [TT.sat_ret, TT.sat_ite, TT.sat_ob, TT.sat_next, TT.sat_stuck, put_i, put_b, put_d, put_fi, put_fb, put_fd, Ob.ok, B.ev, E.ev, X.ev, AL.ev, cmp_t, cmp_f, arEv, V.plain, V2.plain, S.plain, S0.plain, V.val, V2.val, S.val, S0.val, bV, iV, List.all_cons, List.all_nil, Bool.and_true, Bool.and_self, envOf_i, envOf_b, envOf_d, List.map_cons, List.map_nil, true_and, Bool.not_eq_true', Bool.not_eq_false', Bool.not_not, Bool.and_eq_true, and_f, cell_lg, cell_lb, cell_lr, cmpP, val_i, val_b, val_d, aget, Nat.reduceBEq, beq_self_eq_true, Bool.false_eq_true, if_true, if_false, Nat.reduceLT, Nat.reduceSub, Nat.sub_self, Nat.lt_irrefl, i0, e1]
    rw [if_neg (by decide), if_neg (by decide)]
    refine ⟨fun hc => ⟨by omega, hc, fun hn => ?_, fun hp => ?_⟩, fun hc => ?_⟩
    · rw [ge_dec, decide_eq_true (by omega)]
      unfold runOB
      rw [decide_eq_false (p := ∀ i, i < R.length → 0 ≤ lg R i 0) (fun q => by have := q i (by omega); omega), Bool.and_false, Bool.and_false]; rfl
    · rw [wrap_in ((i : Int) + 1) (by omega) (by omega)]
      refine ⟨⟨i + 1, rfl, by omega, fun k hk => ?_⟩, by omega⟩
      by_cases e : k = i
      · subst e; omega
      · exact i2 k (by omega)
    · unfold runOB
      rw [h, decide_eq_true (show R.length ≤ 1000 by omega), decide_eq_true (p := ∀ i, i < R.length → 0 ≤ lg R i 0) (fun k hk => i2 k (by omega))]; rfl
  simp only [TT.sat_ret, TT.sat_ite, TT.sat_ob, TT.sat_next, TT.sat_stuck, put_i, put_b, put_d, put_fi, put_fb, put_fd, Ob.ok, B.ev, E.ev, X.ev, AL.ev, cmp_t, cmp_f, arEv, V.plain, V2.plain, S.plain, S0.plain, V.val, V2.val, S.val, S0.val, bV, iV, List.all_cons, List.all_nil, Bool.and_true, Bool.and_self, envOf_i, envOf_b, envOf_d, List.map_cons, List.map_nil, true_and, Bool.not_eq_true', Bool.not_eq_false', Bool.not_not, Bool.and_eq_true, and_f, cell_lg, cell_lb, cell_lr, cmpP, val_i, val_b, val_d, aget, Nat.reduceBEq, beq_self_eq_true, Bool.false_eq_true, if_true, if_false, Nat.reduceLT, Nat.reduceSub, Nat.sub_self, Nat.lt_irrefl, hu, hU]
  refine ⟨fun h => ?_, fun h => ?_⟩
  · have hf : runO ds = false := by rw [hOk]; simpa using h
    exact run_end (x1 := .nil) (x2 := .nil) rfl (by unfold runQ; rw [hf]; rfl) rfl (by unfold runT; rw [hf]; rfl) (fun id v v' h => by cases h) (by unfold runSq; rw [hf]; rfl) (by unfold runEr; rw [hf]; rfl)
  have hO : runOB N R = true := by simpa using h
  have hO' : runO ds = true := by rw [hOk]; exact hO
  unfold runOB at hO
  simp only [Bool.and_eq_true, decide_eq_true_eq] at hO
  obtain ⟨hA, hlR, hpos⟩ := hO
  have hnl := not_len hA
  refine TT.sat_loop (fun v => ∃ i : Nat, Inv N R i v) (fun v => R.length - (v.i 0).toNat) ⟨0, ?_⟩ (fun v hv => ?_)
  · refine ⟨Nat.zero_le _, ?_, ?_, ?_, ?_, ?_, ?_, ?_, ?_, ?_, ?_⟩
    all_goals simp only [TT.sat_ret, TT.sat_ite, TT.sat_ob, TT.sat_next, TT.sat_stuck, put_i, put_b, put_d, put_fi, put_fb, put_fd, Ob.ok, B.ev, E.ev, X.ev, AL.ev, cmp_t, cmp_f, arEv, V.plain, V2.plain, S.plain, S0.plain, V.val, V2.val, S.val, S0.val, bV, iV, List.all_cons, List.all_nil, Bool.and_true, Bool.and_self, envOf_i, envOf_b, envOf_d, List.map_cons, List.map_nil, true_and, Bool.not_eq_true', Bool.not_eq_false', Bool.not_not, Bool.and_eq_true, and_f, cell_lg, cell_lb, cell_lr, cmpP, val_i, val_b, val_d, aget, Nat.reduceBEq, beq_self_eq_true, Bool.false_eq_true, if_true, if_false, Nat.reduceLT, Nat.reduceSub, Nat.sub_self, Nat.lt_irrefl, val_i, val_d, X.ev, e0, e1]
    all_goals first | exact Int.le_refl _ | rfl
  obtain ⟨i, hI⟩ := hv
  have hxO := RS.run_ok N.length (scr R i)
  obtain ⟨lw, lb⟩ := run_len N.length R i
  have hmx : ∀ hi : i < R.length, lg R i 0 = ((lg R i 0).toNat : Int) := fun hi => by have := hpos i hi; omega
  have hmb : ∀ hi : i < R.length, lg R i 0 ≤ 9223372036854775807 := fun hi => hok i hi
  generalize hx : RS.run N.length (scr R i) = x at *
  have i0 := hI.i0
  have sq := hI.sq
  have qu := hI.qu
  have got := hI.got
  have lo := hI.lo
  have early := hI.early
  have way := hI.way
  have back := hI.back
  have told := hI.told
  have left := hI.left
  have le := hI.le
  rw [hx] at sq qu got early way back told left
  simp only [TT.sat_ret, TT.sat_ite, TT.sat_ob, TT.sat_next, TT.sat_stuck, put_i, put_b, put_d, put_fi, put_fb, put_fd, Ob.ok, B.ev, E.ev, X.ev, AL.ev, cmp_t, cmp_f, arEv, V.plain, V2.plain, S.plain, S0.plain, V.val, V2.val, S.val, S0.val, bV, iV, List.all_cons, List.all_nil, Bool.and_true, Bool.and_self, envOf_i, envOf_b, envOf_d, List.map_cons, List.map_nil, true_and, Bool.not_eq_true', Bool.not_eq_false', Bool.not_not, Bool.and_eq_true, and_f, cell_lg, cell_lb, cell_lr, cmpP, val_i, val_b, val_d, aget, Nat.reduceBEq, beq_self_eq_true, Bool.false_eq_true, if_true, if_false, Nat.reduceLT, Nat.reduceSub, Nat.sub_self, Nat.lt_irrefl, i0, e1]
  refine ⟨fun hc => ⟨by omega, hc, ?_⟩, fun hc => ?_⟩
  rotate_left
  · obtain rfl : i = R.length := by omega
    exact run_end (x1 := .var 7004) (x2 := .var 7014) (by kernel_rfl) (by simp only [TT.sat_ret, TT.sat_ite, TT.sat_ob, TT.sat_next, TT.sat_stuck, put_i, put_b, put_d, put_fi, put_fb, put_fd, Ob.ok, B.ev, E.ev, X.ev, AL.ev, cmp_t, cmp_f, arEv, V.plain, V2.plain, S.plain, S0.plain, V.val, V2.val, S.val, S0.val, bV, iV, List.all_cons, List.all_nil, Bool.and_true, Bool.and_self, envOf_i, envOf_b, envOf_d, List.map_cons, List.map_nil, true_and, Bool.not_eq_true', Bool.not_eq_false', Bool.not_not, Bool.and_eq_true, and_f, cell_lg, cell_lb, cell_lr, cmpP, val_i, val_b, val_d, aget, Nat.reduceBEq, beq_self_eq_true, Bool.false_eq_true, if_true, if_false, Nat.reduceLT, Nat.reduceSub, Nat.sub_self, Nat.lt_irrefl, X.ev, qu]; rw [hQ hO', hX, ← hx]) (by kernel_rfl) (by simp only [TT.sat_ret, TT.sat_ite, TT.sat_ob, TT.sat_next, TT.sat_stuck, put_i, put_b, put_d, put_fi, put_fb, put_fd, Ob.ok, B.ev, E.ev, X.ev, AL.ev, cmp_t, cmp_f, arEv, V.plain, V2.plain, S.plain, S0.plain, V.val, V2.val, S.val, S0.val, bV, iV, List.all_cons, List.all_nil, Bool.and_true, Bool.and_self, envOf_i, envOf_b, envOf_d, List.map_cons, List.map_nil, true_and, Bool.not_eq_true', Bool.not_eq_false', Bool.not_not, Bool.and_eq_true, and_f, cell_lg, cell_lb, cell_lr, cmpP, val_i, val_b, val_d, aget, Nat.reduceBEq, beq_self_eq_true, Bool.false_eq_true, if_true, if_false, Nat.reduceLT, Nat.reduceSub, Nat.sub_self, Nat.lt_irrefl, X.ev, told]; rw [hT hO', hX, ← hx]) (fun id v v' h h' => by cases h; cases h') (by simp only [TT.sat_ret, TT.sat_ite, TT.sat_ob, TT.sat_next, TT.sat_stuck, put_i, put_b, put_d, put_fi, put_fb, put_fd, Ob.ok, B.ev, E.ev, X.ev, AL.ev, cmp_t, cmp_f, arEv, V.plain, V2.plain, S.plain, S0.plain, V.val, V2.val, S.val, S0.val, bV, iV, List.all_cons, List.all_nil, Bool.and_true, Bool.and_self, envOf_i, envOf_b, envOf_d, List.map_cons, List.map_nil, true_and, Bool.not_eq_true', Bool.not_eq_false', Bool.not_not, Bool.and_eq_true, and_f, cell_lg, cell_lb, cell_lr, cmpP, val_i, val_b, val_d, aget, Nat.reduceBEq, beq_self_eq_true, Bool.false_eq_true, if_true, if_false, Nat.reduceLT, Nat.reduceSub, Nat.sub_self, Nat.lt_irrefl, sq]; unfold runSq; rw [hO', if_pos rfl, hX, ← hx]) (by unfold runEr; rw [hO', if_pos rfl]; rfl)
  have hi : i < R.length := by omega
  have hK := hmx hi
  have hKb := hmb hi
  generalize hk : (lg R i 0).toNat = K at *
  rw [hK] at hKb
  have step : ∀ {y : RS} {u : LV}, x.step N.length K = y → u.i 0 = (i : Int) + 1 → u.i 15 = y.s → u.d 4 = lts N y.q → u.i 6 = y.g → 0 ≤ u.i 9 → subR (u.d 8) (u.i 9) (u.i 10) = lts N y.e → u.d 2 = lts N y.w → u.d 12 = acks y.b → u.d 14 = N.take y.g → u.d 5 = N.drop y.h → Inv N R (i + 1) u :=
    fun h1 h2 h3 h4 h5 h6 h7 h8 h9 h10 h11 => step_kind hI hi (by rw [hx, hk]; exact h1) h2 h3 h4 h5 h6 h7 h8 h9 h10 h11
  have w1 : IntKind.i64.wrap ((i : Int) + 1) = (i : Int) + 1 := wrap_in _ (by omega) (by omega)
  have wK : IntKind.i64.wrap ((K / 8 : Nat) : Int) = ((K / 8 : Nat) : Int) := wrap_in _ (by omega) (by omega)
  simp only [TT.sat_ret, TT.sat_ite, TT.sat_ob, TT.sat_next, TT.sat_stuck, put_i, put_b, put_d, put_fi, put_fb, put_fd, Ob.ok, B.ev, E.ev, X.ev, AL.ev, cmp_t, cmp_f, arEv, V.plain, V2.plain, S.plain, S0.plain, V.val, V2.val, S.val, S0.val, bV, iV, List.all_cons, List.all_nil, Bool.and_true, Bool.and_self, envOf_i, envOf_b, envOf_d, List.map_cons, List.map_nil, true_and, Bool.not_eq_true', Bool.not_eq_false', Bool.not_not, Bool.and_eq_true, and_f, cell_lg, cell_lb, cell_lr, cmpP, val_i, val_b, val_d, aget, Nat.reduceBEq, beq_self_eq_true, Bool.false_eq_true, if_true, if_false, Nat.reduceLT, Nat.reduceSub, Nat.sub_self, Nat.lt_irrefl, hK, tm8]
  have hsg := hxO.sg
  have hgh := hxO.gh
  have hhn := hxO.hn
  have hOB := hxO.outB hA
  have hIB := hxO.inB hA
  have hql := hxO.q_len
  have eS4 : subR (lts N x.q) 0 (min 4 ((x.q.length : Nat) : Int)) = lts N (x.q.take 4) := by rw [← lts_take, ← sub_take4, lts_len]
  clear hI
  refine ⟨fun h0 => ?_, fun n0 => ⟨fun h1 => ?_, fun n1 => ⟨fun h2 => ?_, fun n2 => ⟨fun h3 => ?_, fun n3 => ⟨fun h4 => ?_, fun n4 => ⟨fun h5 => ?_, fun n5 => ⟨fun h6 => ?_, fun n6 => ⟨fun h7 => ?_, fun n7 => ?_⟩⟩⟩⟩⟩⟩⟩⟩
  rotate_right
  · omega
  · -- the outbox sends
    simp only [sq, qu, way, Q5b210, out_two, hOB, lts_len, eS4]
    refine ⟨fun h => (by cases h), fun _ => ⟨by omega, by omega, ?_, ?_, ?_⟩⟩
    · rw [List.length_take]; omega
    · rw [List.length_append, lts_len, lts_len, List.length_take]; omega
    · refine ⟨⟨i + 1, step (stepc0 (by omega)) ?_ ?_ ?_ ?_ ?_ ?_ ?_ ?_ ?_ ?_⟩, by rw [w1]; omega⟩
      all_goals simp only [TT.sat_ret, TT.sat_ite, TT.sat_ob, TT.sat_next, TT.sat_stuck, put_i, put_b, put_d, put_fi, put_fb, put_fd, Ob.ok, B.ev, E.ev, X.ev, AL.ev, cmp_t, cmp_f, arEv, V.plain, V2.plain, S.plain, S0.plain, V.val, V2.val, S.val, S0.val, bV, iV, List.all_cons, List.all_nil, Bool.and_true, Bool.and_self, envOf_i, envOf_b, envOf_d, List.map_cons, List.map_nil, true_and, Bool.not_eq_true', Bool.not_eq_false', Bool.not_not, Bool.and_eq_true, and_f, cell_lg, cell_lb, cell_lr, cmpP, val_i, val_b, val_d, aget, Nat.reduceBEq, beq_self_eq_true, Bool.false_eq_true, if_true, if_false, Nat.reduceLT, Nat.reduceSub, Nat.sub_self, Nat.lt_irrefl, X.ev, val_i, val_d, i0, sq, qu, got, way, back, told, left, early, w1, lts_len, eS4, lts_app, out_q]
      all_goals first | rfl | assumption | omega
  rotate_left
  rotate_left
  · -- a letter is lost
    simp only [way, lts_len]
    refine ⟨fun z => ?_, fun z => ?_⟩
    · refine ⟨⟨i + 1, step (stepw (.inr (.inr (by omega))) (by omega)) ?_ ?_ ?_ ?_ ?_ ?_ ?_ ?_ ?_ ?_⟩, by rw [w1]; omega⟩
      all_goals simp only [TT.sat_ret, TT.sat_ite, TT.sat_ob, TT.sat_next, TT.sat_stuck, put_i, put_b, put_d, put_fi, put_fb, put_fd, Ob.ok, B.ev, E.ev, X.ev, AL.ev, cmp_t, cmp_f, arEv, V.plain, V2.plain, S.plain, S0.plain, V.val, V2.val, S.val, S0.val, bV, iV, List.all_cons, List.all_nil, Bool.and_true, Bool.and_self, envOf_i, envOf_b, envOf_d, List.map_cons, List.map_nil, true_and, Bool.not_eq_true', Bool.not_eq_false', Bool.not_not, Bool.and_eq_true, and_f, cell_lg, cell_lb, cell_lr, cmpP, val_i, val_b, val_d, aget, Nat.reduceBEq, beq_self_eq_true, Bool.false_eq_true, if_true, if_false, Nat.reduceLT, Nat.reduceSub, Nat.sub_self, Nat.lt_irrefl, X.ev, val_i, val_d, i0, sq, qu, got, way, back, told, left, early, w1]
      all_goals first | rfl | assumption | omega
    have hp : K / 8 % x.w.length < x.w.length := Nat.mod_lt _ (by omega)
    have hidx : (IntKind.i64.wrap ((K : Int).tdiv 8)).tmod ((x.w.length : Nat) : Int) = ((K / 8 % x.w.length : Nat) : Int) := by rw [td8, wK, tmN]
    have wp : IntKind.i64.wrap (((K / 8 % x.w.length : Nat) : Int) + 1) = ((K / 8 % x.w.length : Nat) : Int) + 1 := wrap_in _ (by omega) (by omega)
    have hcut : subR (lts N x.w) 0 ((K / 8 % x.w.length : Nat) : Int) ++ subR (lts N x.w) (((K / 8 % x.w.length : Nat) : Int) + 1) ((x.w.length : Nat) : Int) = lts N (x.w.eraseIdx (K / 8 % x.w.length)) := by
      rw [← lts_erase, ← cut_erase _ (by rw [lts_len]; exact hp), lts_len]
    simp only [TT.sat_ret, TT.sat_ite, TT.sat_ob, TT.sat_next, TT.sat_stuck, put_i, put_b, put_d, put_fi, put_fb, put_fd, Ob.ok, B.ev, E.ev, X.ev, AL.ev, cmp_t, cmp_f, arEv, V.plain, V2.plain, S.plain, S0.plain, V.val, V2.val, S.val, S0.val, bV, iV, List.all_cons, List.all_nil, Bool.and_true, Bool.and_self, envOf_i, envOf_b, envOf_d, List.map_cons, List.map_nil, true_and, Bool.not_eq_true', Bool.not_eq_false', Bool.not_not, Bool.and_eq_true, and_f, cell_lg, cell_lb, cell_lr, cmpP, val_i, val_b, val_d, aget, Nat.reduceBEq, beq_self_eq_true, Bool.false_eq_true, if_true, if_false, Nat.reduceLT, Nat.reduceSub, Nat.sub_self, Nat.lt_irrefl, way, lts_len, hK, hidx, wp]
    iterate 6 (refine ⟨by omega, ?_⟩)
    · refine ⟨⟨i + 1, step (stepc3 (by omega) (by omega)) ?_ ?_ ?_ ?_ ?_ ?_ ?_ ?_ ?_ ?_⟩, by rw [w1]; omega⟩
      all_goals simp only [TT.sat_ret, TT.sat_ite, TT.sat_ob, TT.sat_next, TT.sat_stuck, put_i, put_b, put_d, put_fi, put_fb, put_fd, Ob.ok, B.ev, E.ev, X.ev, AL.ev, cmp_t, cmp_f, arEv, V.plain, V2.plain, S.plain, S0.plain, V.val, V2.val, S.val, S0.val, bV, iV, List.all_cons, List.all_nil, Bool.and_true, Bool.and_self, envOf_i, envOf_b, envOf_d, List.map_cons, List.map_nil, true_and, Bool.not_eq_true', Bool.not_eq_false', Bool.not_not, Bool.and_eq_true, and_f, cell_lg, cell_lb, cell_lr, cmpP, val_i, val_b, val_d, aget, Nat.reduceBEq, beq_self_eq_true, Bool.false_eq_true, if_true, if_false, Nat.reduceLT, Nat.reduceSub, Nat.sub_self, Nat.lt_irrefl, X.ev, val_i, val_d, i0, sq, qu, got, way, back, told, left, early, w1, lts_len, hK, e1, hidx, wp, hcut]
      all_goals first | rfl | assumption | omega
  rotate_left
  · -- an acknowledgement arrives
    simp only [back, acks_len]
    refine ⟨fun z => ?_, fun z => ?_⟩
    · refine ⟨⟨i + 1, step (stepb (.inr (.inl (by omega))) (by omega)) ?_ ?_ ?_ ?_ ?_ ?_ ?_ ?_ ?_ ?_⟩, by rw [w1]; omega⟩
      all_goals simp only [TT.sat_ret, TT.sat_ite, TT.sat_ob, TT.sat_next, TT.sat_stuck, put_i, put_b, put_d, put_fi, put_fb, put_fd, Ob.ok, B.ev, E.ev, X.ev, AL.ev, cmp_t, cmp_f, arEv, V.plain, V2.plain, S.plain, S0.plain, V.val, V2.val, S.val, S0.val, bV, iV, List.all_cons, List.all_nil, Bool.and_true, Bool.and_self, envOf_i, envOf_b, envOf_d, List.map_cons, List.map_nil, true_and, Bool.not_eq_true', Bool.not_eq_false', Bool.not_not, Bool.and_eq_true, and_f, cell_lg, cell_lb, cell_lr, cmpP, val_i, val_b, val_d, aget, Nat.reduceBEq, beq_self_eq_true, Bool.false_eq_true, if_true, if_false, Nat.reduceLT, Nat.reduceSub, Nat.sub_self, Nat.lt_irrefl, X.ev, val_i, val_d, i0, sq, qu, got, way, back, told, left, early, w1]
      all_goals first | rfl | assumption | omega
    have hp : K / 8 % x.b.length < x.b.length := Nat.mod_lt _ (by omega)
    have hidx : (IntKind.i64.wrap ((K : Int).tdiv 8)).tmod ((x.b.length : Nat) : Int) = ((K / 8 % x.b.length : Nat) : Int) := by rw [td8, wK, tmN]
    have wp : IntKind.i64.wrap (((K / 8 % x.b.length : Nat) : Int) + 1) = ((K / 8 % x.b.length : Nat) : Int) + 1 := wrap_in _ (by omega) (by omega)
    have hcut : subR (acks x.b) 0 ((K / 8 % x.b.length : Nat) : Int) ++ subR (acks x.b) (((K / 8 % x.b.length : Nat) : Int) + 1) ((x.b.length : Nat) : Int) = acks (x.b.eraseIdx (K / 8 % x.b.length)) := by
      rw [← acks_erase, ← cut_erase _ (by rw [acks_len]; exact hp), acks_len]
    have ha : x.b.getD (K / 8 % x.b.length) 0 ≤ x.g := hxO.bg _ (getD_mem hp)
    have cg := fun j => acks_lg hp j
    have cb := fun j => acks_lb hp j
    have cr := fun j => acks_lr hp j
    generalize hA' : x.b.getD (K / 8 % x.b.length) 0 = a at *
    generalize hP : K / 8 % x.b.length = p at *
    have eA : [D.i 2, D.i 1, D.i (cI (ackR a) 2), D.b (cB (ackR a) 3), D.i (cI (ackR a) 4), D.i (cI (ackR a) 5), D.i (cI (ackR a) 6), D.i (cI (ackR a) 7), D.i (cI (ackR a) 8), D.i (cI (ackR a) 9), D.l (cR (ackR a) 10)] = ackR a := rfl
    have a0 : cI (ackR a) 0 = 2 := rfl
    have a1 : cI (ackR a) 1 = 1 := rfl
    have a2 : cI (ackR a) 2 = (a : Int) := rfl
    have hack := ackR_ack (g := a) (by omega)
    have hour := lts_ours hA (l := x.q) (fun k hk => by have := hxO.q_mem k hk; omega)
    simp only [TT.sat_ret, TT.sat_ite, TT.sat_ob, TT.sat_next, TT.sat_stuck, put_i, put_b, put_d, put_fi, put_fb, put_fd, Ob.ok, B.ev, E.ev, X.ev, AL.ev, cmp_t, cmp_f, arEv, V.plain, V2.plain, S.plain, S0.plain, V.val, V2.val, S.val, S0.val, bV, iV, List.all_cons, List.all_nil, Bool.and_true, Bool.and_self, envOf_i, envOf_b, envOf_d, List.map_cons, List.map_nil, true_and, Bool.not_eq_true', Bool.not_eq_false', Bool.not_not, Bool.and_eq_true, and_f, cell_lg, cell_lb, cell_lr, cmpP, val_i, val_b, val_d, aget, Nat.reduceBEq, beq_self_eq_true, Bool.false_eq_true, if_true, if_false, Nat.reduceLT, Nat.reduceSub, Nat.sub_self, Nat.lt_irrefl, back, acks_len, hK, hidx, wp]
    iterate 3 (refine ⟨by omega, ?_⟩)
    refine TT.sat_join (fun u => u.b 3 = false) (fun y hy => ?_) (fun y hy hY => ?_)
    · simp only [TT.sat_ret, TT.sat_ite, TT.sat_ob, TT.sat_next, TT.sat_stuck, put_i, put_b, put_d, put_fi, put_fb, put_fd, Ob.ok, B.ev, E.ev, X.ev, AL.ev, cmp_t, cmp_f, arEv, V.plain, V2.plain, S.plain, S0.plain, V.val, V2.val, S.val, S0.val, bV, iV, List.all_cons, List.all_nil, Bool.and_true, Bool.and_self, envOf_i, envOf_b, envOf_d, List.map_cons, List.map_nil, true_and, Bool.not_eq_true', Bool.not_eq_false', Bool.not_not, Bool.and_eq_true, and_f, cell_lg, cell_lb, cell_lr, cmpP, val_i, val_b, val_d, aget, Nat.reduceBEq, beq_self_eq_true, Bool.false_eq_true, if_true, if_false, Nat.reduceLT, Nat.reduceSub, Nat.sub_self, Nat.lt_irrefl, hy, e1, i0, sq, qu, back, acks_len, hK, hidx, wp, cg, cb, cr, eA, a0, a1, Q5b210, Q5b200, Q5b201, out_two, ours_three, hOB, hack, hour]
      exact ⟨fun h => (by cases h), fun _ => ⟨fun h => (by cases h), fun _ => trivial⟩⟩
    have hws : IntKind.i64.wrap ((a : Int) - (x.s : Int)) = (a : Int) - x.s := wrap_in _ (by omega) (by omega)
    have hmax : max ((a : Int) - x.s) 0 = ((a - x.s : Nat) : Int) := by omega
    have hwq : IntKind.i64.wrap ((x.s : Int) + ((x.q.length : Nat) : Int)) = (x.h : Int) := by rw [wrap_in _ (by omega) (by omega)]; omega
    have hwa : IntKind.i64.wrap ((x.s : Int) + ((a - x.s : Nat) : Int)) = ((max x.s a : Nat) : Int) := by rw [wrap_in _ (by omega) (by omega)]; omega
    have hdq : (lts N x.q).drop (a - x.s) = lts N (x.hear a).q := by
      rw [lts_drop, q_drop]
      have : x.s + (a - x.s) = max x.s a := by omega
      rw [this]; rfl
    have hse : subR (lts N x.q) ((a - x.s : Nat) : Int) ((x.q.length : Nat) : Int) = lts N (x.hear a).q := by rw [← hdq, ← lts_len N x.q, subR_end, Int.toNat_natCast]
    simp only [TT.sat_ret, TT.sat_ite, TT.sat_ob, TT.sat_next, TT.sat_stuck, put_i, put_b, put_d, put_fi, put_fb, put_fd, Ob.ok, B.ev, E.ev, X.ev, AL.ev, cmp_t, cmp_f, arEv, V.plain, V2.plain, S.plain, S0.plain, V.val, V2.val, S.val, S0.val, bV, iV, List.all_cons, List.all_nil, Bool.and_true, Bool.and_self, envOf_i, envOf_b, envOf_d, List.map_cons, List.map_nil, true_and, Bool.not_eq_true', Bool.not_eq_false', Bool.not_not, Bool.and_eq_true, and_f, cell_lg, cell_lb, cell_lr, cmpP, val_i, val_b, val_d, aget, Nat.reduceBEq, beq_self_eq_true, Bool.false_eq_true, if_true, if_false, Nat.reduceLT, Nat.reduceSub, Nat.sub_self, Nat.lt_irrefl, hy, hY, e1, i0, sq, qu, back, acks_len, lts_len, hK, hidx, wp, cg, a2, hws, hmax, hwq, hse]
    refine ⟨fun h => (by cases h), fun _ => ⟨fun h => (by omega), fun _ => ⟨by omega, by omega, ?_, ?_⟩⟩⟩
    · rw [RS.Ok.q_len (x := x.hear a) (n := N.length) (hxO.hear_ok ha)]; show (((x.h - max x.s a : Nat)) : Int) ≤ _; omega
    refine ⟨⟨i + 1, step ((stepc5 (by omega) (by omega)).trans (by rw [hP, hA'])) ?_ ?_ ?_ ?_ ?_ ?_ ?_ ?_ ?_ ?_⟩, by rw [w1]; omega⟩
    all_goals simp only [TT.sat_ret, TT.sat_ite, TT.sat_ob, TT.sat_next, TT.sat_stuck, put_i, put_b, put_d, put_fi, put_fb, put_fd, Ob.ok, B.ev, E.ev, X.ev, AL.ev, cmp_t, cmp_f, arEv, V.plain, V2.plain, S.plain, S0.plain, V.val, V2.val, S.val, S0.val, bV, iV, List.all_cons, List.all_nil, Bool.and_true, Bool.and_self, envOf_i, envOf_b, envOf_d, List.map_cons, List.map_nil, true_and, Bool.not_eq_true', Bool.not_eq_false', Bool.not_not, Bool.and_eq_true, and_f, cell_lg, cell_lb, cell_lr, cmpP, val_i, val_b, val_d, aget, Nat.reduceBEq, beq_self_eq_true, Bool.false_eq_true, if_true, if_false, Nat.reduceLT, Nat.reduceSub, Nat.sub_self, Nat.lt_irrefl, X.ev, val_i, val_d, i0, sq, qu, got, way, back, told, left, early, w1, acks_len, lts_len, hK, e1, hidx, wp, hcut, cg, a2, hws, hmax, hwa, hse]
    all_goals first | rfl | assumption | omega
  rotate_left
  rotate_right
  rotate_right
  · -- an acknowledgement arrives
    simp only [back, acks_len]
    refine ⟨fun z => ?_, fun z => ?_⟩
    · refine ⟨⟨i + 1, step (stepb (.inl (by omega)) (by omega)) ?_ ?_ ?_ ?_ ?_ ?_ ?_ ?_ ?_ ?_⟩, by rw [w1]; omega⟩
      all_goals simp only [TT.sat_ret, TT.sat_ite, TT.sat_ob, TT.sat_next, TT.sat_stuck, put_i, put_b, put_d, put_fi, put_fb, put_fd, Ob.ok, B.ev, E.ev, X.ev, AL.ev, cmp_t, cmp_f, arEv, V.plain, V2.plain, S.plain, S0.plain, V.val, V2.val, S.val, S0.val, bV, iV, List.all_cons, List.all_nil, Bool.and_true, Bool.and_self, envOf_i, envOf_b, envOf_d, List.map_cons, List.map_nil, true_and, Bool.not_eq_true', Bool.not_eq_false', Bool.not_not, Bool.and_eq_true, and_f, cell_lg, cell_lb, cell_lr, cmpP, val_i, val_b, val_d, aget, Nat.reduceBEq, beq_self_eq_true, Bool.false_eq_true, if_true, if_false, Nat.reduceLT, Nat.reduceSub, Nat.sub_self, Nat.lt_irrefl, X.ev, val_i, val_d, i0, sq, qu, got, way, back, told, left, early, w1]
      all_goals first | rfl | assumption | omega
    have hp : K / 8 % x.b.length < x.b.length := Nat.mod_lt _ (by omega)
    have hidx : (IntKind.i64.wrap ((K : Int).tdiv 8)).tmod ((x.b.length : Nat) : Int) = ((K / 8 % x.b.length : Nat) : Int) := by rw [td8, wK, tmN]
    have wp : IntKind.i64.wrap (((K / 8 % x.b.length : Nat) : Int) + 1) = ((K / 8 % x.b.length : Nat) : Int) + 1 := wrap_in _ (by omega) (by omega)
    have hcut : subR (acks x.b) 0 ((K / 8 % x.b.length : Nat) : Int) ++ subR (acks x.b) (((K / 8 % x.b.length : Nat) : Int) + 1) ((x.b.length : Nat) : Int) = acks (x.b.eraseIdx (K / 8 % x.b.length)) := by
      rw [← acks_erase, ← cut_erase _ (by rw [acks_len]; exact hp), acks_len]
    have ha : x.b.getD (K / 8 % x.b.length) 0 ≤ x.g := hxO.bg _ (getD_mem hp)
    have cg := fun j => acks_lg hp j
    have cb := fun j => acks_lb hp j
    have cr := fun j => acks_lr hp j
    generalize hA' : x.b.getD (K / 8 % x.b.length) 0 = a at *
    generalize hP : K / 8 % x.b.length = p at *
    have eA : [D.i 2, D.i 1, D.i (cI (ackR a) 2), D.b (cB (ackR a) 3), D.i (cI (ackR a) 4), D.i (cI (ackR a) 5), D.i (cI (ackR a) 6), D.i (cI (ackR a) 7), D.i (cI (ackR a) 8), D.i (cI (ackR a) 9), D.l (cR (ackR a) 10)] = ackR a := rfl
    have a0 : cI (ackR a) 0 = 2 := rfl
    have a1 : cI (ackR a) 1 = 1 := rfl
    have a2 : cI (ackR a) 2 = (a : Int) := rfl
    have hack := ackR_ack (g := a) (by omega)
    have hour := lts_ours hA (l := x.q) (fun k hk => by have := hxO.q_mem k hk; omega)
    simp only [TT.sat_ret, TT.sat_ite, TT.sat_ob, TT.sat_next, TT.sat_stuck, put_i, put_b, put_d, put_fi, put_fb, put_fd, Ob.ok, B.ev, E.ev, X.ev, AL.ev, cmp_t, cmp_f, arEv, V.plain, V2.plain, S.plain, S0.plain, V.val, V2.val, S.val, S0.val, bV, iV, List.all_cons, List.all_nil, Bool.and_true, Bool.and_self, envOf_i, envOf_b, envOf_d, List.map_cons, List.map_nil, true_and, Bool.not_eq_true', Bool.not_eq_false', Bool.not_not, Bool.and_eq_true, and_f, cell_lg, cell_lb, cell_lr, cmpP, val_i, val_b, val_d, aget, Nat.reduceBEq, beq_self_eq_true, Bool.false_eq_true, if_true, if_false, Nat.reduceLT, Nat.reduceSub, Nat.sub_self, Nat.lt_irrefl, back, acks_len, hK, hidx, wp]
    iterate 6 (refine ⟨by omega, ?_⟩)
    refine TT.sat_join (fun u => u.b 3 = false) (fun y hy => ?_) (fun y hy hY => ?_)
    · simp only [TT.sat_ret, TT.sat_ite, TT.sat_ob, TT.sat_next, TT.sat_stuck, put_i, put_b, put_d, put_fi, put_fb, put_fd, Ob.ok, B.ev, E.ev, X.ev, AL.ev, cmp_t, cmp_f, arEv, V.plain, V2.plain, S.plain, S0.plain, V.val, V2.val, S.val, S0.val, bV, iV, List.all_cons, List.all_nil, Bool.and_true, Bool.and_self, envOf_i, envOf_b, envOf_d, List.map_cons, List.map_nil, true_and, Bool.not_eq_true', Bool.not_eq_false', Bool.not_not, Bool.and_eq_true, and_f, cell_lg, cell_lb, cell_lr, cmpP, val_i, val_b, val_d, aget, Nat.reduceBEq, beq_self_eq_true, Bool.false_eq_true, if_true, if_false, Nat.reduceLT, Nat.reduceSub, Nat.sub_self, Nat.lt_irrefl, hy, e1, i0, sq, qu, back, acks_len, hK, hidx, wp, cg, cb, cr, eA, a0, a1, Q5b210, Q5b200, Q5b201, out_two, ours_three, hOB, hack, hour]
      exact ⟨fun h => (by cases h), fun _ => ⟨fun h => (by cases h), fun _ => trivial⟩⟩
    have hws : IntKind.i64.wrap ((a : Int) - (x.s : Int)) = (a : Int) - x.s := wrap_in _ (by omega) (by omega)
    have hmax : max ((a : Int) - x.s) 0 = ((a - x.s : Nat) : Int) := by omega
    have hwq : IntKind.i64.wrap ((x.s : Int) + ((x.q.length : Nat) : Int)) = (x.h : Int) := by rw [wrap_in _ (by omega) (by omega)]; omega
    have hwa : IntKind.i64.wrap ((x.s : Int) + ((a - x.s : Nat) : Int)) = ((max x.s a : Nat) : Int) := by rw [wrap_in _ (by omega) (by omega)]; omega
    have hdq : (lts N x.q).drop (a - x.s) = lts N (x.hear a).q := by
      rw [lts_drop, q_drop]
      have : x.s + (a - x.s) = max x.s a := by omega
      rw [this]; rfl
    have hse : subR (lts N x.q) ((a - x.s : Nat) : Int) ((x.q.length : Nat) : Int) = lts N (x.hear a).q := by rw [← hdq, ← lts_len N x.q, subR_end, Int.toNat_natCast]
    simp only [TT.sat_ret, TT.sat_ite, TT.sat_ob, TT.sat_next, TT.sat_stuck, put_i, put_b, put_d, put_fi, put_fb, put_fd, Ob.ok, B.ev, E.ev, X.ev, AL.ev, cmp_t, cmp_f, arEv, V.plain, V2.plain, S.plain, S0.plain, V.val, V2.val, S.val, S0.val, bV, iV, List.all_cons, List.all_nil, Bool.and_true, Bool.and_self, envOf_i, envOf_b, envOf_d, List.map_cons, List.map_nil, true_and, Bool.not_eq_true', Bool.not_eq_false', Bool.not_not, Bool.and_eq_true, and_f, cell_lg, cell_lb, cell_lr, cmpP, val_i, val_b, val_d, aget, Nat.reduceBEq, beq_self_eq_true, Bool.false_eq_true, if_true, if_false, Nat.reduceLT, Nat.reduceSub, Nat.sub_self, Nat.lt_irrefl, hy, hY, e1, i0, sq, qu, back, acks_len, lts_len, hK, hidx, wp, cg, a2, hws, hmax, hwq, hse]
    refine ⟨fun h => (by cases h), fun _ => ⟨fun h => (by omega), fun _ => ⟨by omega, by omega, ?_, ?_⟩⟩⟩
    · rw [RS.Ok.q_len (x := x.hear a) (n := N.length) (hxO.hear_ok ha)]; show (((x.h - max x.s a : Nat)) : Int) ≤ _; omega
    refine ⟨⟨i + 1, step ((stepc4 (by omega) (by omega)).trans (by rw [hP, hA'])) ?_ ?_ ?_ ?_ ?_ ?_ ?_ ?_ ?_ ?_⟩, by rw [w1]; omega⟩
    all_goals simp only [TT.sat_ret, TT.sat_ite, TT.sat_ob, TT.sat_next, TT.sat_stuck, put_i, put_b, put_d, put_fi, put_fb, put_fd, Ob.ok, B.ev, E.ev, X.ev, AL.ev, cmp_t, cmp_f, arEv, V.plain, V2.plain, S.plain, S0.plain, V.val, V2.val, S.val, S0.val, bV, iV, List.all_cons, List.all_nil, Bool.and_true, Bool.and_self, envOf_i, envOf_b, envOf_d, List.map_cons, List.map_nil, true_and, Bool.not_eq_true', Bool.not_eq_false', Bool.not_not, Bool.and_eq_true, and_f, cell_lg, cell_lb, cell_lr, cmpP, val_i, val_b, val_d, aget, Nat.reduceBEq, beq_self_eq_true, Bool.false_eq_true, if_true, if_false, Nat.reduceLT, Nat.reduceSub, Nat.sub_self, Nat.lt_irrefl, X.ev, val_i, val_d, i0, sq, qu, got, way, back, told, left, early, w1, acks_len, lts_len, hK, e1, hidx, wp, hcut, cg, a2, hws, hmax, hwa, hse]
    all_goals first | rfl | assumption | omega
  · -- an acknowledgement is lost
    simp only [back, acks_len]
    refine ⟨fun z => ?_, fun z => ?_⟩
    · refine ⟨⟨i + 1, step (stepb (.inr (.inr (by omega))) (by omega)) ?_ ?_ ?_ ?_ ?_ ?_ ?_ ?_ ?_ ?_⟩, by rw [w1]; omega⟩
      all_goals simp only [TT.sat_ret, TT.sat_ite, TT.sat_ob, TT.sat_next, TT.sat_stuck, put_i, put_b, put_d, put_fi, put_fb, put_fd, Ob.ok, B.ev, E.ev, X.ev, AL.ev, cmp_t, cmp_f, arEv, V.plain, V2.plain, S.plain, S0.plain, V.val, V2.val, S.val, S0.val, bV, iV, List.all_cons, List.all_nil, Bool.and_true, Bool.and_self, envOf_i, envOf_b, envOf_d, List.map_cons, List.map_nil, true_and, Bool.not_eq_true', Bool.not_eq_false', Bool.not_not, Bool.and_eq_true, and_f, cell_lg, cell_lb, cell_lr, cmpP, val_i, val_b, val_d, aget, Nat.reduceBEq, beq_self_eq_true, Bool.false_eq_true, if_true, if_false, Nat.reduceLT, Nat.reduceSub, Nat.sub_self, Nat.lt_irrefl, X.ev, val_i, val_d, i0, sq, qu, got, way, back, told, left, early, w1]
      all_goals first | rfl | assumption | omega
    have hp : K / 8 % x.b.length < x.b.length := Nat.mod_lt _ (by omega)
    have hidx : (IntKind.i64.wrap ((K : Int).tdiv 8)).tmod ((x.b.length : Nat) : Int) = ((K / 8 % x.b.length : Nat) : Int) := by rw [td8, wK, tmN]
    have wp : IntKind.i64.wrap (((K / 8 % x.b.length : Nat) : Int) + 1) = ((K / 8 % x.b.length : Nat) : Int) + 1 := wrap_in _ (by omega) (by omega)
    have hcut : subR (acks x.b) 0 ((K / 8 % x.b.length : Nat) : Int) ++ subR (acks x.b) (((K / 8 % x.b.length : Nat) : Int) + 1) ((x.b.length : Nat) : Int) = acks (x.b.eraseIdx (K / 8 % x.b.length)) := by
      rw [← acks_erase, ← cut_erase _ (by rw [acks_len]; exact hp), acks_len]
    simp only [TT.sat_ret, TT.sat_ite, TT.sat_ob, TT.sat_next, TT.sat_stuck, put_i, put_b, put_d, put_fi, put_fb, put_fd, Ob.ok, B.ev, E.ev, X.ev, AL.ev, cmp_t, cmp_f, arEv, V.plain, V2.plain, S.plain, S0.plain, V.val, V2.val, S.val, S0.val, bV, iV, List.all_cons, List.all_nil, Bool.and_true, Bool.and_self, envOf_i, envOf_b, envOf_d, List.map_cons, List.map_nil, true_and, Bool.not_eq_true', Bool.not_eq_false', Bool.not_not, Bool.and_eq_true, and_f, cell_lg, cell_lb, cell_lr, cmpP, val_i, val_b, val_d, aget, Nat.reduceBEq, beq_self_eq_true, Bool.false_eq_true, if_true, if_false, Nat.reduceLT, Nat.reduceSub, Nat.sub_self, Nat.lt_irrefl, back, acks_len, hK, hidx, wp]
    iterate 6 (refine ⟨by omega, ?_⟩)
    · refine ⟨⟨i + 1, step (stepc6 (by omega) (by omega)) ?_ ?_ ?_ ?_ ?_ ?_ ?_ ?_ ?_ ?_⟩, by rw [w1]; omega⟩
      all_goals simp only [TT.sat_ret, TT.sat_ite, TT.sat_ob, TT.sat_next, TT.sat_stuck, put_i, put_b, put_d, put_fi, put_fb, put_fd, Ob.ok, B.ev, E.ev, X.ev, AL.ev, cmp_t, cmp_f, arEv, V.plain, V2.plain, S.plain, S0.plain, V.val, V2.val, S.val, S0.val, bV, iV, List.all_cons, List.all_nil, Bool.and_true, Bool.and_self, envOf_i, envOf_b, envOf_d, List.map_cons, List.map_nil, true_and, Bool.not_eq_true', Bool.not_eq_false', Bool.not_not, Bool.and_eq_true, and_f, cell_lg, cell_lb, cell_lr, cmpP, val_i, val_b, val_d, aget, Nat.reduceBEq, beq_self_eq_true, Bool.false_eq_true, if_true, if_false, Nat.reduceLT, Nat.reduceSub, Nat.sub_self, Nat.lt_irrefl, X.ev, val_i, val_d, i0, sq, qu, got, way, back, told, left, early, w1, acks_len, hK, e1, hidx, wp, hcut]
      all_goals first | rfl | assumption | omega
  · -- a notice is handed over
    simp only [left]
    refine ⟨fun z => ?_, fun z => ?_⟩
    rotate_left
    · refine ⟨⟨i + 1, step (stepl (by omega) (fun q => z (by rw [List.length_drop]; omega))) ?_ ?_ ?_ ?_ ?_ ?_ ?_ ?_ ?_ ?_⟩, by rw [w1]; omega⟩
      all_goals simp only [TT.sat_ret, TT.sat_ite, TT.sat_ob, TT.sat_next, TT.sat_stuck, put_i, put_b, put_d, put_fi, put_fb, put_fd, Ob.ok, B.ev, E.ev, X.ev, AL.ev, cmp_t, cmp_f, arEv, V.plain, V2.plain, S.plain, S0.plain, V.val, V2.val, S.val, S0.val, bV, iV, List.all_cons, List.all_nil, Bool.and_true, Bool.and_self, envOf_i, envOf_b, envOf_d, List.map_cons, List.map_nil, true_and, Bool.not_eq_true', Bool.not_eq_false', Bool.not_not, Bool.and_eq_true, and_f, cell_lg, cell_lb, cell_lr, cmpP, val_i, val_b, val_d, aget, Nat.reduceBEq, beq_self_eq_true, Bool.false_eq_true, if_true, if_false, Nat.reduceLT, Nat.reduceSub, Nat.sub_self, Nat.lt_irrefl, X.ev, val_i, val_d, i0, sq, qu, got, way, back, told, left, early, w1]
      all_goals first | rfl | assumption | omega
    have hh : x.h < N.length := by rw [List.length_drop] at z; omega
    have dl : (N.drop x.h).length = N.length - x.h := List.length_drop
    have d0 : ∀ j, lg (N.drop x.h) 0 j = lg N x.h j := fun j => by
      have := lg_drop N x.h 0 j
      rw [Nat.add_zero] at this
      exact this
    have dr : ∀ j, lr (N.drop x.h) 0 j = lr N x.h j := fun j => by
      unfold lr cellAt
      rw [show (0 : Int).toNat = 0 from rfl, Int.toNat_natCast, List.getElem?_drop, Nat.add_zero]
    have hnv := not_at hA hh
    have hour := lts_ours hA (l := x.q) (fun k hk => by have := hxO.q_mem k hk; omega)
    have hwq : IntKind.i64.wrap ((x.s : Int) + ((x.q.length : Nat) : Int)) = (x.h : Int) := by rw [wrap_in _ (by omega) (by omega)]; omega
    have hnew : lts N x.q ++ ([[D.i 1, D.i 2, D.i (x.h : Int), D.b false, D.i (lg N x.h 0), D.i (lg N x.h 1), D.i (lg N x.h 2), D.i (lg N x.h 3), D.i (lg N x.h 4), D.i (lg N x.h 5), D.l (lr N x.h 6)]] ++ []) = lts N ({ x with h := x.h + 1 } : RS).q := by
      rw [← q_more x (by omega), ← lts_app]; rfl
    have hdn : (N.drop x.h).drop 1 = N.drop (x.h + 1) := by rw [List.drop_drop]
    refine ⟨by rw [dl]; omega, ?_⟩
    refine TT.sat_join (fun u => u.b 3 = false) (fun y hy => ?_) (fun y hy hY => ?_)
    · simp only [TT.sat_ret, TT.sat_ite, TT.sat_ob, TT.sat_next, TT.sat_stuck, put_i, put_b, put_d, put_fi, put_fb, put_fd, Ob.ok, B.ev, E.ev, X.ev, AL.ev, cmp_t, cmp_f, arEv, V.plain, V2.plain, S.plain, S0.plain, V.val, V2.val, S.val, S0.val, bV, iV, List.all_cons, List.all_nil, Bool.and_true, Bool.and_self, envOf_i, envOf_b, envOf_d, List.map_cons, List.map_nil, true_and, Bool.not_eq_true', Bool.not_eq_false', Bool.not_not, Bool.and_eq_true, and_f, cell_lg, cell_lb, cell_lr, cmpP, val_i, val_b, val_d, aget, Nat.reduceBEq, beq_self_eq_true, Bool.false_eq_true, if_true, if_false, Nat.reduceLT, Nat.reduceSub, Nat.sub_self, Nat.lt_irrefl, hy, e1, i0, sq, qu, left, d0, dr, Q5b210, Q5b170, Q5b201, out_two, ours_three, hOB, hnv, hour]
      exact ⟨fun h => (by cases h), fun _ => ⟨fun h => (by cases h), fun _ => trivial⟩⟩
    simp only [TT.sat_ret, TT.sat_ite, TT.sat_ob, TT.sat_next, TT.sat_stuck, put_i, put_b, put_d, put_fi, put_fb, put_fd, Ob.ok, B.ev, E.ev, X.ev, AL.ev, cmp_t, cmp_f, arEv, V.plain, V2.plain, S.plain, S0.plain, V.val, V2.val, S.val, S0.val, bV, iV, List.all_cons, List.all_nil, Bool.and_true, Bool.and_self, envOf_i, envOf_b, envOf_d, List.map_cons, List.map_nil, true_and, Bool.not_eq_true', Bool.not_eq_false', Bool.not_not, Bool.and_eq_true, and_f, cell_lg, cell_lb, cell_lr, cmpP, val_i, val_b, val_d, aget, Nat.reduceBEq, beq_self_eq_true, Bool.false_eq_true, if_true, if_false, Nat.reduceLT, Nat.reduceSub, Nat.sub_self, Nat.lt_irrefl, hy, hY, e1, i0, sq, qu, left, d0, dr, lts_len, hwq, dl]
    refine ⟨fun h => (by cases h), fun _ => ⟨fun h => (by omega), fun _ => ⟨by omega, ?_, by omega, ?_⟩⟩⟩
    · rw [List.length_append, lts_len]; simp only [List.length_append, List.length_cons, List.length_nil]; omega
    refine ⟨⟨i + 1, step (stepc7 (by omega) hh) ?_ ?_ ?_ ?_ ?_ ?_ ?_ ?_ ?_ ?_⟩, by rw [w1]; omega⟩
    all_goals simp only [TT.sat_ret, TT.sat_ite, TT.sat_ob, TT.sat_next, TT.sat_stuck, put_i, put_b, put_d, put_fi, put_fb, put_fd, Ob.ok, B.ev, E.ev, X.ev, AL.ev, cmp_t, cmp_f, arEv, V.plain, V2.plain, S.plain, S0.plain, V.val, V2.val, S.val, S0.val, bV, iV, List.all_cons, List.all_nil, Bool.and_true, Bool.and_self, envOf_i, envOf_b, envOf_d, List.map_cons, List.map_nil, true_and, Bool.not_eq_true', Bool.not_eq_false', Bool.not_not, Bool.and_eq_true, and_f, cell_lg, cell_lb, cell_lr, cmpP, val_i, val_b, val_d, aget, Nat.reduceBEq, beq_self_eq_true, Bool.false_eq_true, if_true, if_false, Nat.reduceLT, Nat.reduceSub, Nat.sub_self, Nat.lt_irrefl, X.ev, val_i, val_d, i0, sq, qu, got, way, back, told, left, early, w1, lts_len, hwq, d0, dr, hnew, subR_end, show (1 : Int).toNat = 1 from rfl, hdn]
    all_goals first | rfl | assumption | omega
  · -- a letter arrives
    simp only [way, lts_len]
    refine ⟨fun z => ?_, fun z => ?_⟩
    · refine ⟨⟨i + 1, step (stepw (.inl (by omega)) (by omega)) ?_ ?_ ?_ ?_ ?_ ?_ ?_ ?_ ?_ ?_⟩, by rw [w1]; omega⟩
      all_goals simp only [TT.sat_ret, TT.sat_ite, TT.sat_ob, TT.sat_next, TT.sat_stuck, put_i, put_b, put_d, put_fi, put_fb, put_fd, Ob.ok, B.ev, E.ev, X.ev, AL.ev, cmp_t, cmp_f, arEv, V.plain, V2.plain, S.plain, S0.plain, V.val, V2.val, S.val, S0.val, bV, iV, List.all_cons, List.all_nil, Bool.and_true, Bool.and_self, envOf_i, envOf_b, envOf_d, List.map_cons, List.map_nil, true_and, Bool.not_eq_true', Bool.not_eq_false', Bool.not_not, Bool.and_eq_true, and_f, cell_lg, cell_lb, cell_lr, cmpP, val_i, val_b, val_d, aget, Nat.reduceBEq, beq_self_eq_true, Bool.false_eq_true, if_true, if_false, Nat.reduceLT, Nat.reduceSub, Nat.sub_self, Nat.lt_irrefl, X.ev, val_i, val_d, i0, sq, qu, got, way, back, told, left, early, w1]
      all_goals first | rfl | assumption | omega
    have hp : K / 8 % x.w.length < x.w.length := Nat.mod_lt _ (by omega)
    have hidx : (IntKind.i64.wrap ((K : Int).tdiv 8)).tmod ((x.w.length : Nat) : Int) = ((K / 8 % x.w.length : Nat) : Int) := by rw [td8, wK, tmN]
    have wp : IntKind.i64.wrap (((K / 8 % x.w.length : Nat) : Int) + 1) = ((K / 8 % x.w.length : Nat) : Int) + 1 := wrap_in _ (by omega) (by omega)
    have hcut : subR (lts N x.w) 0 ((K / 8 % x.w.length : Nat) : Int) ++ subR (lts N x.w) (((K / 8 % x.w.length : Nat) : Int) + 1) ((x.w.length : Nat) : Int) = lts N (x.w.eraseIdx (K / 8 % x.w.length)) := by
      rw [← lts_erase, ← cut_erase _ (by rw [lts_len]; exact hp), lts_len]
    have ha : x.w.getD (K / 8 % x.w.length) 0 < x.h := hxO.wh _ (getD_mem hp)
    have cg := fun j => lts_lg (N := N) hp j
    have cb := fun j => lts_lb (N := N) hp j
    have cr := fun j => lts_lr (N := N) hp j
    generalize hA' : x.w.getD (K / 8 % x.w.length) 0 = l at *
    generalize hP : K / 8 % x.w.length = p at *
    have eL : [D.i 1, D.i 2, D.i (l : Int), D.b (cB (letR N l) 3), D.i (cI (letR N l) 4), D.i (cI (letR N l) 5), D.i (cI (letR N l) 6), D.i (cI (letR N l) 7), D.i (cI (letR N l) 8), D.i (cI (letR N l) 9), D.l (cR (letR N l) 10)] = letR N l := rfl
    have eN : ntR (letR N l) = [D.i (cI (letR N l) 4), D.i (cI (letR N l) 5), D.i (cI (letR N l) 6), D.i (cI (letR N l) 7), D.i (cI (letR N l) 8), D.i (cI (letR N l) 9), D.l (cR (letR N l) 10)] := rfl
    have a0 : cI (letR N l) 0 = 1 := rfl
    have a1 : cI (letR N l) 1 = 2 := rfl
    have a2 : cI (letR N l) 2 = (l : Int) := rfl
    have eC : carL (letR N l) = carR (letR N l) := rfl
    have hcar := letR_car hA (k := l) (by omega)
    have hwinE := lts_win (N := N) (g := x.g + 1) hxO.up (fun k hk => hxO.lo k hk) (fun k hk => by have := hxO.hi k hk; omega)
    have hris := win_ris hwinE
    have hEo := lts_ours hA (l := x.e) (fun k hk => by have := hxO.eh k hk; omega)
    have hel := win_len hwinE
    rw [lts_len] at hel
    have hlow := lowS_spec (lts N x.e) l
    rw [lts_len] at hlow
    have hlow1 := hlow.1
    clear hlow
    have lgd : ∀ (i : Nat) j, i < x.e.length → lg (v.d 8) (v.i 9 + (i : Int)) j = lg (lts N x.e) i j := fun i j h => by rw [lg_sub (by rw [early, lts_len]; exact h) lo, early]
    have lrd : ∀ (i : Nat) j, i < x.e.length → lr (v.d 8) (v.i 9 + (i : Int)) j = lr (lts N x.e) i j := fun i j h => by rw [lr_sub (by rw [early, lts_len]; exact h) lo, early]
    have hins := lts_ins (N := N) (g := x.g) hris l
    have he1 : ∀ k ∈ insL x.g x.e l, x.g ≤ k ∧ k < x.g + 4 ∧ k < x.h := fun k hk => by
      rcases mem_insL hk with q | ⟨rfl, q⟩
      · exact ⟨Nat.le_of_lt (hxO.lo k q), hxO.hi k q, hxO.eh k q⟩
      · exact ⟨q.1, q.2, ha⟩
    have hw1 := lts_win (N := N) (g := x.g) (insL_up (g := x.g) (l := l) hxO.up) (fun k hk => (he1 k hk).1) (fun k hk => (he1 k hk).2.1)
    have hl1 := win_len hw1
    rw [lts_len] at hl1
    have hrun := lts_run (N := N) (e := insL x.g x.e l) (g := x.g)
    obtain ⟨r1, _, _⟩ := runL_spec (insL x.g x.e l) x.g
    have hyg : x.g + runL (insL x.g x.e l) x.g ≤ x.h := (hxO.take_ok ha).gh
    have htold := told_eq hN (e := insL x.g x.e l) (g := x.g) (by omega)
    simp only [TT.sat_ret, TT.sat_ite, TT.sat_ob, TT.sat_next, TT.sat_stuck, put_i, put_b, put_d, put_fi, put_fb, put_fd, Ob.ok, B.ev, E.ev, X.ev, AL.ev, cmp_t, cmp_f, arEv, V.plain, V2.plain, S.plain, S0.plain, V.val, V2.val, S.val, S0.val, bV, iV, List.all_cons, List.all_nil, Bool.and_true, Bool.and_self, envOf_i, envOf_b, envOf_d, List.map_cons, List.map_nil, true_and, Bool.not_eq_true', Bool.not_eq_false', Bool.not_not, Bool.and_eq_true, and_f, cell_lg, cell_lb, cell_lr, cmpP, val_i, val_b, val_d, aget, Nat.reduceBEq, beq_self_eq_true, Bool.false_eq_true, if_true, if_false, Nat.reduceLT, Nat.reduceSub, Nat.sub_self, Nat.lt_irrefl, way, lts_len, hK, hidx, wp]
    iterate 6 (refine ⟨by omega, ?_⟩)
    refine TT.sat_join (fun u => u.b 4 = false) (fun y hy => ?_) (fun y hy hY => ?_)
    · simp only [TT.sat_ret, TT.sat_ite, TT.sat_ob, TT.sat_next, TT.sat_stuck, put_i, put_b, put_d, put_fi, put_fb, put_fd, Ob.ok, B.ev, E.ev, X.ev, AL.ev, cmp_t, cmp_f, arEv, V.plain, V2.plain, S.plain, S0.plain, V.val, V2.val, S.val, S0.val, bV, iV, List.all_cons, List.all_nil, Bool.and_true, Bool.and_self, envOf_i, envOf_b, envOf_d, List.map_cons, List.map_nil, true_and, Bool.not_eq_true', Bool.not_eq_false', Bool.not_not, Bool.and_eq_true, and_f, cell_lg, cell_lb, cell_lr, cmpP, val_i, val_b, val_d, aget, Nat.reduceBEq, beq_self_eq_true, Bool.false_eq_true, if_true, if_false, Nat.reduceLT, Nat.reduceSub, Nat.sub_self, Nat.lt_irrefl, hy, e1, i0, got, early, way, lts_len, hK, hidx, wp, cg, cb, cr, a0, a1, a2, eL, Q5b211, Q5b191, Q5b201, in_two, ours_three, hIB, eC, hcar, hEo]
      exact ⟨fun h => (by cases h), fun _ => ⟨fun h => (by cases h), fun _ => trivial⟩⟩
    simp only [TT.sat_ret, TT.sat_ite, TT.sat_ob, TT.sat_next, TT.sat_stuck, put_i, put_b, put_d, put_fi, put_fb, put_fd, Ob.ok, B.ev, E.ev, X.ev, AL.ev, cmp_t, cmp_f, arEv, V.plain, V2.plain, S.plain, S0.plain, V.val, V2.val, S.val, S0.val, bV, iV, List.all_cons, List.all_nil, Bool.and_true, Bool.and_self, envOf_i, envOf_b, envOf_d, List.map_cons, List.map_nil, true_and, Bool.not_eq_true', Bool.not_eq_false', Bool.not_not, Bool.and_eq_true, and_f, cell_lg, cell_lb, cell_lr, cmpP, val_i, val_b, val_d, aget, Nat.reduceBEq, beq_self_eq_true, Bool.false_eq_true, if_true, if_false, Nat.reduceLT, Nat.reduceSub, Nat.sub_self, Nat.lt_irrefl, hy, hY, early, Q5b203, ris_one, hris]
    refine ⟨fun h => (by cases h), fun _ => ?_⟩
    refine TT.sat_join (fun u => u.b 2 = false) (fun y2 hy2 => ?_) (fun y2 hy2 hY2 => ?_)
    · simp only [TT.sat_ret, TT.sat_ite, TT.sat_ob, TT.sat_next, TT.sat_stuck, put_i, put_b, put_d, put_fi, put_fb, put_fd, Ob.ok, B.ev, E.ev, X.ev, AL.ev, cmp_t, cmp_f, arEv, V.plain, V2.plain, S.plain, S0.plain, V.val, V2.val, S.val, S0.val, bV, iV, List.all_cons, List.all_nil, Bool.and_true, Bool.and_self, envOf_i, envOf_b, envOf_d, List.map_cons, List.map_nil, true_and, Bool.not_eq_true', Bool.not_eq_false', Bool.not_not, Bool.and_eq_true, and_f, cell_lg, cell_lb, cell_lr, cmpP, val_i, val_b, val_d, aget, Nat.reduceBEq, beq_self_eq_true, Bool.false_eq_true, if_true, if_false, Nat.reduceLT, Nat.reduceSub, Nat.sub_self, Nat.lt_irrefl, hy2, e1, i0, early, way, lts_len, hK, hidx, cg, cb, cr, a2, Q5b204, Q5i200, Q5b190, is_two, low_two]
      refine ⟨fun h => ?_, fun _ => trivial⟩
      unfold isS at h
      rw [decide_eq_true_eq] at h
      have hl := h.1
      have hl' := hl
      rw [lts_len] at hl'
      simp only [lgd _ _ hl', lrd _ _ hl']
      refine ⟨by omega, by omega, ?_⟩
      have hx := letR_agr (N := N) (e := x.e) l _ (List.getElem_mem hl) (by rw [← lg_cI hl]; exact h.2)
      rw [ntR_at hl, eN] at hx
      exact (ns14 _ _ _ _ _ _ _ _ _ _ _ _ _ _).2 hx
    simp only [TT.sat_ret, TT.sat_ite, TT.sat_ob, TT.sat_next, TT.sat_stuck, put_i, put_b, put_d, put_fi, put_fb, put_fd, Ob.ok, B.ev, E.ev, X.ev, AL.ev, cmp_t, cmp_f, arEv, V.plain, V2.plain, S.plain, S0.plain, V.val, V2.val, S.val, S0.val, bV, iV, List.all_cons, List.all_nil, Bool.and_true, Bool.and_self, envOf_i, envOf_b, envOf_d, List.map_cons, List.map_nil, true_and, Bool.not_eq_true', Bool.not_eq_false', Bool.not_not, Bool.and_eq_true, and_f, cell_lg, cell_lb, cell_lr, cmpP, val_i, val_b, val_d, aget, Nat.reduceBEq, beq_self_eq_true, Bool.false_eq_true, if_true, if_false, Nat.reduceLT, Nat.reduceSub, Nat.sub_self, Nat.lt_irrefl, hy2, hY2, early, lts_len]
    refine ⟨fun h => (by cases h), fun _ => ⟨by omega, ?_⟩⟩
    refine TT.sat_join (fun u => u.b 2 = putB x.g (lts N x.e) l) (fun y3 hy3 => ?_) (fun y3 hy3 hY3 => ?_)
    · simp only [TT.sat_ret, TT.sat_ite, TT.sat_ob, TT.sat_next, TT.sat_stuck, put_i, put_b, put_d, put_fi, put_fb, put_fd, Ob.ok, B.ev, E.ev, X.ev, AL.ev, cmp_t, cmp_f, arEv, V.plain, V2.plain, S.plain, S0.plain, V.val, V2.val, S.val, S0.val, bV, iV, List.all_cons, List.all_nil, Bool.and_true, Bool.and_self, envOf_i, envOf_b, envOf_d, List.map_cons, List.map_nil, true_and, Bool.not_eq_true', Bool.not_eq_false', Bool.not_not, Bool.and_eq_true, and_f, cell_lg, cell_lb, cell_lr, cmpP, val_i, val_b, val_d, aget, Nat.reduceBEq, beq_self_eq_true, Bool.false_eq_true, if_true, if_false, Nat.reduceLT, Nat.reduceSub, Nat.sub_self, Nat.lt_irrefl, hy3, e1, i0, got, early, way, lts_len, hK, hidx, cg, a2, Q5b204, is_two, wrap_in ((x.g : Int) + 4) (by omega) (by omega)]
      refine ⟨fun h => ⟨fun a => ?_, fun a => ?_⟩, fun h => ?_⟩
      · rw [putB, h, lss_dec]
        simp only [Bool.not_false, Bool.true_and]
        exact decide_eq_decide.2 ⟨fun b => ⟨a, b⟩, fun b => b.2⟩
      · rw [putB, decide_eq_false (fun b => a b.1), Bool.and_false]
      · rw [putB, h]; rfl
    refine TT.sat_join (fun u => u.d 2 = lts N (insL x.g x.e l)) (fun y4 hy4 => ?_) (fun y4 hy4 hY4 => ?_)
    · simp only [TT.sat_ret, TT.sat_ite, TT.sat_ob, TT.sat_next, TT.sat_stuck, put_i, put_b, put_d, put_fi, put_fb, put_fd, Ob.ok, B.ev, E.ev, X.ev, AL.ev, cmp_t, cmp_f, arEv, V.plain, V2.plain, S.plain, S0.plain, V.val, V2.val, S.val, S0.val, bV, iV, List.all_cons, List.all_nil, Bool.and_true, Bool.and_self, envOf_i, envOf_b, envOf_d, List.map_cons, List.map_nil, true_and, Bool.not_eq_true', Bool.not_eq_false', Bool.not_not, Bool.and_eq_true, and_f, cell_lg, cell_lb, cell_lr, cmpP, val_i, val_b, val_d, aget, Nat.reduceBEq, beq_self_eq_true, Bool.false_eq_true, if_true, if_false, Nat.reduceLT, Nat.reduceSub, Nat.sub_self, Nat.lt_irrefl, hy4, hY3, e1, i0, early, way, lts_len, hK, hidx, cg, cb, cr, a0, a1, a2, eL, Q5i200, low_two, X.ev]
      rw [← hins]
      refine ⟨fun h => ⟨by omega, by omega, by omega, ?_⟩, fun h => ?_⟩
      · unfold insR; rw [if_pos h, ← lts_len N x.e, subR_end, subR_zero, Int.toNat_natCast, List.append_nil, List.append_assoc]
      · unfold insR; rw [h, if_neg (by decide)]
    generalize hE1 : insL x.g x.e l = e at *
    refine TT.sat_join (fun u => u.i 1 = (runL e x.g : Nat) ∧ u.i 2 = (e.length : Nat) ∧ u.i 4 = (x.g : Int) + (runL e x.g : Nat) ∧ u.d 15 = ((lts N e).take (runL e x.g)).map ntR) (fun y5 hy5 => ?_) (fun y5 hy5 hY5 => ?_)
    · refine TT.sat_loop (fun z => ∃ i : Nat, z.i 0 = i ∧ i ≤ e.length ∧ z.i 1 = (e.length : Nat) ∧ z.i 4 = (x.g : Int) + i ∧ z.d 3 = ((lts N e).take i).map ntR ∧ ∀ k : Nat, k < i → lg (lts N e) k 2 = (x.g : Int) + k) (fun z => e.length - (z.i 0).toNat)
        ⟨0, ?_, by omega, ?_, ?_, ?_, fun k hk => by omega⟩ (fun z hz => ?_)
      · simp only [TT.sat_ret, TT.sat_ite, TT.sat_ob, TT.sat_next, TT.sat_stuck, put_i, put_b, put_d, put_fi, put_fb, put_fd, Ob.ok, B.ev, E.ev, X.ev, AL.ev, cmp_t, cmp_f, arEv, V.plain, V2.plain, S.plain, S0.plain, V.val, V2.val, S.val, S0.val, bV, iV, List.all_cons, List.all_nil, Bool.and_true, Bool.and_self, envOf_i, envOf_b, envOf_d, List.map_cons, List.map_nil, true_and, Bool.not_eq_true', Bool.not_eq_false', Bool.not_not, Bool.and_eq_true, and_f, cell_lg, cell_lb, cell_lr, cmpP, val_i, val_b, val_d, aget, Nat.reduceBEq, beq_self_eq_true, Bool.false_eq_true, if_true, if_false, Nat.reduceLT, Nat.reduceSub, Nat.sub_self, Nat.lt_irrefl]; rfl
      · simp only [TT.sat_ret, TT.sat_ite, TT.sat_ob, TT.sat_next, TT.sat_stuck, put_i, put_b, put_d, put_fi, put_fb, put_fd, Ob.ok, B.ev, E.ev, X.ev, AL.ev, cmp_t, cmp_f, arEv, V.plain, V2.plain, S.plain, S0.plain, V.val, V2.val, S.val, S0.val, bV, iV, List.all_cons, List.all_nil, Bool.and_true, Bool.and_self, envOf_i, envOf_b, envOf_d, List.map_cons, List.map_nil, true_and, Bool.not_eq_true', Bool.not_eq_false', Bool.not_not, Bool.and_eq_true, and_f, cell_lg, cell_lb, cell_lr, cmpP, val_i, val_b, val_d, aget, Nat.reduceBEq, beq_self_eq_true, Bool.false_eq_true, if_true, if_false, Nat.reduceLT, Nat.reduceSub, Nat.sub_self, Nat.lt_irrefl, hY4, lts_len]
      · simp only [TT.sat_ret, TT.sat_ite, TT.sat_ob, TT.sat_next, TT.sat_stuck, put_i, put_b, put_d, put_fi, put_fb, put_fd, Ob.ok, B.ev, E.ev, X.ev, AL.ev, cmp_t, cmp_f, arEv, V.plain, V2.plain, S.plain, S0.plain, V.val, V2.val, S.val, S0.val, bV, iV, List.all_cons, List.all_nil, Bool.and_true, Bool.and_self, envOf_i, envOf_b, envOf_d, List.map_cons, List.map_nil, true_and, Bool.not_eq_true', Bool.not_eq_false', Bool.not_not, Bool.and_eq_true, and_f, cell_lg, cell_lb, cell_lr, cmpP, val_i, val_b, val_d, aget, Nat.reduceBEq, beq_self_eq_true, Bool.false_eq_true, if_true, if_false, Nat.reduceLT, Nat.reduceSub, Nat.sub_self, Nat.lt_irrefl, got]; omega
      · simp only [TT.sat_ret, TT.sat_ite, TT.sat_ob, TT.sat_next, TT.sat_stuck, put_i, put_b, put_d, put_fi, put_fb, put_fd, Ob.ok, B.ev, E.ev, X.ev, AL.ev, cmp_t, cmp_f, arEv, V.plain, V2.plain, S.plain, S0.plain, V.val, V2.val, S.val, S0.val, bV, iV, List.all_cons, List.all_nil, Bool.and_true, Bool.and_self, envOf_i, envOf_b, envOf_d, List.map_cons, List.map_nil, true_and, Bool.not_eq_true', Bool.not_eq_false', Bool.not_not, Bool.and_eq_true, and_f, cell_lg, cell_lb, cell_lr, cmpP, val_i, val_b, val_d, aget, Nat.reduceBEq, beq_self_eq_true, Bool.false_eq_true, if_true, if_false, Nat.reduceLT, Nat.reduceSub, Nat.sub_self, Nat.lt_irrefl, X.ev, val_d, List.take_zero, List.map_nil]
      obtain ⟨i', j0, j1, j2, j3, j4, j5⟩ := hz
      have hse : subR (lts N e) (i' : Int) ((e.length : Nat) : Int) = (lts N e).drop i' := by rw [← lts_len N e, subR_end, Int.toNat_natCast]
      have hdl : ((lts N e).drop i').length = e.length - i' := by rw [List.length_drop, lts_len]
      simp only [TT.sat_ret, TT.sat_ite, TT.sat_ob, TT.sat_next, TT.sat_stuck, put_i, put_b, put_d, put_fi, put_fb, put_fd, Ob.ok, B.ev, E.ev, X.ev, AL.ev, cmp_t, cmp_f, arEv, V.plain, V2.plain, S.plain, S0.plain, V.val, V2.val, S.val, S0.val, bV, iV, List.all_cons, List.all_nil, Bool.and_true, Bool.and_self, envOf_i, envOf_b, envOf_d, List.map_cons, List.map_nil, true_and, Bool.not_eq_true', Bool.not_eq_false', Bool.not_not, Bool.and_eq_true, and_f, cell_lg, cell_lb, cell_lr, cmpP, val_i, val_b, val_d, aget, Nat.reduceBEq, beq_self_eq_true, Bool.false_eq_true, if_true, if_false, Nat.reduceLT, Nat.reduceSub, Nat.sub_self, Nat.lt_irrefl, hY4, j0, j2, j3, j4, X.ev, hse, hdl]
      have done : (i' < e.length → lg (lts N e) i' 2 ≠ (x.g : Int) + i') → (i' : Int) = (runL e x.g : Nat) ∧ (x.g : Int) + (i' : Int) = (x.g : Int) + (runL e x.g : Nat) ∧ ((lts N e).take i').map ntR = ((lts N e).take (runL e x.g)).map ntR := fun h => by
        rw [← hrun, ← run_uniq (e := lts N e) (g := x.g) (by rw [lts_len]; exact j1) j5 (fun q => h (by rw [lts_len] at q; exact q))]; exact ⟨rfl, rfl, rfl⟩
      rw [if_neg (by decide)]
      refine ⟨fun hc => ⟨hc, fun hq => ?_, fun hq => done (fun _ => hq)⟩, fun hc => done (fun h => by omega)⟩
      have hi' : i' < e.length := by omega
      rw [wrap_in ((x.g : Int) + (i' : Int) + 1) (by omega) (by omega)]
      refine ⟨by omega, ?_, by omega, ⟨i' + 1, Int.natCast_succ i', by omega, sub_back j1, by omega, ?_, fun k hk => ?_⟩, meas_next hi'⟩
      · simp only [List.length_append, List.length_map, List.length_take, lts_len, List.length_cons, List.length_nil]; omega
      · rw [map_take (by rw [lts_len]; exact hi'), List.append_nil]
      · by_cases ek : k = i'
        · subst ek; exact hq
        · exact j5 k (by omega)
    obtain ⟨z1, z2, z4, z5⟩ := hY5
    have htl : (N.take (x.g + runL e x.g)).length = x.g + runL e x.g := by rw [List.length_take]; omega
    have hnb : acks x.b ++ ([[D.i 2, D.i 1, D.i ((x.g : Int) + (runL e x.g : Nat)), D.b true, D.i 0, D.i 0, D.i 0, D.i 0, D.i 0, D.i 0, D.l []]] ++ []) = acks (x.b ++ [x.g + runL e x.g]) := by
      rw [← acks_app]; rfl
    have hne : subR (lts N e) ((runL e x.g : Nat) : Int) ((e.length : Nat) : Int) = lts N (e.drop (runL e x.g)) := by rw [← lts_drop, ← lts_len N e, subR_end, Int.toNat_natCast]
    simp only [TT.sat_ret, TT.sat_ite, TT.sat_ob, TT.sat_next, TT.sat_stuck, put_i, put_b, put_d, put_fi, put_fb, put_fd, Ob.ok, B.ev, E.ev, X.ev, AL.ev, cmp_t, cmp_f, arEv, V.plain, V2.plain, S.plain, S0.plain, V.val, V2.val, S.val, S0.val, bV, iV, List.all_cons, List.all_nil, Bool.and_true, Bool.and_self, envOf_i, envOf_b, envOf_d, List.map_cons, List.map_nil, true_and, Bool.not_eq_true', Bool.not_eq_false', Bool.not_not, Bool.and_eq_true, and_f, cell_lg, cell_lb, cell_lr, cmpP, val_i, val_b, val_d, aget, Nat.reduceBEq, beq_self_eq_true, Bool.false_eq_true, if_true, if_false, Nat.reduceLT, Nat.reduceSub, Nat.sub_self, Nat.lt_irrefl, hy5, e1, i0, told, back, way, lts_len, hK, hidx, cg, a0, a1, X.ev, z4, z5, htold, htl, hnb, acks_len]
    refine ⟨by omega, by rw [List.length_append]; simp only [List.length_cons, List.length_nil]; omega, ?_⟩
    refine ⟨⟨i + 1, step ((stepc1 (by omega) (by omega)).trans (by rw [hP, hA'])) ?_ ?_ ?_ ?_ ?_ ?_ ?_ ?_ ?_ ?_⟩, by rw [w1]; omega⟩
    all_goals simp only [TT.sat_ret, TT.sat_ite, TT.sat_ob, TT.sat_next, TT.sat_stuck, put_i, put_b, put_d, put_fi, put_fb, put_fd, Ob.ok, B.ev, E.ev, X.ev, AL.ev, cmp_t, cmp_f, arEv, V.plain, V2.plain, S.plain, S0.plain, V.val, V2.val, S.val, S0.val, bV, iV, List.all_cons, List.all_nil, Bool.and_true, Bool.and_self, envOf_i, envOf_b, envOf_d, List.map_cons, List.map_nil, true_and, Bool.not_eq_true', Bool.not_eq_false', Bool.not_not, Bool.and_eq_true, and_f, cell_lg, cell_lb, cell_lr, cmpP, val_i, val_b, val_d, aget, Nat.reduceBEq, beq_self_eq_true, Bool.false_eq_true, if_true, if_false, Nat.reduceLT, Nat.reduceSub, Nat.sub_self, Nat.lt_irrefl, X.ev, val_i, val_d, i0, sq, qu, got, way, back, told, left, w1, lts_len, hK, e1, hidx, wp, cg, a0, a1, hY4, z1, z2, z4, z5, htold, hnb, hne, hcut]
    all_goals subst hE1
    all_goals first | rfl | omega
  · -- a letter arrives
    simp only [way, lts_len]
    refine ⟨fun z => ?_, fun z => ?_⟩
    · refine ⟨⟨i + 1, step (stepw (.inr (.inl (by omega))) (by omega)) ?_ ?_ ?_ ?_ ?_ ?_ ?_ ?_ ?_ ?_⟩, by rw [w1]; omega⟩
      all_goals simp only [TT.sat_ret, TT.sat_ite, TT.sat_ob, TT.sat_next, TT.sat_stuck, put_i, put_b, put_d, put_fi, put_fb, put_fd, Ob.ok, B.ev, E.ev, X.ev, AL.ev, cmp_t, cmp_f, arEv, V.plain, V2.plain, S.plain, S0.plain, V.val, V2.val, S.val, S0.val, bV, iV, List.all_cons, List.all_nil, Bool.and_true, Bool.and_self, envOf_i, envOf_b, envOf_d, List.map_cons, List.map_nil, true_and, Bool.not_eq_true', Bool.not_eq_false', Bool.not_not, Bool.and_eq_true, and_f, cell_lg, cell_lb, cell_lr, cmpP, val_i, val_b, val_d, aget, Nat.reduceBEq, beq_self_eq_true, Bool.false_eq_true, if_true, if_false, Nat.reduceLT, Nat.reduceSub, Nat.sub_self, Nat.lt_irrefl, X.ev, val_i, val_d, i0, sq, qu, got, way, back, told, left, early, w1]
      all_goals first | rfl | assumption | omega
    have hp : K / 8 % x.w.length < x.w.length := Nat.mod_lt _ (by omega)
    have hidx : (IntKind.i64.wrap ((K : Int).tdiv 8)).tmod ((x.w.length : Nat) : Int) = ((K / 8 % x.w.length : Nat) : Int) := by rw [td8, wK, tmN]
    have wp : IntKind.i64.wrap (((K / 8 % x.w.length : Nat) : Int) + 1) = ((K / 8 % x.w.length : Nat) : Int) + 1 := wrap_in _ (by omega) (by omega)
    have hcut : subR (lts N x.w) 0 ((K / 8 % x.w.length : Nat) : Int) ++ subR (lts N x.w) (((K / 8 % x.w.length : Nat) : Int) + 1) ((x.w.length : Nat) : Int) = lts N (x.w.eraseIdx (K / 8 % x.w.length)) := by
      rw [← lts_erase, ← cut_erase _ (by rw [lts_len]; exact hp), lts_len]
    have ha : x.w.getD (K / 8 % x.w.length) 0 < x.h := hxO.wh _ (getD_mem hp)
    have cg := fun j => lts_lg (N := N) hp j
    have cb := fun j => lts_lb (N := N) hp j
    have cr := fun j => lts_lr (N := N) hp j
    generalize hA' : x.w.getD (K / 8 % x.w.length) 0 = l at *
    generalize hP : K / 8 % x.w.length = p at *
    have eL : [D.i 1, D.i 2, D.i (l : Int), D.b (cB (letR N l) 3), D.i (cI (letR N l) 4), D.i (cI (letR N l) 5), D.i (cI (letR N l) 6), D.i (cI (letR N l) 7), D.i (cI (letR N l) 8), D.i (cI (letR N l) 9), D.l (cR (letR N l) 10)] = letR N l := rfl
    have eN : ntR (letR N l) = [D.i (cI (letR N l) 4), D.i (cI (letR N l) 5), D.i (cI (letR N l) 6), D.i (cI (letR N l) 7), D.i (cI (letR N l) 8), D.i (cI (letR N l) 9), D.l (cR (letR N l) 10)] := rfl
    have a0 : cI (letR N l) 0 = 1 := rfl
    have a1 : cI (letR N l) 1 = 2 := rfl
    have a2 : cI (letR N l) 2 = (l : Int) := rfl
    have eC : carL (letR N l) = carR (letR N l) := rfl
    have hcar := letR_car hA (k := l) (by omega)
    have hwinE := lts_win (N := N) (g := x.g + 1) hxO.up (fun k hk => hxO.lo k hk) (fun k hk => by have := hxO.hi k hk; omega)
    have hris := win_ris hwinE
    have hEo := lts_ours hA (l := x.e) (fun k hk => by have := hxO.eh k hk; omega)
    have hel := win_len hwinE
    rw [lts_len] at hel
    have hlow := lowS_spec (lts N x.e) l
    rw [lts_len] at hlow
    have hlow1 := hlow.1
    clear hlow
    have lgd : ∀ (i : Nat) j, i < x.e.length → lg (v.d 8) (v.i 9 + (i : Int)) j = lg (lts N x.e) i j := fun i j h => by rw [lg_sub (by rw [early, lts_len]; exact h) lo, early]
    have lrd : ∀ (i : Nat) j, i < x.e.length → lr (v.d 8) (v.i 9 + (i : Int)) j = lr (lts N x.e) i j := fun i j h => by rw [lr_sub (by rw [early, lts_len]; exact h) lo, early]
    have hins := lts_ins (N := N) (g := x.g) hris l
    have he1 : ∀ k ∈ insL x.g x.e l, x.g ≤ k ∧ k < x.g + 4 ∧ k < x.h := fun k hk => by
      rcases mem_insL hk with q | ⟨rfl, q⟩
      · exact ⟨Nat.le_of_lt (hxO.lo k q), hxO.hi k q, hxO.eh k q⟩
      · exact ⟨q.1, q.2, ha⟩
    have hw1 := lts_win (N := N) (g := x.g) (insL_up (g := x.g) (l := l) hxO.up) (fun k hk => (he1 k hk).1) (fun k hk => (he1 k hk).2.1)
    have hl1 := win_len hw1
    rw [lts_len] at hl1
    have hrun := lts_run (N := N) (e := insL x.g x.e l) (g := x.g)
    obtain ⟨r1, _, _⟩ := runL_spec (insL x.g x.e l) x.g
    have hyg : x.g + runL (insL x.g x.e l) x.g ≤ x.h := (hxO.take_ok ha).gh
    have htold := told_eq hN (e := insL x.g x.e l) (g := x.g) (by omega)
    simp only [TT.sat_ret, TT.sat_ite, TT.sat_ob, TT.sat_next, TT.sat_stuck, put_i, put_b, put_d, put_fi, put_fb, put_fd, Ob.ok, B.ev, E.ev, X.ev, AL.ev, cmp_t, cmp_f, arEv, V.plain, V2.plain, S.plain, S0.plain, V.val, V2.val, S.val, S0.val, bV, iV, List.all_cons, List.all_nil, Bool.and_true, Bool.and_self, envOf_i, envOf_b, envOf_d, List.map_cons, List.map_nil, true_and, Bool.not_eq_true', Bool.not_eq_false', Bool.not_not, Bool.and_eq_true, and_f, cell_lg, cell_lb, cell_lr, cmpP, val_i, val_b, val_d, aget, Nat.reduceBEq, beq_self_eq_true, Bool.false_eq_true, if_true, if_false, Nat.reduceLT, Nat.reduceSub, Nat.sub_self, Nat.lt_irrefl, way, lts_len, hK, hidx, wp]
    iterate 3 (refine ⟨by omega, ?_⟩)
    refine TT.sat_join (fun u => u.b 4 = false) (fun y hy => ?_) (fun y hy hY => ?_)
    · simp only [TT.sat_ret, TT.sat_ite, TT.sat_ob, TT.sat_next, TT.sat_stuck, put_i, put_b, put_d, put_fi, put_fb, put_fd, Ob.ok, B.ev, E.ev, X.ev, AL.ev, cmp_t, cmp_f, arEv, V.plain, V2.plain, S.plain, S0.plain, V.val, V2.val, S.val, S0.val, bV, iV, List.all_cons, List.all_nil, Bool.and_true, Bool.and_self, envOf_i, envOf_b, envOf_d, List.map_cons, List.map_nil, true_and, Bool.not_eq_true', Bool.not_eq_false', Bool.not_not, Bool.and_eq_true, and_f, cell_lg, cell_lb, cell_lr, cmpP, val_i, val_b, val_d, aget, Nat.reduceBEq, beq_self_eq_true, Bool.false_eq_true, if_true, if_false, Nat.reduceLT, Nat.reduceSub, Nat.sub_self, Nat.lt_irrefl, hy, e1, i0, got, early, way, lts_len, hK, hidx, wp, cg, cb, cr, a0, a1, a2, eL, Q5b211, Q5b191, Q5b201, in_two, ours_three, hIB, eC, hcar, hEo]
      exact ⟨fun h => (by cases h), fun _ => ⟨fun h => (by cases h), fun _ => trivial⟩⟩
    simp only [TT.sat_ret, TT.sat_ite, TT.sat_ob, TT.sat_next, TT.sat_stuck, put_i, put_b, put_d, put_fi, put_fb, put_fd, Ob.ok, B.ev, E.ev, X.ev, AL.ev, cmp_t, cmp_f, arEv, V.plain, V2.plain, S.plain, S0.plain, V.val, V2.val, S.val, S0.val, bV, iV, List.all_cons, List.all_nil, Bool.and_true, Bool.and_self, envOf_i, envOf_b, envOf_d, List.map_cons, List.map_nil, true_and, Bool.not_eq_true', Bool.not_eq_false', Bool.not_not, Bool.and_eq_true, and_f, cell_lg, cell_lb, cell_lr, cmpP, val_i, val_b, val_d, aget, Nat.reduceBEq, beq_self_eq_true, Bool.false_eq_true, if_true, if_false, Nat.reduceLT, Nat.reduceSub, Nat.sub_self, Nat.lt_irrefl, hy, hY, early, Q5b203, ris_one, hris]
    refine ⟨fun h => (by cases h), fun _ => ?_⟩
    refine TT.sat_join (fun u => u.b 2 = false) (fun y2 hy2 => ?_) (fun y2 hy2 hY2 => ?_)
    · simp only [TT.sat_ret, TT.sat_ite, TT.sat_ob, TT.sat_next, TT.sat_stuck, put_i, put_b, put_d, put_fi, put_fb, put_fd, Ob.ok, B.ev, E.ev, X.ev, AL.ev, cmp_t, cmp_f, arEv, V.plain, V2.plain, S.plain, S0.plain, V.val, V2.val, S.val, S0.val, bV, iV, List.all_cons, List.all_nil, Bool.and_true, Bool.and_self, envOf_i, envOf_b, envOf_d, List.map_cons, List.map_nil, true_and, Bool.not_eq_true', Bool.not_eq_false', Bool.not_not, Bool.and_eq_true, and_f, cell_lg, cell_lb, cell_lr, cmpP, val_i, val_b, val_d, aget, Nat.reduceBEq, beq_self_eq_true, Bool.false_eq_true, if_true, if_false, Nat.reduceLT, Nat.reduceSub, Nat.sub_self, Nat.lt_irrefl, hy2, e1, i0, early, way, lts_len, hK, hidx, cg, cb, cr, a2, Q5b204, Q5i200, Q5b190, is_two, low_two]
      refine ⟨fun h => ?_, fun _ => trivial⟩
      unfold isS at h
      rw [decide_eq_true_eq] at h
      have hl := h.1
      have hl' := hl
      rw [lts_len] at hl'
      simp only [lgd _ _ hl', lrd _ _ hl']
      refine ⟨by omega, by omega, ?_⟩
      have hx := letR_agr (N := N) (e := x.e) l _ (List.getElem_mem hl) (by rw [← lg_cI hl]; exact h.2)
      rw [ntR_at hl, eN] at hx
      exact (ns14 _ _ _ _ _ _ _ _ _ _ _ _ _ _).2 hx
    simp only [TT.sat_ret, TT.sat_ite, TT.sat_ob, TT.sat_next, TT.sat_stuck, put_i, put_b, put_d, put_fi, put_fb, put_fd, Ob.ok, B.ev, E.ev, X.ev, AL.ev, cmp_t, cmp_f, arEv, V.plain, V2.plain, S.plain, S0.plain, V.val, V2.val, S.val, S0.val, bV, iV, List.all_cons, List.all_nil, Bool.and_true, Bool.and_self, envOf_i, envOf_b, envOf_d, List.map_cons, List.map_nil, true_and, Bool.not_eq_true', Bool.not_eq_false', Bool.not_not, Bool.and_eq_true, and_f, cell_lg, cell_lb, cell_lr, cmpP, val_i, val_b, val_d, aget, Nat.reduceBEq, beq_self_eq_true, Bool.false_eq_true, if_true, if_false, Nat.reduceLT, Nat.reduceSub, Nat.sub_self, Nat.lt_irrefl, hy2, hY2, early, lts_len]
    refine ⟨fun h => (by cases h), fun _ => ⟨by omega, ?_⟩⟩
    refine TT.sat_join (fun u => u.b 2 = putB x.g (lts N x.e) l) (fun y3 hy3 => ?_) (fun y3 hy3 hY3 => ?_)
    · simp only [TT.sat_ret, TT.sat_ite, TT.sat_ob, TT.sat_next, TT.sat_stuck, put_i, put_b, put_d, put_fi, put_fb, put_fd, Ob.ok, B.ev, E.ev, X.ev, AL.ev, cmp_t, cmp_f, arEv, V.plain, V2.plain, S.plain, S0.plain, V.val, V2.val, S.val, S0.val, bV, iV, List.all_cons, List.all_nil, Bool.and_true, Bool.and_self, envOf_i, envOf_b, envOf_d, List.map_cons, List.map_nil, true_and, Bool.not_eq_true', Bool.not_eq_false', Bool.not_not, Bool.and_eq_true, and_f, cell_lg, cell_lb, cell_lr, cmpP, val_i, val_b, val_d, aget, Nat.reduceBEq, beq_self_eq_true, Bool.false_eq_true, if_true, if_false, Nat.reduceLT, Nat.reduceSub, Nat.sub_self, Nat.lt_irrefl, hy3, e1, i0, got, early, way, lts_len, hK, hidx, cg, a2, Q5b204, is_two, wrap_in ((x.g : Int) + 4) (by omega) (by omega)]
      refine ⟨fun h => ⟨fun a => ?_, fun a => ?_⟩, fun h => ?_⟩
      · rw [putB, h, lss_dec]
        simp only [Bool.not_false, Bool.true_and]
        exact decide_eq_decide.2 ⟨fun b => ⟨a, b⟩, fun b => b.2⟩
      · rw [putB, decide_eq_false (fun b => a b.1), Bool.and_false]
      · rw [putB, h]; rfl
    refine TT.sat_join (fun u => u.d 2 = lts N (insL x.g x.e l)) (fun y4 hy4 => ?_) (fun y4 hy4 hY4 => ?_)
    · simp only [TT.sat_ret, TT.sat_ite, TT.sat_ob, TT.sat_next, TT.sat_stuck, put_i, put_b, put_d, put_fi, put_fb, put_fd, Ob.ok, B.ev, E.ev, X.ev, AL.ev, cmp_t, cmp_f, arEv, V.plain, V2.plain, S.plain, S0.plain, V.val, V2.val, S.val, S0.val, bV, iV, List.all_cons, List.all_nil, Bool.and_true, Bool.and_self, envOf_i, envOf_b, envOf_d, List.map_cons, List.map_nil, true_and, Bool.not_eq_true', Bool.not_eq_false', Bool.not_not, Bool.and_eq_true, and_f, cell_lg, cell_lb, cell_lr, cmpP, val_i, val_b, val_d, aget, Nat.reduceBEq, beq_self_eq_true, Bool.false_eq_true, if_true, if_false, Nat.reduceLT, Nat.reduceSub, Nat.sub_self, Nat.lt_irrefl, hy4, hY3, e1, i0, early, way, lts_len, hK, hidx, cg, cb, cr, a0, a1, a2, eL, Q5i200, low_two, X.ev]
      rw [← hins]
      refine ⟨fun h => ⟨by omega, by omega, by omega, ?_⟩, fun h => ?_⟩
      · unfold insR; rw [if_pos h, ← lts_len N x.e, subR_end, subR_zero, Int.toNat_natCast, List.append_nil, List.append_assoc]
      · unfold insR; rw [h, if_neg (by decide)]
    generalize hE1 : insL x.g x.e l = e at *
    refine TT.sat_join (fun u => u.i 1 = (runL e x.g : Nat) ∧ u.i 2 = (e.length : Nat) ∧ u.i 4 = (x.g : Int) + (runL e x.g : Nat) ∧ u.d 15 = ((lts N e).take (runL e x.g)).map ntR) (fun y5 hy5 => ?_) (fun y5 hy5 hY5 => ?_)
    · refine TT.sat_loop (fun z => ∃ i : Nat, z.i 0 = i ∧ i ≤ e.length ∧ z.i 1 = (e.length : Nat) ∧ z.i 4 = (x.g : Int) + i ∧ z.d 3 = ((lts N e).take i).map ntR ∧ ∀ k : Nat, k < i → lg (lts N e) k 2 = (x.g : Int) + k) (fun z => e.length - (z.i 0).toNat)
        ⟨0, ?_, by omega, ?_, ?_, ?_, fun k hk => by omega⟩ (fun z hz => ?_)
      · simp only [TT.sat_ret, TT.sat_ite, TT.sat_ob, TT.sat_next, TT.sat_stuck, put_i, put_b, put_d, put_fi, put_fb, put_fd, Ob.ok, B.ev, E.ev, X.ev, AL.ev, cmp_t, cmp_f, arEv, V.plain, V2.plain, S.plain, S0.plain, V.val, V2.val, S.val, S0.val, bV, iV, List.all_cons, List.all_nil, Bool.and_true, Bool.and_self, envOf_i, envOf_b, envOf_d, List.map_cons, List.map_nil, true_and, Bool.not_eq_true', Bool.not_eq_false', Bool.not_not, Bool.and_eq_true, and_f, cell_lg, cell_lb, cell_lr, cmpP, val_i, val_b, val_d, aget, Nat.reduceBEq, beq_self_eq_true, Bool.false_eq_true, if_true, if_false, Nat.reduceLT, Nat.reduceSub, Nat.sub_self, Nat.lt_irrefl]; rfl
      · simp only [TT.sat_ret, TT.sat_ite, TT.sat_ob, TT.sat_next, TT.sat_stuck, put_i, put_b, put_d, put_fi, put_fb, put_fd, Ob.ok, B.ev, E.ev, X.ev, AL.ev, cmp_t, cmp_f, arEv, V.plain, V2.plain, S.plain, S0.plain, V.val, V2.val, S.val, S0.val, bV, iV, List.all_cons, List.all_nil, Bool.and_true, Bool.and_self, envOf_i, envOf_b, envOf_d, List.map_cons, List.map_nil, true_and, Bool.not_eq_true', Bool.not_eq_false', Bool.not_not, Bool.and_eq_true, and_f, cell_lg, cell_lb, cell_lr, cmpP, val_i, val_b, val_d, aget, Nat.reduceBEq, beq_self_eq_true, Bool.false_eq_true, if_true, if_false, Nat.reduceLT, Nat.reduceSub, Nat.sub_self, Nat.lt_irrefl, hY4, lts_len]
      · simp only [TT.sat_ret, TT.sat_ite, TT.sat_ob, TT.sat_next, TT.sat_stuck, put_i, put_b, put_d, put_fi, put_fb, put_fd, Ob.ok, B.ev, E.ev, X.ev, AL.ev, cmp_t, cmp_f, arEv, V.plain, V2.plain, S.plain, S0.plain, V.val, V2.val, S.val, S0.val, bV, iV, List.all_cons, List.all_nil, Bool.and_true, Bool.and_self, envOf_i, envOf_b, envOf_d, List.map_cons, List.map_nil, true_and, Bool.not_eq_true', Bool.not_eq_false', Bool.not_not, Bool.and_eq_true, and_f, cell_lg, cell_lb, cell_lr, cmpP, val_i, val_b, val_d, aget, Nat.reduceBEq, beq_self_eq_true, Bool.false_eq_true, if_true, if_false, Nat.reduceLT, Nat.reduceSub, Nat.sub_self, Nat.lt_irrefl, got]; omega
      · simp only [TT.sat_ret, TT.sat_ite, TT.sat_ob, TT.sat_next, TT.sat_stuck, put_i, put_b, put_d, put_fi, put_fb, put_fd, Ob.ok, B.ev, E.ev, X.ev, AL.ev, cmp_t, cmp_f, arEv, V.plain, V2.plain, S.plain, S0.plain, V.val, V2.val, S.val, S0.val, bV, iV, List.all_cons, List.all_nil, Bool.and_true, Bool.and_self, envOf_i, envOf_b, envOf_d, List.map_cons, List.map_nil, true_and, Bool.not_eq_true', Bool.not_eq_false', Bool.not_not, Bool.and_eq_true, and_f, cell_lg, cell_lb, cell_lr, cmpP, val_i, val_b, val_d, aget, Nat.reduceBEq, beq_self_eq_true, Bool.false_eq_true, if_true, if_false, Nat.reduceLT, Nat.reduceSub, Nat.sub_self, Nat.lt_irrefl, X.ev, val_d, List.take_zero, List.map_nil]
      obtain ⟨i', j0, j1, j2, j3, j4, j5⟩ := hz
      have hse : subR (lts N e) (i' : Int) ((e.length : Nat) : Int) = (lts N e).drop i' := by rw [← lts_len N e, subR_end, Int.toNat_natCast]
      have hdl : ((lts N e).drop i').length = e.length - i' := by rw [List.length_drop, lts_len]
      simp only [TT.sat_ret, TT.sat_ite, TT.sat_ob, TT.sat_next, TT.sat_stuck, put_i, put_b, put_d, put_fi, put_fb, put_fd, Ob.ok, B.ev, E.ev, X.ev, AL.ev, cmp_t, cmp_f, arEv, V.plain, V2.plain, S.plain, S0.plain, V.val, V2.val, S.val, S0.val, bV, iV, List.all_cons, List.all_nil, Bool.and_true, Bool.and_self, envOf_i, envOf_b, envOf_d, List.map_cons, List.map_nil, true_and, Bool.not_eq_true', Bool.not_eq_false', Bool.not_not, Bool.and_eq_true, and_f, cell_lg, cell_lb, cell_lr, cmpP, val_i, val_b, val_d, aget, Nat.reduceBEq, beq_self_eq_true, Bool.false_eq_true, if_true, if_false, Nat.reduceLT, Nat.reduceSub, Nat.sub_self, Nat.lt_irrefl, hY4, j0, j2, j3, j4, X.ev, hse, hdl]
      have done : (i' < e.length → lg (lts N e) i' 2 ≠ (x.g : Int) + i') → (i' : Int) = (runL e x.g : Nat) ∧ (x.g : Int) + (i' : Int) = (x.g : Int) + (runL e x.g : Nat) ∧ ((lts N e).take i').map ntR = ((lts N e).take (runL e x.g)).map ntR := fun h => by
        rw [← hrun, ← run_uniq (e := lts N e) (g := x.g) (by rw [lts_len]; exact j1) j5 (fun q => h (by rw [lts_len] at q; exact q))]; exact ⟨rfl, rfl, rfl⟩
      rw [if_neg (by decide)]
      refine ⟨fun hc => ⟨hc, fun hq => ?_, fun hq => done (fun _ => hq)⟩, fun hc => done (fun h => by omega)⟩
      have hi' : i' < e.length := by omega
      rw [wrap_in ((x.g : Int) + (i' : Int) + 1) (by omega) (by omega)]
      refine ⟨by omega, ?_, by omega, ⟨i' + 1, Int.natCast_succ i', by omega, sub_back j1, by omega, ?_, fun k hk => ?_⟩, meas_next hi'⟩
      · simp only [List.length_append, List.length_map, List.length_take, lts_len, List.length_cons, List.length_nil]; omega
      · rw [map_take (by rw [lts_len]; exact hi'), List.append_nil]
      · by_cases ek : k = i'
        · subst ek; exact hq
        · exact j5 k (by omega)
    obtain ⟨z1, z2, z4, z5⟩ := hY5
    have htl : (N.take (x.g + runL e x.g)).length = x.g + runL e x.g := by rw [List.length_take]; omega
    have hnb : acks x.b ++ ([[D.i 2, D.i 1, D.i ((x.g : Int) + (runL e x.g : Nat)), D.b true, D.i 0, D.i 0, D.i 0, D.i 0, D.i 0, D.i 0, D.l []]] ++ []) = acks (x.b ++ [x.g + runL e x.g]) := by
      rw [← acks_app]; rfl
    have hne : subR (lts N e) ((runL e x.g : Nat) : Int) ((e.length : Nat) : Int) = lts N (e.drop (runL e x.g)) := by rw [← lts_drop, ← lts_len N e, subR_end, Int.toNat_natCast]
    simp only [TT.sat_ret, TT.sat_ite, TT.sat_ob, TT.sat_next, TT.sat_stuck, put_i, put_b, put_d, put_fi, put_fb, put_fd, Ob.ok, B.ev, E.ev, X.ev, AL.ev, cmp_t, cmp_f, arEv, V.plain, V2.plain, S.plain, S0.plain, V.val, V2.val, S.val, S0.val, bV, iV, List.all_cons, List.all_nil, Bool.and_true, Bool.and_self, envOf_i, envOf_b, envOf_d, List.map_cons, List.map_nil, true_and, Bool.not_eq_true', Bool.not_eq_false', Bool.not_not, Bool.and_eq_true, and_f, cell_lg, cell_lb, cell_lr, cmpP, val_i, val_b, val_d, aget, Nat.reduceBEq, beq_self_eq_true, Bool.false_eq_true, if_true, if_false, Nat.reduceLT, Nat.reduceSub, Nat.sub_self, Nat.lt_irrefl, hy5, e1, i0, told, back, way, lts_len, hK, hidx, cg, a0, a1, X.ev, z4, z5, htold, htl, hnb, acks_len]
    refine ⟨by omega, by rw [List.length_append]; simp only [List.length_cons, List.length_nil]; omega, ?_⟩
    refine ⟨⟨i + 1, step ((stepc2 (by omega) (by omega)).trans (by rw [hP, hA'])) ?_ ?_ ?_ ?_ ?_ ?_ ?_ ?_ ?_ ?_⟩, by rw [w1]; omega⟩
    all_goals simp only [TT.sat_ret, TT.sat_ite, TT.sat_ob, TT.sat_next, TT.sat_stuck, put_i, put_b, put_d, put_fi, put_fb, put_fd, Ob.ok, B.ev, E.ev, X.ev, AL.ev, cmp_t, cmp_f, arEv, V.plain, V2.plain, S.plain, S0.plain, V.val, V2.val, S.val, S0.val, bV, iV, List.all_cons, List.all_nil, Bool.and_true, Bool.and_self, envOf_i, envOf_b, envOf_d, List.map_cons, List.map_nil, true_and, Bool.not_eq_true', Bool.not_eq_false', Bool.not_not, Bool.and_eq_true, and_f, cell_lg, cell_lb, cell_lr, cmpP, val_i, val_b, val_d, aget, Nat.reduceBEq, beq_self_eq_true, Bool.false_eq_true, if_true, if_false, Nat.reduceLT, Nat.reduceSub, Nat.sub_self, Nat.lt_irrefl, X.ev, val_i, val_d, i0, sq, qu, got, way, back, told, left, w1, lts_len, hK, e1, hidx, wp, cg, a0, a1, hY4, z1, z2, z4, z5, htold, hnb, hne]
    all_goals subst hE1
    all_goals first | rfl | omega
end Go.Proofs.YtbbjlleaofgddaaGreat
