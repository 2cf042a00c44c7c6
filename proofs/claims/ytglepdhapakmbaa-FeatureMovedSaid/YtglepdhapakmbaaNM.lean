/- NM, merged: TEx, Ex, Lv0, Mu, Zx, Ey. -/
import Derived.Test.YtglepdhapakmbaaMD
import Derived.Test.YtglepdhapakmbaaMW
import Derived.Test.YtglepdhapakmbaaMP
import Derived.Test.YtglepdhapakmbaaMK
import Derived.Test.YtglepdhapakmbaaNK
set_option linter.unusedSimpArgs false
set_option linter.unusedVariables false
/- Chapter 07: the tree of the reference's Valid of a point. -/
namespace Go.Proofs.Ytglepdhapakmbaa
open Go.RowKit
-- term trR1V7: call Try.prog [] (Lt.of []) 100 18 (symArgs 0 [pt]) [] 0
def trR1V7 : TT OpR :=
(.ite (.cmp .geq (.var 0) (.lit (-1000000)))
  (.ite (.cmp .leq (.var 0) (.lit 1000000))
    (.ite (.cmp .geq (.var 1) (.lit (-1000000)))
      (.ret ((.v (.one (.z (.bool (.cmp .leq (.var 1) (.lit 1000000)))))), [], 1))
      (.ret ((.v (.one (.z (.bool (.lit false))))), [], 1)))
    (.ret ((.v (.one (.z (.bool (.lit false))))), [], 1)))
  (.ret ((.v (.one (.z (.bool (.lit false))))), [], 1)))
-- end trR1V7
set_option maxRecDepth 100000 in
theorem trR1V7_is : T.norm 0 (call Try.prog [] (Lt.of []) 100 18 (symArgs 0 [pt]) [] 0) TT.ret = trR1V7 := by kernel_rfl
theorem trR1V7_low : trR1V7.low 1000 = true := by kernel_rfl
end Go.Proofs.Ytglepdhapakmbaa
/- Chapter 07: what the reference's Valid of a point answers. -/
namespace Go.Proofs.Ytglepdhapakmbaa
open Go.RowKit
theorem gR1V7 : Gives Try.prog 18 [pt] (fun ds => .bool (placeL ds)) := by
  refine GivesIf.all (fn_gives K (by kernel_rfl) (fun ρ h => .nil) (by kernel_rfl) trR1V7_is trR1V7_low (by decide) (fun W vals ds _ _ => ?_))
  simp only [trR1V7, TT.sat_ret, TT.sat_ite, TT.sat_ob, TT.sat_next, TT.sat_stuck, put_i, put_b, put_d, put_fi, put_fb, put_fd, Ob.ok, B.ev, E.ev, X.ev, AL.ev, cmp_t, cmp_f, arEv, V.plain, V2.plain, S.plain, S0.plain, V.val, V2.val, S.val, S0.val, bV, iV, List.all_cons, List.all_nil, Bool.and_true, Bool.and_self, envOf_i, envOf_b, envOf_d, List.map_cons, List.map_nil, true_and, Bool.not_eq_true', Bool.not_eq_false', Bool.not_not, Bool.and_eq_true, and_f, cell_lg, cell_lb, cell_lr, cmpP, val_i, val_b, val_d, aget, Nat.reduceBEq, beq_self_eq_true, Bool.false_eq_true, if_true, if_false, Nat.reduceLT, Nat.reduceSub, Nat.sub_self, Nat.lt_irrefl]
  simp only [placeL, placeB]
  refine ⟨fun h => ⟨fun h' => ⟨fun h'' => ?_, fun h'' => ?_⟩, fun h' => ?_⟩, fun h => ?_⟩
  all_goals (congr 1; rw [Bool.eq_iff_iff]; try rw [cmp_t])
  all_goals (simp only [cmpP, decide_eq_true_eq, Bool.false_eq_true, false_iff]; omega)
def cR1V7 := ctD [pt] fun al => .ret (bV (bF 3 placeL al))
theorem cR1V7_ok {ρ : Env} (h : Sees ρ K79 132) : CtOne Try.prog ρ 18 cR1V7 :=
  ctD_ok gR1V7 (fun _ => rfl) (fun al => by simp only [iV, bV, V.s0, V.val, V2.val, S.val, S0.val, bF_ev (s := 3) (f := placeL) (fun l => by rw [(h 3 l (by decide)).2]; simp only [K79, K78, K77, K76, K75, K74, K73, K72, K71, KI, KH, KG, KF, KE, KD, KC, KB, KA, K9, K8, K7, K6, K5, K])]; try rfl)
def ctE12 : Ct := (18, cR1V7) :: ctE11
theorem ctE12_ok {ρ : Env} (h : Sees ρ K79 132) : CtOk Try.prog ρ ctE12 := .cons (cR1V7_ok h) (ctE11_ok h)
end Go.Proofs.Ytglepdhapakmbaa
/- Chapters 38, 07: points that are moved as a whole. -/
namespace Go.Proofs.Ytglepdhapakmbaa
open Go.RowKit
section
variable {s t : Int}
theorem crossI_mv (ax ay bx b x y : Int) : crossI (ax + s) (ay + t) (bx + s) (b + t) (x + s) (y + t) = crossI ax ay bx b x y := by
  unfold crossI
  rw [show bx + s - (ax + s) = bx - ax by omega, show y + t - (ay + t) = y - ay by omega, show b + t - (ay + t) = b - ay by omega, show x + s - (ax + s) = x - ax by omega]
theorem dotI_mv (ax ay bx b x y : Int) : dotI (ax + s) (ay + t) (bx + s) (b + t) (x + s) (y + t) = dotI ax ay bx b x y := by
  unfold dotI
  rw [show bx + s - (ax + s) = bx - ax by omega, show y + t - (ay + t) = y - ay by omega, show b + t - (ay + t) = b - ay by omega, show x + s - (ax + s) = x - ax by omega]
theorem dist2_mv (ax ay bx b : Int) : dist2 (ax + s) (ay + t) (bx + s) (b + t) = dist2 ax ay bx b := by
  unfold dist2
  rw [show bx + s - (ax + s) = bx - ax by omega, show b + t - (ay + t) = b - ay by omega]
theorem onB_mv (x y ax ay bx b : Int) : onB (x + s) (y + t) (ax + s) (ay + t) (bx + s) (b + t) = onB x y ax ay bx b := by
  unfold onB turnI
  rw [crossI_mv]
  generalize sgn (crossI ax ay bx b x y) = z
  rw [decide_eq_decide]
  omega
theorem crossP_mv (x y ax ay bx b : Int) : crossP (x + s) (y + t) (ax + s) (ay + t) (bx + s) (b + t) = crossP x y ax ay bx b := by
  unfold crossP
  rw [crossI_mv, crossI_mv]
  generalize crossI bx b ax ay x y = u
  generalize crossI ax ay bx b x y = v
  by_cases h : b < ay
  · rw [if_pos h, if_pos (by omega), decide_eq_decide]; omega
  · rw [if_neg h, if_neg (by omega), decide_eq_decide]; omega
theorem meetB_mv (ax ay bx b x y dx dy : Int) : meetB (ax + s) (ay + t) (bx + s) (b + t) (x + s) (y + t) (dx + s) (dy + t) = meetB ax ay bx b x y dx dy := by
  unfold meetB turnI
  simp only [crossI_mv, onB_mv]
theorem nearB_mv (x y ax ay bx b d : Int) : nearB (x + s) (y + t) (ax + s) (ay + t) (bx + s) (b + t) d = nearB x y ax ay bx b d := by
  unfold nearB
  simp only [crossI_mv, dotI_mv, dist2_mv]
theorem closeB_mv (ax ay bx b x y dx dy d : Int) : closeB (ax + s) (ay + t) (bx + s) (b + t) (x + s) (y + t) (dx + s) (dy + t) d = closeB ax ay bx b x y dx dy d := by
  unfold closeB
  simp only [meetB_mv, nearB_mv]
end
/-- The corners of a are those of r, moved. -/
def MvC (r a : Rows) (s t : Int) : Prop := a.length = r.length ∧ ∀ j : Nat, j < r.length → lg a j 0 = lg r j 0 + s ∧ lg a j 1 = lg r j 1 + t
/-- The legs of m are those of r, moved. -/
def MvL (r m : Rows) (s t : Int) : Prop := m.length = r.length ∧ ∀ j : Nat, j < r.length → (lg m j 0 = lg r j 0 + s ∧ lg m j 1 = lg r j 1 + t) ∧ (lg m j 2 = lg r j 2 + s ∧ lg m j 3 = lg r j 3 + t) ∧ lg m j 4 = lg r j 4 ∧ lg m j 5 = lg r j 5
section
variable {r a : Rows} {s t : Int}
theorem onN_mv (h : MvC r a s t) (x y : Int) : ∀ (f i : Nat), i + f = r.length → onN a (x + s) (y + t) f i = onN r x y f i
  | 0, _, _ => rfl
  | f + 1, i, hi => by
    obtain ⟨e1, e2⟩ := h.2 i (by omega)
    obtain ⟨e3, e4⟩ := h.2 (nxt r.length i) (nxt_lt (by omega))
    rw [onN, onN, onN_mv h x y f (i + 1) (by omega)]
    unfold cx cy
    rw [h.1, e1, e2, e3, e4, onB_mv]
theorem parN_mv (h : MvC r a s t) (x y : Int) : ∀ (f i : Nat), i + f = r.length → parN a (x + s) (y + t) f i = parN r x y f i
  | 0, _, _ => rfl
  | f + 1, i, hi => by
    obtain ⟨e1, e2⟩ := h.2 i (by omega)
    obtain ⟨e3, e4⟩ := h.2 (nxt r.length i) (nxt_lt (by omega))
    rw [parN, parN, parN_mv h x y f (i + 1) (by omega)]
    unfold crE cx cy
    rw [h.1, e1, e2, e3, e4, crossP_mv]
theorem placeN_mv (h : MvC r a s t) (hr : polyB r = true) (ha : polyB a = true) {x y : Int} (hq : placeB x y = true) (hq' : placeB (x + s) (y + t) = true) : placeN a (x + s) (y + t) a.length 0 false = placeN r x y r.length 0 false := by
  rw [placeN_eq hr hq _ _ _ (by omega), placeN_eq ha hq' _ _ _ (by omega), h.1, onN_mv h x y _ _ (by omega), parN_mv h x y _ _ (by omega)]
end
end Go.Proofs.Ytglepdhapakmbaa
/- Lists whose rows are changed one after the other. -/
namespace Go.Proofs.Ytglepdhapakmbaa
open Go.RowKit
/-- How long a row is. -/
def rl (r : Rows) (i : Nat) : Nat := ((r[i]?).getD []).length
theorem updR_len (m : Rows) (i : Int) (j : Nat) (l : List D) : (updR m i j l).length = m.length := by simp [updR]
theorem rl_upd {m : Rows} {i : Nat} {j : Nat} {l : List D} (hi : i < m.length) (hl : j + l.length ≤ rl m i) (i' : Nat) : rl (updR m i j l) i' = rl m i' := by
  unfold rl updR at *
  rw [Int.toNat_natCast, List.getElem?_modify]
  rw [List.getElem?_eq_getElem hi] at hl
  by_cases e : i = i'
  · subst e
    rw [List.getElem?_eq_getElem hi]
    simp only [Option.getD_some] at hl
    simp
    omega
  · simp [e]
theorem lg_upd {m : Rows} {i : Nat} {j : Nat} {l : List D} (hi : i < m.length) (hl : j + l.length ≤ rl m i) (i' c : Nat) :
    lg (updR m i j l) i' c = if i' = i ∧ j ≤ c ∧ c < j + l.length then ((l[c - j]?).getD (.i 0)).int else lg m i' c := by
  unfold lg cellAt updR rl at *
  rw [Int.toNat_natCast, Int.toNat_natCast, List.getElem?_modify]
  rw [List.getElem?_eq_getElem hi] at hl
  simp only [Option.getD_some] at hl
  by_cases e : i = i'
  · subst e
    rw [List.getElem?_eq_getElem hi]
    simp only [if_true, Option.map_eq_map, Option.map_some, Option.getD_some, true_and]
    have ht : (List.take j m[i]).length = j := by rw [List.length_take]; omega
    by_cases q : c < j
    · rw [if_neg (by omega), List.append_assoc, List.getElem?_append_left (by omega), List.getElem?_take_of_lt q]
    · by_cases q2 : c < j + l.length
      · rw [if_pos (by omega), List.append_assoc, List.getElem?_append_right (by omega), ht, List.getElem?_append_left (by omega)]
      · rw [if_neg (by omega), List.getElem?_append_right (by rw [List.length_append, ht]; omega), List.length_append, ht, List.getElem?_drop]
        congr 3
        omega
  · rw [if_neg (by omega)]
    simp only [if_neg e]
    simp
theorem lg_some {r : Rows} {i c : Nat} (h : lg r i c ≠ 0) : c < rl r i := by
  unfold lg cellAt at h
  unfold rl
  rw [Int.toNat_natCast] at h
  rcases Nat.lt_or_ge c ((r[i]?).getD []).length with q | q
  · exact q
  · rw [List.getElem?_eq_none q] at h
    exact absurd rfl h
theorem lg_app_low {r s : Rows} {i c : Nat} (h : i < r.length) : lg (r ++ s) i c = lg r i c := by
  unfold lg cellAt
  rw [Int.toNat_natCast, List.getElem?_append_left h]
theorem lg_app_new {r : Rows} {row : List D} {c : Nat} : lg (r ++ [row]) (r.length : Nat) c = ((row[c]?).getD (.i 0)).int := by
  unfold lg cellAt
  rw [Int.toNat_natCast, List.getElem?_append_right (Nat.le_refl _), Nat.sub_self]
  rfl
/-- The first i legs are moved, the others are not yet. -/
structure Mid (r : Rows) (s t : Int) (i : Nat) (m : Rows) : Prop where
  len : m.length = r.length
  row : ∀ j, j < r.length → rl m j = rl r j
  done : ∀ j : Nat, j < r.length → j < i → (lg m j 0 = lg r j 0 + s ∧ lg m j 1 = lg r j 1 + t) ∧ (lg m j 2 = lg r j 2 + s ∧ lg m j 3 = lg r j 3 + t) ∧ lg m j 4 = lg r j 4 ∧ lg m j 5 = lg r j 5
  rest : ∀ j : Nat, j < r.length → i ≤ j → ∀ c : Nat, lg m j c = lg r j c
theorem Mid.step {r m : Rows} {s t : Int} {i : Nat} (h : Mid r s t i m) (hi : i < r.length) (h4 : lg r i 4 ≠ 0) : ∀ m2, m2 = updR m i 0 [.i (lg r i 0 + s), .i (lg r i 1 + t)] → Mid r s t (i + 1) (updR m2 i 2 [.i (lg r i 2 + s), .i (lg r i 3 + t)]) := by
  intro m2 hm2
  have hr : 4 < rl r i := lg_some (c := 4) h4
  have hm : 4 < rl m i := by rw [h.row i hi]; exact hr
  have hi' : i < m.length := by rw [h.len]; exact hi
  have k1 : ∀ i' c : Nat, lg m2 i' c = if i' = i ∧ 0 ≤ c ∧ c < 2 then (([D.i (lg r i 0 + s), .i (lg r i 1 + t)][c - 0]?).getD (.i 0)).int else lg m i' c := fun i' c => by
    rw [hm2]; exact lg_upd hi' (by simp; omega) i' c
  have k2 : ∀ i', rl m2 i' = rl m i' := fun i' => by rw [hm2]; exact rl_upd hi' (by simp; omega) i'
  have hi2 : i < m2.length := by rw [hm2, updR_len]; exact hi'
  have k3 : ∀ i' c : Nat, lg (updR m2 i 2 [.i (lg r i 2 + s), .i (lg r i 3 + t)]) i' c = if i' = i ∧ 2 ≤ c ∧ c < 4 then (([D.i (lg r i 2 + s), .i (lg r i 3 + t)][c - 2]?).getD (.i 0)).int else lg m2 i' c :=
    fun i' c => lg_upd hi2 (by rw [k2]; simp; omega) i' c
  refine ⟨by rw [updR_len, hm2, updR_len, h.len], fun j hj => by rw [rl_upd hi2 (by rw [k2]; simp; omega), k2, h.row j hj], fun j hj hji => ?_, fun j hj hji c => ?_⟩
  · by_cases e : j = i
    · subst e
      refine ⟨⟨?_, ?_⟩, ⟨?_, ?_⟩, ?_, ?_⟩
      · rw [k3, if_neg (by omega), k1, if_pos (by omega)]; rfl
      · rw [k3, if_neg (by omega), k1, if_pos (by omega)]; rfl
      · rw [k3, if_pos (by omega)]; rfl
      · rw [k3, if_pos (by omega)]; rfl
      · rw [k3, if_neg (by omega), k1, if_neg (by omega)]; exact h.rest j hj (Nat.le_refl _) 4
      · rw [k3, if_neg (by omega), k1, if_neg (by omega)]; exact h.rest j hj (Nat.le_refl _) 5
    · have hd := h.done j hj (by omega)
      have q : ∀ c : Nat, lg (updR m2 i 2 [.i (lg r i 2 + s), .i (lg r i 3 + t)]) j c = lg m j c := fun c => by rw [k3, if_neg (by omega), k1, if_neg (by omega)]
      rw [q 0, q 1, q 2, q 3, q 4, q 5]
      exact hd
  · rw [k3, if_neg (by omega), k1, if_neg (by omega)]
    exact h.rest j hj (by omega) c
theorem Mid.end {r m : Rows} {s t : Int} (h : Mid r s t r.length m) : MvL r m s t := ⟨h.len, fun j hj => h.done j hj hj⟩
end Go.Proofs.Ytglepdhapakmbaa
/- Contracts of functions that answer with new lists, and with parts of their arguments (slices of the caller's). -/
namespace Go.Proofs.Ytglepdhapakmbaa
open Go.RowKit

/-! ### Arguments without blocks of the call's own -/
def argE (sh : Sh) (v : V) : Option AL := match sh, v with
  | .one k, .v (.one s) => cellA0 k s
  | .agg ks, .v (.agg cs) => rowA cellA0 ks cs
  | _, _ => none
def argsE : List Sh → List V → Option AL
  | [], [] => some .nil
  | s :: sh, v :: vs => match argE s v, argsE sh vs with | some a, some b => some (a.app b) | _, _ => none
  | _, _ => none
theorem argsE_ok {ρ : Env} {σ : As} : ∀ (sh : List Sh) (args : List V) (a : AL), argsE sh args = some a → ∀ vals, DL (V.den ρ σ) args vals → repSh ρ.w sh vals (a.ev ρ)
  | [], [], a, h, vals, hd => by
    simp only [argsE, Option.some.injEq] at h
    subst h
    exact ⟨DL.nil_inv hd, by simp [AL.ev]⟩
  | s :: sh, v :: vs, a, h, vals, hd => by
    simp only [argsE] at h
    split at h
    · rename_i a1 a2 h1 h2
      simp only [Option.some.injEq] at h
      subst h
      obtain ⟨u, us, rfl, e1, e2⟩ := DL.cons_inv hd
      refine ⟨u, us, a1.ev ρ, a2.ev ρ, rfl, AL.app_ev _ _ _, ?_, argsE_ok sh vs a2 h2 us e2⟩
      unfold argE at h1
      split at h1
      · obtain ⟨d, e3, e4⟩ := cellA0_ok (W := ρ.w) (Below.refl _ _) _ _ _ h1 u e1
        exact ⟨d, e3, e4⟩
      · obtain ⟨ws, e3, rfl⟩ := e1
        exact ⟨ws, rfl, rowA_ok (cellA0_ok (W := ρ.w) (Below.refl _ _)) _ _ _ h1 ws e3⟩
      · cases h1
    · cases h
  | [], _ :: _, a, h, _, _ => by simp [argsE] at h
  | _ :: _, [], a, h, _, _ => by simp [argsE] at h

/-! ### New lists -/
/-- A new list: its elements' type and kinds, its symbol, its content. -/
structure NL where
  e : TypeId
  ks : List CK
  s : Nat
  rows : List D → Rows
def memN : List NL → AL → Nat → Mem
  | [], _, _ => []
  | l :: r, al, n => (n, .own l.e l.ks (.fn l.s al) (.lit 0)) :: memN r al (n + 1)
theorem memN_get {al : AL} : ∀ {nl : List NL} {n i : Nat}, (memN nl al n).get i = if n ≤ i then (nl[i - n]?).map fun l => Blk.own l.e l.ks (.fn l.s al) (.lit 0) else none
  | [], n, i => by simp [memN, Mem.get]
  | l :: r, n, i => by
    simp only [memN, Mem.get]
    by_cases e : n = i
    · subst e; simp
    · rw [if_neg (by simpa using e), memN_get (nl := r)]
      by_cases h : n ≤ i
      · rw [if_pos (by omega), if_pos h, show i - n = (i - (n + 1)) + 1 by omega, List.getElem?_cons_succ]
      · rw [if_neg (by omega), if_neg h]
/-- A list that a call has made: from the world W to W', whose parts lie in w0. -/
def NewL (w0 W W' : World) (ds : List D) (l : NL) (v : Value) : Prop := ∃ xs, OwnRow W' w0.heap.size l.e l.ks.length v (l.rows ds).length xs ∧ RowsAt w0 l.ks xs (l.rows ds) ∧ (l.rows ds).length ≤ 281474976710656 ∧ (∃ a c, v = .slice a (l.rows ds).length c) ∧ ∀ k, roomOf v = some k → W.heap.size ≤ k ∧ k < W'.heap.size
structure NewLs (w0 W W' : World) (ds : List D) (nl : List NL) (vs : List Value) : Prop where
  len : vs.length = nl.length
  each : ∀ (k : Nat) (l : NL) (v : Value), nl[k]? = some l → vs[k]? = some v → NewL w0 W W' ds l v
  apart : ∀ (i j : Nat) (vi vj : Value) (a : Nat), vs[i]? = some vi → vs[j]? = some vj → roomOf vi = some a → roomOf vj = some a → i = j
def As.sayN (σ : As) (nx : Nat) (vs : List Value) : As := { σ with h := fun i m => if nx ≤ i ∧ i < nx + vs.length ∧ m = 0 then vs[i - nx]? else σ.h i m }
section
variable {P : Program} {ρ : Env} {σ : As} {nx : Nat} {vs : List Value}
theorem sayN_in {i : Nat} (h : nx ≤ i) (h2 : i < nx + vs.length) : (σ.sayN nx vs).h i 0 = vs[i - nx]? := if_pos ⟨h, h2, rfl⟩
theorem sayN_out {i : Nat} {m : Int} (h : ¬ (nx ≤ i ∧ i < nx + vs.length ∧ m = 0)) : (σ.sayN nx vs).h i m = σ.h i m := if_neg h
theorem sayN_own {i k : Nat} (h : (σ.sayN nx vs).own i k) : σ.own i k ∨ (nx ≤ i ∧ i < nx + vs.length ∧ ∃ v, vs[i - nx]? = some v ∧ roomOf v = some k) := by
  rcases h with h | ⟨m, u, h1, h2⟩
  · exact .inl (.inl h)
  · by_cases e : nx ≤ i ∧ i < nx + vs.length ∧ m = 0
    · obtain ⟨e1, e2, rfl⟩ := e
      rw [sayN_in e1 e2] at h1
      exact .inr ⟨e1, e2, u, h1, h2⟩
    · rw [sayN_out e] at h1
      exact .inl (.inr ⟨m, u, h1, h2⟩)
theorem step_sayN {mem : Mem} {W W' : World} {ds : List D} {nl : List NL} {al : AL} (hr : RelM ρ σ mem W) (hfr : ∀ i, nx ≤ i → i < nx + nl.length → ¬ σ.has i) (hb : Below W.heap.size W W') (hn : NewLs ρ.w W W' ds nl vs) (hs : ∀ l ∈ nl, (X.fn l.s al).ev ρ = l.rows ds) :
    Step ρ σ W (memN nl al nx) (σ.sayN nx vs) W' := by
  have none_h : ∀ i, nx ≤ i → i < nx + vs.length → ∀ m, σ.h i m = none := fun i h1 h2 m => by
    cases q : σ.h i m with
    | none => rfl
    | some y => exact absurd (.inr ⟨m, y, q⟩) (hfr i h1 (by rw [← hn.len]; exact h2))
  have room : ∀ i v k, vs[i]? = some v → roomOf v = some k → W.heap.size ≤ k ∧ k < W'.heap.size := fun i v k h1 h2 => by
    have hi : i < nl.length := by rw [← hn.len]; exact (List.getElem?_eq_some_iff.1 h1).1
    obtain ⟨xs, _, _, _, _, q⟩ := hn.each i nl[i] v (List.getElem?_eq_getElem hi) h1
    exact q k h2
  refine ⟨⟨fun _ _ h => h, fun i n u h => ?_⟩, hb.os, hb.tape, hb.output, hb.size, fun k hk _ => hb.block k hk, fun i hi _ => ?_, fun i a hi => ?_, fun hinj i j a hi hj => ?_, fun i b hi => ?_, Keep.of_eq (fun k hk => hb.block k hk)⟩
  · by_cases e : nx ≤ i ∧ i < nx + vs.length ∧ n = 0
    · rw [none_h i e.1 e.2.1] at h; cases h
    · rw [sayN_out e]; exact h
  · funext m
    refine sayN_out fun e => ?_
    rw [memN_get, if_pos e.1, Option.map_eq_none_iff, List.getElem?_eq_none_iff] at hi
    have := hn.len
    omega
  · rcases sayN_own hi with h | ⟨_, _, v, h1, h2⟩
    · exact .inl h
    · exact .inr (room _ _ _ h1 h2)
  · rcases sayN_own hi with h | ⟨a1, a2, v, h1, h2⟩
    · rcases sayN_own hj with h' | ⟨b1, b2, v', h1', h2'⟩
      · exact hinj i j a h h'
      · have q1 := hr.lt i a h
        have q2 := room _ _ _ h1' h2'
        omega
    · rcases sayN_own hj with h' | ⟨b1, b2, v', h1', h2'⟩
      · have q1 := hr.lt j a h'
        have q2 := room _ _ _ h1 h2
        omega
      · have q := hn.apart _ _ _ _ a h1 h1' h2 h2'
        omega
  · rw [memN_get] at hi
    by_cases hle : nx ≤ i
    · rw [if_pos hle, Option.map_eq_some_iff] at hi
      obtain ⟨l, hl, rfl⟩ := hi
      have hlt : i - nx < nl.length := (List.getElem?_eq_some_iff.1 hl).1
      have hlt' : i - nx < vs.length := by rw [hn.len]; exact hlt
      have hv := List.getElem?_eq_getElem hlt'
      obtain ⟨xs, h1, h2, h3, h4, h5⟩ := hn.each _ _ _ hl hv
      have ex : (X.fn l.s al).ev ρ = l.rows ds := hs l (List.mem_of_getElem? hl)
      refine ⟨vs[i - nx], xs, ?_, fun u hu => ?_, by rw [ex]; exact h1, by rw [ex]; exact h2.2, by rw [ex]; exact h3⟩
      · show (σ.sayN nx vs).h i 0 = _
        rw [sayN_in hle (by omega)]
        exact hv
      · have hu : (0 : Int) < u := hu
        rw [sayN_out (by omega)]
        exact none_h i hle (by omega) u
    · rw [if_neg hle] at hi; cases hi

/-- What a function answers: new lists, and what else it is (res), for arguments whose slices lie in w0. -/
def GivesN (P : Program) (f : FuncId) (sh : List Sh) (nl : List NL) (ok : List D → Prop) (res : World → List D → List Value → Value → Prop) : Prop :=
  ∀ (w0 W : World) (vals : List Value) (ds : List D), Below w0.heap.size w0 W → repSh w0 sh vals ds → ok ds → Calls P f vals.toArray W (fun en W' => ∃ vs u, en = .returned u ∧ res w0 ds vs u ∧ Below W.heap.size W W' ∧ NewLs w0 W W' ds nl vs)
/-- A way of a contract that answers so. -/
def ctN (nl : List NL) (obs : List Ob) (out : V) (al : AL) (nx : Nat) : T OpR := T.obs obs (.ret (out, memN nl al nx, nx + nl.length))
theorem ctN_ok {f : FuncId} {sh : List Sh} {nl : List NL} {ok : List D → Prop} {res : World → List D → List Value → Value → Prop} (hg : GivesN P f sh nl ok res) {args : List V} {al : AL} (ha : argsE sh args = some al) {obs : List Ob} {out : V}
    (hobs : (∀ o ∈ obs, o.ok ρ) → ok (al.ev ρ)) (hs : ∀ l ∈ nl, ∀ a, ρ.fd l.s a = l.rows a) {q : OpR} (hq : (ctN nl obs out al nx).res ρ q)
    (hout : ∀ (σ' : As) vs u, (∀ k v, vs[k]? = some v → σ'.h (nx + k) 0 = some v ∧ ∃ a n c, v = .slice a n c) → vs.length = nl.length → res ρ.w (al.ev ρ) vs u → out.den ρ σ' u)
    {mem : Mem} {W : World} {vals : List Value} (hr : RelM ρ σ mem W) (hfr : Fr nx q.2.2 σ) (hd : DL (V.den ρ σ) args vals) : CallsIn (FR none) 0 P f vals.toArray W (RetTo ρ σ W nx q) := by
  obtain ⟨ho, hq⟩ := T.res_obs hq
  obtain rfl := res_ret hq
  have hc := hg ρ.w W vals (al.ev ρ) hr.base (argsE_ok sh args al ha vals hd) (hobs ho)
  have hw : CallsIn Fence.wide 0 P f vals.toArray W _ := callsIn_wide.2 hc
  refine CallsIn.mono (F := FR none) hw ?_
  rintro en W' ⟨vs, u, rfl, hres, hb, hn⟩
  have hstep := step_sayN (nx := nx) (al := al) hr (fun i h1 h2 => hfr i h1 h2) hb hn (fun l hl => by simp only [X.ev]; exact hs l hl _)
  refine ⟨u, σ.sayN nx vs, rfl, hout _ vs u (fun k v hk => ?_) hn.len hres, hstep, fun i hi => ?_⟩
  · have hlt : k < vs.length := (List.getElem?_eq_some_iff.1 hk).1
    have hk' : k < nl.length := by rw [← hn.len]; exact hlt
    obtain ⟨xs, _, _, _, ⟨a, c, e⟩, _⟩ := hn.each k _ v (List.getElem?_eq_getElem hk') hk
    refine ⟨?_, a, _, c, e⟩
    rw [sayN_in (by omega) (by omega), Nat.add_sub_cancel_left]
    exact hk
  · rcases hi with h | ⟨m, v, h⟩
    · exact .inl (.inl h)
    · by_cases e : nx ≤ i ∧ i < nx + vs.length ∧ m = 0
      · exact .inr ⟨e.1, by rw [hn.len] at e; exact e.2.1⟩
      · rw [sayN_out e] at h
        exact .inl (.inr ⟨m, v, h⟩)

/-- What an answer's list is: nothing, or a list of the call's own. -/
structure LsAre (ρ : Env) (q : OpR) (nl : List NL) (ds : List D) (ss : List S0) : Prop where
  len : ss.length = nl.length
  each : ∀ (k : Nat) (l : NL) (s : S0), nl[k]? = some l → ss[k]? = some s → ∃ x, lrows q.2.1 l.e l.ks s = some x ∧ x.ev ρ = l.rows ds
  apart : ∀ (i j id : Nat) (v v' : E), ss[i]? = some (.own id v) → ss[j]? = some (.own id v') → i = j
theorem lsAre_nil {q : OpR} {ds : List D} : LsAre ρ q [] ds [] := ⟨rfl, fun k l s h => by simp at h, fun i j id v v' h => by simp at h⟩
theorem lsAre_one {q : OpR} {l : NL} {ds : List D} {s : S0} {x : X} (h : lrows q.2.1 l.e l.ks s = some x) (hx : x.ev ρ = l.rows ds) : LsAre ρ q [l] ds [s] := by
  refine ⟨rfl, fun k l' s' hk hs => ?_, fun i j id v v' hi hj => ?_⟩
  · cases k with
    | zero =>
      simp only [List.getElem?_cons_zero, Option.some.injEq] at hk hs
      subst hk hs
      exact ⟨x, h, hx⟩
    | succ k => simp at hk
  · cases i with
    | zero => cases j with
      | zero => rfl
      | succ j => simp at hj
    | succ i => simp at hi
variable {ct : Ct} {lt : Lt}
theorem fn_givesN (I : Interp) (hmix : P.follows .mixedOrders = true) (hct : ∀ ρ, ρ.has I → CtOk P ρ ct) (hce : ct.all (fun p => entersB P p.1) = true) {n : Nat} {f : FuncId} {sh : List Sh} {tr : TT OpR} (he : T.norm 0 (call P ct lt n f (symArgs 0 sh) [] 0) TT.ret = tr)
    (hlow : tr.low 1000 = true) (hsh : shLen sh ≤ 1000) {nl : List NL} {ok : List D → Prop} {res : World → List D → List Value → Value → Prop}
    (hs : ∀ w0 vals ds, repSh w0 sh vals ds → ok ds → tr.sat (envOf I w0 ds) (fun ρ q => ∃ ss, LsAre ρ q nl ds ss ∧ ∀ (σ : As) u, ρ.w = w0 → q.1.den ρ σ u → ∃ vs, DL (S0.den ρ σ) ss vs ∧ res w0 ds vs u) (fun _ _ => False)) : GivesN P f sh nl ok res := by
  intro w0 W vals ds hbase hrep hok
  obtain ⟨ρ', q, h1, ⟨ss, h2, h4⟩, _, h5⟩ := exec_flat (lt := lt) hmix (fun ρ' ha => hct ρ' ⟨ha.fi.symm, ha.fb.symm, ha.fd.symm⟩) (ctEnter_of hce) he hlow (hs w0 vals ds hrep hok) (σ := As.none) (W := W) (vals := vals)
    (fun ρ' ha => ⟨fun id b h => by simp [Mem.get] at h, fun i j a h => absurd h (none_own _ _), fun i a h => absurd h (none_own _ _), fun i a h => absurd h (none_own _ _), by rw [← ha.w]; exact hbase⟩) (fun k _ => none_has k) (fun ρ' ha => symArgs_den ha sh 0 vals [] ds rfl rfl (by omega) hrep)
  refine (callsIn_wide (n := 0)).1 ?_
  have h' : CallsIn Fence.wide 0 P f vals.toArray W (RetTo ρ' As.none W 0 q) := h5
  have hw : ρ'.w = w0 := by rw [← h1.w]; rfl
  refine CallsIn.mono h' ?_
  rintro en W' ⟨u, σ', rfl, e1, e2, e3⟩
  obtain ⟨vs, hd, hres⟩ := h4 σ' u hw e1
  have hb : Below W.heap.size W W' := ⟨e2.os, e2.tape, e2.output, e2.size, fun k hk => e2.frame k hk (fun i b _ e => none_own _ _ e)⟩
  have hinj := e2.inj (fun i j a h => absurd h (none_own _ _))
  have hl : vs.length = nl.length := by rw [← h2.len]; exact (DL.length hd).symm
  have key : ∀ (k : Nat) (l : NL) (v : Value), nl[k]? = some l → vs[k]? = some v → NewL w0 W W' ds l v ∧ ∀ a, roomOf v = some a → ∃ id ver, ss[k]? = some (S0.own id ver) ∧ σ'.own id a := fun k l v hk hv => by
    have hks : k < ss.length := by rw [h2.len]; exact (List.getElem?_eq_some_iff.1 hk).1
    have hsk := List.getElem?_eq_getElem hks
    obtain ⟨v', hv', hden⟩ := DL.get hd hsk
    obtain rfl : v' = v := by rw [hv'] at hv; exact Option.some.inj hv
    obtain ⟨x, hx1, hx2⟩ := h2.each k l _ hk hsk
    have hsk' : ∀ id ver, ss[k] = S0.own id ver → ss[k]? = some (S0.own id ver) := fun id ver e => by rw [hsk, e]
    generalize ss[k] = s at hx1 hden hsk'
    unfold lrows at hx1
    split at hx1
    · rename_i id ver
      split at hx1
      · rename_i e' ks' x' ver' hm
        split at hx1
        · rename_i hc
          simp only [Bool.and_eq_true] at hc
          obtain ⟨⟨c1, c2⟩, c3⟩ := hc
          have c1 := natb c1
          have c2 := CK.sameL_eq _ _ c2
          have c3 := E.same_eq _ _ c3
          simp only [Option.some.injEq] at hx1
          subst hx1
          obtain ⟨v2, xs, hO⟩ := e2.blk _ _ hm
          obtain ⟨⟨a, m, c, rfl⟩, e5⟩ := hden
          have hvv := hO.now
          rw [← c3, e5] at hvv
          simp only [Option.some.injEq] at hvv
          subst hvv
          have hrow := hO.row
          have hrows := hO.reps
          have hbig := hO.big
          rw [hw, ← c1, ← c2] at hrow
          rw [hw, ← c2] at hrows
          rw [hx2] at hrow hrows hbig
          have hm : m = (l.rows ds).length := by
            rcases hrow with ⟨_, h2⟩ | ⟨h2, _, b, h3⟩
            · rcases h2 with ⟨h2, h3⟩ | ⟨g, cap, cur, h2, _⟩
              · simp only [Value.slice.injEq] at h2; omega
              · simp only [Value.slice.injEq] at h2
                exact h2.2.1
            · simp only [Value.slice.injEq] at h3; omega
          have hown : ∀ k, roomOf (.slice a m c) = some k → σ'.own id k := fun k hk => .inr ⟨_, _, e5, hk⟩
          refine ⟨⟨xs, hrow, ⟨?_, hrows⟩, hbig, ⟨a, c, by rw [hm]⟩, fun k hk => ?_⟩, fun k hk => ⟨id, ver, hsk' _ _ rfl, hown k hk⟩⟩
          · rcases hrow with h | ⟨h3, h4, _⟩
            · exact h.1
            · rw [h3, h4]; simp
          · rcases e2.new id k (hown k hk) with h | h
            · exact absurd h (none_own _ _)
            · exact h
        · cases hx1
      · cases hx1
    · simp only [Option.some.injEq] at hx1
      subst hx1
      obtain rfl : v' = .slice none 0 0 := hden
      have h3 : [] = l.rows ds := by rw [← hx2]; simp [X.ev]
      refine ⟨⟨[], ?_, ?_, ?_, ⟨none, 0, ?_⟩, fun k hk => by simp [roomOf] at hk⟩, fun k hk => by simp [roomOf] at hk⟩
      · rw [← h3]; exact .inl (World.ownsRow_nil _ _ _ _)
      · rw [← h3]; exact RowsAt.nil _ _
      · rw [← h3]; simp
      · rw [← h3]; rfl
    · cases hx1
  refine ⟨vs, u, rfl, hres, hb, hl, fun k l v hk hv => (key k l v hk hv).1, fun i j vi vj a hi hj ha hb' => ?_⟩
  have hi' : i < nl.length := by rw [← hl]; exact (List.getElem?_eq_some_iff.1 hi).1
  have hj' : j < nl.length := by rw [← hl]; exact (List.getElem?_eq_some_iff.1 hj).1
  obtain ⟨id, ver, p1, p2⟩ := (key i _ vi (List.getElem?_eq_getElem hi') hi).2 a ha
  obtain ⟨id', ver', p3, p4⟩ := (key j _ vj (List.getElem?_eq_getElem hj') hj).2 a hb'
  obtain rfl := hinj _ _ _ p2 p4
  exact h2.apart _ _ _ _ _ p1 p3
end
end Go.Proofs.Ytglepdhapakmbaa
/- Chapter 07: features that are moved as a whole. -/
namespace Go.Proofs.Ytglepdhapakmbaa
open Go.RowKit
section
variable {s t : Int}
/-- A place that stays one when it is moved. -/
def PP (s t x y : Int) : Prop := placeB x y = true ∧ placeB (x + s) (y + t) = true
section
variable {a b c d e f g h : Int} (h1 : PP s t a b) (h2 : PP s t c d) (h3 : PP s t e f)
include h1 h2 h3
theorem turnR_mv : turnR [.i (a + s), .i (b + t), .i (c + s), .i (d + t), .i (e + s), .i (f + t)] = turnR [.i a, .i b, .i c, .i d, .i e, .i f] := by
  rw [turnR_eq h1.2 h2.2 h3.2, turnR_eq h1.1 h2.1 h3.1, turnI, turnI, crossI_mv]
theorem onR_mv : onR [.i (a + s), .i (b + t), .i (c + s), .i (d + t), .i (e + s), .i (f + t)] = onR [.i a, .i b, .i c, .i d, .i e, .i f] := by
  rw [onR_eq h1.2 h2.2 h3.2, onR_eq h1.1 h2.1 h3.1, onB_mv]
theorem nearR_mv (r : Int) : nearR [.i (a + s), .i (b + t), .i (c + s), .i (d + t), .i (e + s), .i (f + t), .i r] = nearR [.i a, .i b, .i c, .i d, .i e, .i f, .i r] := by
  have e1 : ∀ a b c d e f : Int, nearR [.i a, .i b, .i c, .i d, .i e, .i f, .i r] = ((placeB a b && placeB c d && placeB e f && distB r) && nearB a b c d e f r) := fun _ _ _ _ _ _ => rfl
  rw [e1, e1, h1.1, h1.2, h2.1, h2.2, h3.1, h3.2, nearB_mv]
theorem apaR_mv (r : Int) : apaR [.i (a + s), .i (b + t), .i (c + s), .i (d + t), .i (e + s), .i (f + t), .i r] = apaR [.i a, .i b, .i c, .i d, .i e, .i f, .i r] := by
  have e1 : ∀ a b c d e f : Int, apaR [.i a, .i b, .i c, .i d, .i e, .i f, .i r] = ((placeB a b && placeB c d && placeB e f && distB r) && apartB a b c d e f r) := fun _ _ _ _ _ _ => rfl
  rw [e1, e1, h1.1, h1.2, h2.1, h2.2, h3.1, h3.2]
  congr 1
  unfold apartB
  simp only [crossI_mv, dotI_mv, dist2_mv]
theorem meetR_mv (h4 : PP s t g h) : meetR [.i (a + s), .i (b + t), .i (c + s), .i (d + t), .i (e + s), .i (f + t), .i (g + s), .i (h + t)] = meetR [.i a, .i b, .i c, .i d, .i e, .i f, .i g, .i h] := by
  have e1 : ∀ a b c d e f g h : Int, meetR [.i a, .i b, .i c, .i d, .i e, .i f, .i g, .i h] = ((placeB a b && (placeB c d && (placeB e f && placeB g h))) && meetB a b c d e f g h) := fun _ _ _ _ _ _ _ _ => rfl
  rw [e1, e1, h1.1, h1.2, h2.1, h2.2, h3.1, h3.2, h4.1, h4.2, meetB_mv]
end
theorem order_mv (a b c d : Int) : orderI (a + s) (b + t) (c + s) (d + t) = orderI a b c d := by
  unfold orderI
  simp only [Int.add_lt_add_iff_right]
/-- A polygon's corners, moved, all within the places. -/
structure MvP (r a : Rows) (s t : Int) : Prop where
  c : MvC r a s t
  pl : ∀ k : Nat, k < r.length → PP s t (lg r k 0) (lg r k 1)
section
variable {r a p P q Q : Rows} (h : MvP r a s t)
include h
theorem MvP.at {k : Nat} (hk : k < r.length) : lg a k 0 = lg r k 0 + s ∧ lg a k 1 = lg r k 1 + t := h.c.2 k hk
theorem crossB_mv {x y : Int} (hq : PP s t x y) {i : Nat} (hi : i < r.length) : crossB a (x + s) (y + t) i = crossB r x y i := by
  have hn := nxt_lt hi
  unfold crossB
  rw [h.c.1, (h.at hi).1, (h.at hi).2, (h.at hn).1, (h.at hn).2, turnR_mv (h.pl _ hn) (h.pl _ hi) hq, turnR_mv (h.pl _ hi) (h.pl _ hn) hq]
  by_cases e : lg r (nxt r.length i) 1 < lg r i 1
  · rw [if_pos e, if_pos (by omega), decide_eq_decide]; omega
  · rw [if_neg e, if_neg (by omega), decide_eq_decide]; omega
theorem onE_mv {x y : Int} (hq : PP s t x y) {i : Nat} (hi : i < r.length) : onE a (x + s) (y + t) i = onE r x y i := by
  have hn := nxt_lt hi
  unfold onE
  rw [h.c.1, (h.at hi).1, (h.at hi).2, (h.at hn).1, (h.at hn).2, onR_mv hq (h.pl _ hi) (h.pl _ hn)]
theorem placeN_mv2 {x y : Int} (hq : PP s t x y) : ∀ (f i : Nat) (b : Bool), i + f = r.length → placeN a (x + s) (y + t) f i b = placeN r x y f i b
  | 0, _, _, _ => rfl
  | f + 1, i, b, hi => by rw [placeN, placeN, onE_mv h hq (by omega), crossB_mv h hq (by omega), placeN_mv2 hq f (i + 1) _ (by omega)]
theorem place_mv {x y : Int} (hq : PP s t x y) : placeN a (x + s) (y + t) a.length 0 false = placeN r x y r.length 0 false := by
  rw [h.c.1]; exact placeN_mv2 h hq _ _ _ (by omega)
theorem opB_mv {x y : Int} (hq : PP s t x y) {i : Nat} (hi : i < r.length) : opB a i (x + s) (y + t) = opB r i x y := by
  have hn := nxt_lt hi
  have hp := prv_lt hi
  unfold opB
  rw [h.c.1, (h.at hi).1, (h.at hi).2, (h.at hn).1, (h.at hn).2, (h.at hp).1, (h.at hp).2, turnR_mv (h.pl _ hp) (h.pl _ hi) (h.pl _ hn), turnR_mv (h.pl _ hi) (h.pl _ hn) hq, turnR_mv (h.pl _ hi) hq (h.pl _ hp), turnR_mv (h.pl _ hi) (h.pl _ hp) hq, turnR_mv (h.pl _ hi) hq (h.pl _ hn)]
theorem leE_mv {x y u v : Int} (hq : PP s t x y) (hu : PP s t u v) : ∀ (f i : Nat), i + f = r.length → leE a (x + s) (y + t) (u + s) (v + t) f i = leE r x y u v f i
  | 0, _, _ => rfl
  | f + 1, i, hi => by
    have h0 : i < r.length := by omega
    have hn := nxt_lt h0
    rw [leE, leE, onE_mv h hq h0, h.c.1, (h.at h0).1, (h.at h0).2, (h.at hn).1, (h.at hn).2, turnR_mv (h.pl _ h0) (h.pl _ hn) hu, leE_mv hq hu f (i + 1) (by omega)]
theorem leN_mv {x y u v : Int} (hq : PP s t x y) (hu : PP s t u v) : ∀ (f i : Nat), i + f = r.length → leN a (x + s) (y + t) (u + s) (v + t) f i = leN r x y u v f i
  | 0, _, _ => by rw [leN, leN, h.c.1, leE_mv h hq hu _ _ (by omega)]
  | f + 1, i, hi => by
    have h0 : i < r.length := by omega
    rw [leN, leN, (h.at h0).1, (h.at h0).2, opB_mv h hu h0, leN_mv hq hu f (i + 1) (by omega)]
    by_cases e : x = lg r i 0 ∧ y = lg r i 1
    · rw [if_pos e, if_pos (by omega)]
    · rw [if_neg e, if_neg (by omega)]
theorem phI_mv {x y u v : Int} (hq : PP s t x y) (hu : PP s t u v) {i : Nat} (hi : i < r.length) : phI a (x + s) (y + t) (u + s) (v + t) i = phI r x y u v i := by
  have hn := nxt_lt hi
  unfold phI phC tur
  rw [h.c.1, (h.at hi).1, (h.at hi).2, (h.at hn).1, (h.at hn).2, turnR_mv hq hu (h.pl _ hi), turnR_mv hq hu (h.pl _ hn), turnR_mv (h.pl _ hi) (h.pl _ hn) hq, turnR_mv (h.pl _ hi) (h.pl _ hn) hu, onR_mv (h.pl _ hi) hq hu, opB_mv h hq hi, opB_mv h hu hi]
  have e : ((lg r i 0 + s = x + s ∧ lg r i 1 + t = y + t) ∨ (lg r i 0 + s = u + s ∧ lg r i 1 + t = v + t)) ↔ ((lg r i 0 = x ∧ lg r i 1 = y) ∨ (lg r i 0 = u ∧ lg r i 1 = v)) := by omega
  rw [decide_eq_decide.2 e]
theorem phN_mv {x y u v : Int} (hq : PP s t x y) (hu : PP s t u v) : ∀ (f i : Nat), i + f = r.length → phN a (x + s) (y + t) (u + s) (v + t) f i = phN r x y u v f i
  | 0, _, _ => rfl
  | f + 1, i, hi => by rw [phN, phN, phI_mv h hq hu (by omega), phN_mv hq hu f (i + 1) (by omega)]
theorem phB_mv {x y u v : Int} (hq : PP s t x y) (hu : PP s t u v) : phB a (x + s) (y + t) (u + s) (v + t) = phB r x y u v := by
  unfold phB
  rw [place_mv h hq, place_mv h hu, h.c.1, leN_mv h hq hu _ _ (by omega), leN_mv h hu hq _ _ (by omega), phN_mv h hq hu _ _ (by omega)]
theorem nearI_mv {x y d : Int} (hq : PP s t x y) {i : Nat} (hi : i < r.length) : nearI a (x + s) (y + t) d i = nearI r x y d i ∧ apartI a (x + s) (y + t) d i = apartI r x y d i := by
  have hn := nxt_lt hi
  unfold nearI apartI
  rw [h.c.1, (h.at hi).1, (h.at hi).2, (h.at hn).1, (h.at hn).2, nearR_mv hq (h.pl _ hi) (h.pl _ hn), apaR_mv hq (h.pl _ hi) (h.pl _ hn)]
  exact ⟨rfl, rfl⟩
theorem neaN_mv {x y d : Int} (hq : PP s t x y) : ∀ (f i : Nat), i + f = r.length → neaN a (x + s) (y + t) d f i = neaN r x y d f i ∧ apaN a (x + s) (y + t) d f i = apaN r x y d f i
  | 0, _, _ => ⟨rfl, rfl⟩
  | f + 1, i, hi => by
    obtain ⟨e1, e2⟩ := neaN_mv hq f (i + 1) (by omega)
    obtain ⟨e3, e4⟩ := nearI_mv h (d := d) hq (show i < r.length by omega)
    rw [neaN, neaN, apaN, apaN, e1, e2, e3, e4]
    exact ⟨rfl, rfl⟩
theorem disX_mv {x y d : Int} (hq : PP s t x y) : disX a (x + s) (y + t) d = disX r x y d := by
  unfold disX
  rw [place_mv h hq, h.c.1, (neaN_mv h (d := d) hq _ _ (Nat.zero_add _)).1, (neaN_mv h (d := d) hq _ _ (Nat.zero_add _)).2]
theorem allD_mv (x y d : Int) : ∀ (f i : Nat), i + f = r.length → allD a (x + s) (y + t) d f i = allD r x y d f i
  | 0, _, _ => rfl
  | f + 1, i, hi => by
    have h0 : i < r.length := by omega
    rw [allD, allD, (h.at h0).1, (h.at h0).2, nearB_mv, allD_mv x y d f (i + 1) (by omega)]
theorem minO_mv : ∀ (f i : Nat) (x y : Int), i + f = r.length → minO a f i (x + s) (y + t) = minO r f i x y + s ∧ maxO a f i (x + s) (y + t) = maxO r f i x y + s
  | 0, _, _, _, _ => ⟨rfl, rfl⟩
  | f + 1, i, x, y, hi => by
    have h0 : i < r.length := by omega
    obtain ⟨e1, e2⟩ := h.at h0
    have m1 := minO_mv f (i + 1) x y (by omega)
    have m3 := minO_mv f (i + 1) (lg r i 0) (lg r i 1) (by omega)
    rw [minO, minO, maxO, maxO, e1, e2, order_mv]
    refine ⟨?_, ?_⟩
    · split
      · exact m3.1
      · exact m1.1
    · split
      · exact m3.2
      · exact m1.2
theorem minY_mv : ∀ (f i : Nat) (y : Int), i + f = r.length → minY a f i (y + t) = minY r f i y + t ∧ maxY a f i (y + t) = maxY r f i y + t
  | 0, _, _, _ => ⟨rfl, rfl⟩
  | f + 1, i, y, hi => by
    have h0 : i < r.length := by omega
    obtain ⟨e1, e2⟩ := h.at h0
    have m1 := minY_mv f (i + 1) y (by omega)
    have m3 := minY_mv f (i + 1) (lg r i 1) (by omega)
    rw [minY, minY, maxY, maxY, e2]
    simp only [Int.add_lt_add_iff_right]
    refine ⟨?_, ?_⟩
    · split
      · exact m3.1
      · exact m1.1
    · split
      · exact m3.2
      · exact m1.2
theorem corn_mv {i : Nat} (hi : i < r.length) : cornOk a i = cornOk r i := by
  have hn := nxt_lt hi
  have hp := prv_lt hi
  have h0 : 0 < r.length := by omega
  unfold cornOk
  rw [h.c.1, (h.at hi).1, (h.at hi).2, (h.at hn).1, (h.at hn).2, (h.at hp).1, (h.at hp).2, turnR_mv (h.pl _ hp) (h.pl _ hi) (h.pl _ hn)]
  have e0 := h.at h0
  simp only [Int.natCast_zero] at e0
  rw [e0.1, e0.2, order_mv]
theorem rowN_mv {i : Nat} (hi : i < r.length) : ∀ (f k : Nat), k + f = r.length → rowN a i f k = rowN r i f k
  | 0, _, _ => rfl
  | f + 1, k, hk => by
    have h0 : k < r.length := by omega
    have hn := nxt_lt hi
    have hm := nxt_lt h0
    rw [rowN, rowN, rowN_mv hi f (k + 1) (by omega)]
    unfold pairOk meetE2
    rw [h.c.1, (h.at hi).1, (h.at hi).2, (h.at hn).1, (h.at hn).2, (h.at h0).1, (h.at h0).2, (h.at hm).1, (h.at hm).2, meetR_mv (h.pl _ hi) (h.pl _ hn) (h.pl _ h0) (h.pl _ hm)]
theorem simple_mv : ∀ (f i : Nat), i + f = r.length → simpleN a f i = simpleN r f i
  | 0, _, _ => rfl
  | f + 1, i, hi => by rw [simpleN, simpleN, simple_mv f (i + 1) (by omega), h.c.1, rowN_mv h (by omega) _ _ (by omega)]
theorem area_mv (hn : 0 < r.length) : area2 (cx a) (cy a) a.length = area2 (cx r) (cy r) r.length := by
  rw [h.c.1, area_trap hn, area_trap hn]
  have e : sumZ (fun k => (cx a k + cx a (nxt r.length k)) * (cy a (nxt r.length k) - cy a k)) r.length =
      sumZ (fun k => (cx r k + cx r (nxt r.length k)) * (cy r (nxt r.length k) - cy r k) + (2 * s) * (cy r (nxt r.length k) - cy r k)) r.length := by
    refine sumZ_congr _ (fun k hk => ?_)
    have h1 := h.at hk
    have h2 := h.at (nxt_lt hk)
    unfold cx cy
    rw [h1.1, h1.2, h2.1, h2.2]
    grind
  rw [e, sumZ_add, sumZ_mul, sumZ_tele (cy r) hn]
  omega
theorem poly_mv (hr : polyB r = true) : polyB a = true := by
  have hl := polyB_len hr
  have hpl : ∀ k, k < a.length → placeB (cx a k) (cy a k) = true := fun k hk => by
    rw [h.c.1] at hk
    unfold cx cy
    rw [(h.at hk).1, (h.at hk).2]
    exact (h.pl k hk).2
  have ht := twice_sum hpl (by rw [h.c.1]; exact hl.2) a.length 0 (by omega)
  have hA := poly_area hr
  rw [← area_mv h (by omega), ← ht] at hA
  have hA : 0 < twiceN a a.length 0 0 := hA
  unfold polyB at hr ⊢
  simp only [Bool.and_eq_true, decide_eq_true_eq] at hr ⊢
  obtain ⟨_, _, q2, q3, _⟩ := hr
  refine ⟨by rw [h.c.1]; exact hl, plN_iff _ _ |>.2 (fun k _ hk => ?_), cornN_iff _ _ |>.2 (fun k h0 hk => ?_), ?_, hA⟩
  · have := hpl k (by omega)
    exact this
  · rw [corn_mv h (by rw [← h.c.1]; omega)]
    exact cornN_iff _ _ |>.1 q2 k h0 (by rw [← h.c.1]; exact hk)
  · rw [h.c.1, simple_mv h _ _ (by omega)]
    exact q3
theorem tmRow_mv (g : MvP q Q s t) {i : Nat} (hi : i < r.length) : ∀ (f k : Nat), k + f = q.length → tmRow a Q i f k = tmRow r q i f k
  | 0, _, _ => rfl
  | f + 1, k, hk => by
    have h0 : k < q.length := by omega
    have hn := nxt_lt hi
    have hm := nxt_lt h0
    rw [tmRow, tmRow, tmRow_mv g hi f (k + 1) (by omega)]
    unfold meetPQ
    rw [h.c.1, g.c.1, (h.at hi).1, (h.at hi).2, (h.at hn).1, (h.at hn).2, (g.at h0).1, (g.at h0).2, (g.at hm).1, (g.at hm).2, meetR_mv (h.pl _ hi) (h.pl _ hn) (g.pl _ h0) (g.pl _ hm)]
theorem tmN_mv (g : MvP q Q s t) : ∀ (f i : Nat), i + f = r.length → tmN a Q f i = tmN r q f i
  | 0, _, _ => rfl
  | f + 1, i, hi => by rw [tmN, tmN, g.c.1, tmRow_mv h g (by omega) _ _ (by omega), tmN_mv g f (i + 1) (by omega)]
theorem touX_mv (g : MvP q Q s t) (h0 : 0 < r.length) (g0 : 0 < q.length) : touX a Q = touX r q := by
  have e1 := h.at h0
  have e2 := g.at g0
  have f1 := h.pl _ h0
  have f2 := g.pl _ g0
  simp only [Int.natCast_zero] at e1 e2 f1 f2
  unfold touX
  rw [e1.1, e1.2, e2.1, e2.2, place_mv h f2, place_mv g f1, h.c.1, tmN_mv h g _ _ (by omega)]
theorem hoN_mv (g : MvP q Q s t) : ∀ (f i : Nat), i + f = q.length → hoN a Q f i = hoN r q f i
  | 0, _, _ => rfl
  | f + 1, i, hi => by
    have h0 : i < q.length := by omega
    have hn := nxt_lt h0
    rw [hoN, hoN, hoN_mv g f (i + 1) (by omega), g.c.1, (g.at h0).1, (g.at h0).2, (g.at hn).1, (g.at hn).2, phB_mv h (g.pl _ h0) (g.pl _ hn)]
theorem hoX_mv (g : MvP q Q s t) : hoX a Q = hoX r q := by
  unfold hoX
  rw [g.c.1, hoN_mv h g _ _ (by omega)]
end
/-- A valid feature, and the one that is moved: valid, too. -/
structure MvF (s t k x y rad : Int) (r : Rows) (x' y' : Int) (a : Rows) : Prop where
  area : k = 3 ∨ k = 6 → MvP r a s t ∧ polyB r = true ∧ polyB a = true
  disc : ¬ (k = 3 ∨ k = 6) → x' = x + s ∧ y' = y + t ∧ PP s t x y
  rad : 0 ≤ rad ∧ rad ≤ 100000
section
variable {k1 x1 y1 r1 x1' y1' k2 x2 y2 r2 x2' y2' d1 d2 px py : Int} {a1 a1' a2 a2' t1 t2 : Rows} (h : MvF s t k1 x1 y1 r1 a1 x1' y1' a1') (g : MvF s t k2 x2 y2 r2 a2 x2' y2' a2')
theorem poly_pos {r : Rows} (h : polyB r = true) : 0 < r.length := by have := polyB_len h; omega
theorem nearE_mv {a b c d e f : Int} (h1 : PP s t a b) (h2 : PP s t c d) (h3 : PP s t e f) (r : Int) : nearE [.i (a + s), .i (b + t), .i (c + s), .i (d + t), .i (e + s), .i (f + t), .i r] = nearE [.i a, .i b, .i c, .i d, .i e, .i f, .i r] := by
  have e1 : ∀ a b c d e f : Int, nearE [.i a, .i b, .i c, .i d, .i e, .i f, .i r] = if (placeB a b && placeB c d && placeB e f && distB r) then 0 else 1 := fun _ _ _ _ _ _ => rfl
  rw [e1, e1, h1.1, h1.2, h2.1, h2.2, h3.1, h3.2]
include h
theorem covX_mv (hq : PP s t px py) : covX k1 x1' y1' r1 a1' (px + s) (py + t) = covX k1 x1 y1 r1 a1 px py := by
  unfold covX
  by_cases e4 : k1 = 4
  · rw [if_pos e4, if_pos e4]
  rw [if_neg e4, if_neg e4]
  by_cases e : k1 = 3 ∨ k1 = 6
  · obtain ⟨m, p1, p2⟩ := h.area e
    rw [if_pos e, if_pos e, (pinR_eq p1 hq.1).1, (pinR_eq p1 hq.1).2, (pinR_eq p2 hq.2).1, (pinR_eq p2 hq.2).2, place_mv m hq]
  · obtain ⟨rfl, rfl, m⟩ := h.disc e
    rw [if_neg e, if_neg e, nearR_mv hq m m, nearE_mv hq m m]
include g
theorem holdX_mv : holdX k1 x1' y1' r1 a1' k2 x2' y2' r2 a2' = holdX k1 x1 y1 r1 a1 k2 x2 y2 r2 a2 := by
  unfold holdX
  by_cases e1 : k1 = 4
  · rw [if_pos e1, if_pos e1]
  rw [if_neg e1, if_neg e1]
  by_cases e2 : k2 = 4
  · rw [if_pos e2, if_pos e2]; simp only [if_pos e2]
  simp only [if_neg e2]
  by_cases e : k1 = 3 ∨ k1 = 6
  · obtain ⟨m, p1, p2⟩ := h.area e
    rw [if_pos e, if_pos e]
    by_cases e' : k2 = 3 ∨ k2 = 6
    · rw [if_pos e', if_pos e', hoX_mv m (g.area e').1]
    · obtain ⟨rfl, rfl, m2⟩ := g.disc e'
      rw [if_neg e', if_neg e', disX_mv m m2]
  · obtain ⟨rfl, rfl, m⟩ := h.disc e
    rw [if_neg e, if_neg e]
    by_cases e' : k2 = 3 ∨ k2 = 6
    · have m2 := (g.area e').1
      rw [if_pos e', if_pos e', m2.c.1, allD_mv m2 _ _ _ _ _ (by omega)]
    · obtain ⟨rfl, rfl, m2⟩ := g.disc e'
      rw [if_neg e', if_neg e']
      unfold liesB
      rw [dist2_mv]
theorem touchX_mv : touchX k1 x1' y1' r1 a1' k2 x2' y2' r2 a2' = touchX k1 x1 y1 r1 a1 k2 x2 y2 r2 a2 := by
  unfold touchX
  by_cases e1 : k1 = 4 ∨ k2 = 4
  · rw [if_pos e1, if_pos e1]
  rw [if_neg e1, if_neg e1]
  by_cases e : k1 = 3 ∨ k1 = 6
  · obtain ⟨m, p1, p2⟩ := h.area e
    rw [if_pos e, if_pos e]
    by_cases e' : k2 = 3 ∨ k2 = 6
    · obtain ⟨m2, q1, q2⟩ := g.area e'
      rw [if_pos e', if_pos e', touX_mv m m2 (poly_pos p1) (poly_pos q1)]
    · obtain ⟨rfl, rfl, m2⟩ := g.disc e'
      rw [if_neg e', if_neg e', disX_mv m m2]
  · obtain ⟨rfl, rfl, m⟩ := h.disc e
    rw [if_neg e, if_neg e]
    by_cases e' : k2 = 3 ∨ k2 = 6
    · have m2 := (g.area e').1
      rw [if_pos e', if_pos e', disX_mv m2 m]
    · obtain ⟨rfl, rfl, m2⟩ := g.disc e'
      rw [if_neg e', if_neg e', nearB_mv]
theorem standX_mv : standX k1 x1' y1' r1 a1' d1 t1 k2 x2' y2' r2 a2' d2 t2 = standX k1 x1 y1 r1 a1 d1 t1 k2 x2 y2 r2 a2 d2 t2 := by
  unfold standX
  by_cases e : k1 = 4
  · rw [if_neg (by omega), if_neg (by omega)]
    by_cases e2 : k2 = 4
    · obtain ⟨rfl, rfl, m⟩ := h.disc (by omega)
      obtain ⟨rfl, rfl, m2⟩ := g.disc (by omega)
      rw [decide_eq_decide.2 (show (k2 = 4 ∧ x2 + s = x1 + s ∧ y2 + t = y1 + t) ↔ (k2 = 4 ∧ x2 = x1 ∧ y2 = y1) by omega)]
    · rw [decide_eq_false (by omega), decide_eq_false (by omega)]
  · rw [if_pos e, if_pos e, holdX_mv g h]
end
end
end Go.Proofs.Ytglepdhapakmbaa
