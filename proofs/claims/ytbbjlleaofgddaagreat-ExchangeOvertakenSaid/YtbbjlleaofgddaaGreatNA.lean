/- NA, merged: Lm0, TNa, Na, TNb, Nb. -/
import Derived.Test.YtbbjlleaofgddaaGreatMG
import Derived.Test.YtbbjlleaofgddaaGreatMD
import Derived.Test.YtbbjlleaofgddaaGreatMY
set_option linter.unusedSimpArgs false
set_option linter.unusedVariables false
/- Chapters 38, 40: symbols of the older contracts. -/
namespace Go.Proofs.YtbbjlleaofgddaaGreat
open Go.RowKit
theorem KG_K7 {ρ : Env} (h : Sees ρ KG 80) : Sees ρ K7 61 := h.trans (by decide) fun n l hn => by
  have e : n < 61 := hn
  refine ⟨?_, ?_⟩
  · simp only [KG, KF, KE, KD, KC, KB, KA, K9, K8]
    (repeat' split) <;> first | omega | rfl
  · simp only [KG, KF, KE, KD, KC, KB, KA, K9, K8]
    (repeat' split) <;> first | omega | rfl
theorem KG_K8 {ρ : Env} (h : Sees ρ KG 80) : Sees ρ K8 65 := h.trans (by decide) fun n l hn => by
  have e : n < 65 := hn
  refine ⟨?_, ?_⟩
  · simp only [KG, KF, KE, KD, KC, KB, KA, K9]
    (repeat' split) <;> first | omega | rfl
  · simp only [KG, KF, KE, KD, KC, KB, KA, K9]
    (repeat' split) <;> first | omega | rfl
end Go.Proofs.YtbbjlleaofgddaaGreat
/- Chapter 40: trees of what is small. -/
namespace Go.Proofs.YtbbjlleaofgddaaGreat
open Go.RowKit
def tid : Sh := .agg [.int .i64, .int .i64, .sl [.int .i64, .int .i64]]
def featK : List CK := [.int .i64, .int .i64, .int .i64, .int .i64, .int .i64, .sl ptK, .int .i64, .int .i64, .sl secK]
def feats : Sh := .one (.sl featK)
def shp : Sh := .agg [.int .i64, .int .i64, .sl [.int .i64]]
def dat : Sh := .agg [.int .i64, .int .i64, .int .i64, .int .i64, .int .i64, .int .i64, .int .i64]
-- term trFeSame: call Tryz.prog [] (Lt.of []) 100 109 (symArgs 0 [feat, feat]) [] 0
def trFeSame : TT OpR :=
(.ite (.cmp .eql (.var 0) (.var 9))
 (.ite (.cmp .eql (.var 1) (.var 10))
 (.ite (.and (.cmp .eql (.var 2) (.var 11)) (.cmp .eql (.var 3) (.var 12)))
 (.ite (.cmp .eql (.var 4) (.var 13))
 (.ite (.cmp .eql (.var 6) (.var 15))
 (.ite (.cmp .eql (.var 7) (.var 16))
 (.ite (.cmp .neq (.len (.var 5)) (.len (.var 14)))
 (.ret ((.v (.one (.z (.bool (.lit false))))), [], 2))
 (.loop 0 3000 ⟨[(0, (.lit 0))], [], []⟩
 (.ite (.cmp .lss (.var 3000) (.len (.var 5)))
 (.ob (.tru (.cmp .leq (.lit 0) (.var 3000)))
 (.ob (.tru (.cmp .lss (.var 3000) (.len (.var 5))))
 (.ob (.tru (.cmp .leq (.lit 0) (.var 3000)))
 (.ob (.tru (.cmp .lss (.var 3000) (.len (.var 14))))
 (.ite (.not (.and (.cmp .eql (.rd (.var 5) (.var 3000) 0) (.rd (.var 14) (.var 3000) 0)) (.cmp .eql (.rd (.var 5) (.var 3000) 1) (.rd (.var 14) (.var 3000) 1))))
 (.ret ((.v (.one (.z (.bool (.lit false))))), [], 3))
 (.next 0 ⟨[(0, (.ar .add .i64 (.var 3000) (.lit 1)))], [], []⟩))))))
 (.ite (.cmp .neq (.len (.var 8)) (.len (.var 17)))
 (.ret ((.v (.one (.z (.bool (.lit false))))), [], 3))
 (.loop 1 4000 ⟨[(0, (.lit 0))], [], []⟩
 (.ite (.cmp .lss (.var 4000) (.len (.var 8)))
 (.ob (.tru (.cmp .leq (.lit 0) (.var 4000)))
 (.ob (.tru (.cmp .lss (.var 4000) (.len (.var 8))))
 (.ob (.tru (.cmp .leq (.lit 0) (.var 4000)))
 (.ob (.tru (.cmp .lss (.var 4000) (.len (.var 17))))
 (.ite (.not (.and (.and (.cmp .eql (.rd (.var 8) (.var 4000) 0) (.rd (.var 17) (.var 4000) 0)) (.cmp .eql (.rd (.var 8) (.var 4000) 1) (.rd (.var 17) (.var 4000) 1))) (.and (.and (.cmp .eql (.rd (.var 8) (.var 4000) 2) (.rd (.var 17) (.var 4000) 2)) (.cmp .eql (.rd (.var 8) (.var 4000) 3) (.rd (.var 17) (.var 4000) 3))) (.and (.cmp .eql (.rd (.var 8) (.var 4000) 4) (.rd (.var 17) (.var 4000) 4)) (.cmp .eql (.rd (.var 8) (.var 4000) 5) (.rd (.var 17) (.var 4000) 5))))))
 (.ret ((.v (.one (.z (.bool (.lit false))))), [], 4))
 (.next 1 ⟨[(0, (.ar .add .i64 (.var 4000) (.lit 1)))], [], []⟩))))))
 (.ret ((.v (.one (.z (.bool (.lit true))))), [], 4))))))))
 (.ret ((.v (.one (.z (.bool (.lit false))))), [], 2)))
 (.ret ((.v (.one (.z (.bool (.lit false))))), [], 2)))
 (.ret ((.v (.one (.z (.bool (.lit false))))), [], 2)))
 (.ret ((.v (.one (.z (.bool (.lit false))))), [], 2)))
 (.ret ((.v (.one (.z (.bool (.lit false))))), [], 2)))
 (.ret ((.v (.one (.z (.bool (.lit false))))), [], 2)))
-- end trFeSame
set_option maxRecDepth 100000 in
theorem trFeSame_is : T.norm 0 (call Tryz.prog [] (Lt.of []) 100 109 (symArgs 0 [feat, feat]) [] 0) TT.ret = trFeSame := by kernel_rfl
theorem trFeSame_low : trFeSame.low 1000 = true := by kernel_rfl
end Go.Proofs.YtbbjlleaofgddaaGreat
/- Chapter 40: what is small: heights, spans, ships, datums, lists of features. -/
namespace Go.Proofs.YtbbjlleaofgddaaGreat
open Go.RowKit
def htB (lo hi : Int) : Bool := spanB lo hi && decide (-100000 ≤ lo ∧ hi ≤ 100000)
def htL (ds : List D) : Bool := htB (iAt ds 0) (iAt ds 1)
theorem ht_2 (a b : Int) : htL [.i a, .i b] = htB a b := rfl
theorem span_2 (x y : Int) : spanL [.i x, .i y] = spanB x y := rfl
theorem K7b30 (W : World) (ds l : List D) : (envOf K7 W ds).fb 30 l = spanL l := by simp only [envOf, K7, K6, K5, K]
def sp22 (ds : List D) : Bool := spanB (iAt ds 0) (iAt ds 1) && spanB (iAt ds 2) (iAt ds 3)
def sjA (ds : List D) : Int := if sp22 ds then min (iAt ds 0) (iAt ds 2) else 0
def sjB (ds : List D) : Int := if sp22 ds then max (iAt ds 1) (iAt ds 3) else 0
def sjE (ds : List D) : Int := if sp22 ds then 0 else 1
/-! Ships -/
def sortN (r : Rows) : Nat → Bool
  | 0 => true
  | i + 1 => decide (lg r i 0 ≤ lg r (i + 1) 0) && sortN r i
def kevB (d m : Int) (r : Rows) : Bool := decide (1 ≤ d ∧ d ≤ 1000 ∧ 0 ≤ m ∧ m ≤ 1000 ∧ 1 ≤ r.length ∧ r.length ≤ 20) && (sortN r (r.length - 1) && decide (0 ≤ lg r 0 0 ∧ lg r ((r.length : Int) - 1) 0 ≤ 1000))
def kevL (ds : List D) : Bool := kevB (iAt ds 0) (iAt ds 1) (rAt ds 2)
/-! Datums -/
def datB (a b c d e f s : Int) : Bool := decide ((-2000000 ≤ a ∧ a ≤ 2000000) ∧ (-2000000 ≤ b ∧ b ≤ 2000000) ∧ (-2000000 ≤ d ∧ d ≤ 2000000) ∧ (-2000000 ≤ e ∧ e ≤ 2000000)) && decide (250000000000 ≤ a * e - b * d ∧ (-100000 ≤ c ∧ c ≤ 100000) ∧ (-100000 ≤ f ∧ f ≤ 100000) ∧ 0 ≤ s ∧ s ≤ 1000)
def datL (ds : List D) : Bool := datB (iAt ds 0) (iAt ds 1) (iAt ds 2) (iAt ds 3) (iAt ds 4) (iAt ds 5) (iAt ds 6)
theorem mul_2m {a b : Int} (ha : -2000000 ≤ a ∧ a ≤ 2000000) (hb : -2000000 ≤ b ∧ b ≤ 2000000) : -4000000000000 ≤ a * b ∧ a * b ≤ 4000000000000 := by
  have p1 := Int.mul_nonneg (show 0 ≤ 2000000 - a by omega) (show 0 ≤ 2000000 - b by omega)
  have p2 := Int.mul_nonneg (show 0 ≤ 2000000 + a by omega) (show 0 ≤ 2000000 + b by omega)
  have p3 := Int.mul_nonneg (show 0 ≤ 2000000 - a by omega) (show 0 ≤ 2000000 + b by omega)
  have p4 := Int.mul_nonneg (show 0 ≤ 2000000 + a by omega) (show 0 ≤ 2000000 - b by omega)
  constructor <;> grind
/-! Lists of features -/
def featRow (r : Rows) (i : Nat) : Bool := featB (lg r i 0) (lg r i 1) (lg r i 2) (lg r i 3) (lg r i 4) (lr r i 5) (lg r i 6) (lg r i 7) (lr r i 8)
def lisN (r : Rows) : Nat → Nat → Int → Bool
  | 0, _, _ => true
  | f + 1, i, last => (featRow r i && decide (last < lg r i 0)) && lisN r f (i + 1) (lg r i 0)
def listB (r : Rows) : Bool := lisN r r.length 0 0 && decide (r.length ≤ 300)
def listL (ds : List D) : Bool := listB (rAt ds 0)
theorem feats_len {W : World} {vals : List Value} {ds : List D} {sh : List Sh} (h : repSh W (feats :: sh) vals ds) : (rAt ds 0).length ≤ 281474976710656 := by
  obtain ⟨v, vs', d, ds', rfl, rfl, ⟨d, rfl, h⟩, _⟩ := h
  rw [rep_sl] at h
  obtain ⟨r, rfl, a, n, c, _, hs, _⟩ := h
  have e1 := hs.len
  have e2 := hs.big
  show r.length ≤ _
  omega
theorem featRow_eq (r : Rows) (i : Nat) : featB (lg r i 0) (lg r i 1) (lg r i 2) (lg r i 3) (lg r i 4) (lr r i 5) (lg r i 6) (lg r i 7) (lr r i 8) = featRow r i := rfl
/-! The same feature -/
def eqC (r s : Rows) (i : Nat) : Nat → Bool
  | 0 => true
  | c + 1 => eqC r s i c && decide (lg r i c = lg s i c)
def eqN (c : Nat) (r s : Rows) : Nat → Nat → Bool
  | 0, _ => true
  | f + 1, i => eqC r s i c && eqN c r s f (i + 1)
def eqX (c : Nat) (r s : Rows) : Bool := decide (r.length = s.length) && eqN c r s r.length 0
def sameB (i1 k1 x1 y1 r1 : Int) (a1 : Rows) (d1 s1 : Int) (t1 : Rows) (i2 k2 x2 y2 r2 : Int) (a2 : Rows) (d2 s2 : Int) (t2 : Rows) : Bool :=
  decide ((i1 = i2 ∧ k1 = k2 ∧ x1 = x2 ∧ y1 = y2) ∧ r1 = r2 ∧ d1 = d2 ∧ s1 = s2) && (eqX 2 a1 a2 && eqX 6 t1 t2)
def sameL (ds : List D) : Bool := sameB (iAt ds 0) (iAt ds 1) (iAt ds 2) (iAt ds 3) (iAt ds 4) (rAt ds 5) (iAt ds 6) (iAt ds 7) (rAt ds 8) (iAt ds 9) (iAt ds 10) (iAt ds 11) (iAt ds 12) (iAt ds 13) (rAt ds 14) (iAt ds 15) (iAt ds 16) (rAt ds 17)
theorem eqN_iff {c : Nat} {r s : Rows} : ∀ (f i : Nat), eqN c r s f i = true ↔ ∀ k, i ≤ k → k < i + f → eqC r s k c = true
  | 0, i => ⟨fun _ k h1 h2 => (by omega), fun _ => rfl⟩
  | f + 1, i => by
    rw [eqN, Bool.and_eq_true, eqN_iff f (i + 1)]
    constructor
    · rintro ⟨h1, h2⟩ k hk hk'
      by_cases e : k = i
      · subst e; exact h1
      · exact h2 k (by omega) (by omega)
    · exact fun h => ⟨h i (by omega) (by omega), fun k h1 h2 => h k (by omega) (by omega)⟩
theorem eqC_iff {r s : Rows} {i : Nat} : ∀ c, eqC r s i c = true ↔ ∀ j, j < c → lg r i j = lg s i j
  | 0 => ⟨fun _ j h => (by omega), fun _ => rfl⟩
  | c + 1 => by
    rw [eqC, Bool.and_eq_true, eqC_iff c, decide_eq_true_eq]
    constructor
    · rintro ⟨h1, h2⟩ j hj
      by_cases e : j = c
      · subst e; exact h2
      · exact h1 j (by omega)
    · exact fun h => ⟨fun j hj => h j (by omega), h c (by omega)⟩
theorem eqX_iff {c : Nat} {r s : Rows} : eqX c r s = true ↔ r.length = s.length ∧ ∀ k, k < r.length → ∀ j, j < c → lg r k j = lg s k j := by
  rw [eqX, Bool.and_eq_true, decide_eq_true_eq, eqN_iff]
  simp only [eqC_iff]
  exact ⟨fun h => ⟨h.1, fun k hk => h.2 k (by omega) (by omega)⟩, fun h => ⟨h.1, fun k _ hk => h.2 k (by omega)⟩⟩
theorem reps_len7 {w : World} : ∀ {ks : List CK} {vs : List Value} {ds : List D}, CK.reps w ks vs ds → ds.length = ks.length
  | [], vs, ds, h => by
    unfold CK.reps at h
    obtain ⟨rfl, rfl⟩ := h
    rfl
  | k :: ks, vs, ds, h => by
    unfold CK.reps at h
    obtain ⟨v, vs', d, ds', rfl, rfl, h1, h2⟩ := h
    simp [reps_len7 h2]
theorem list_rep {w : World} {ks : List CK} {v : Value} {d : D} (h : CK.rep w (.sl ks) v d) : d.rows.length ≤ 281474976710656 := by
  rw [rep_sl] at h
  obtain ⟨r, rfl, a, n, c, _, hs, _⟩ := h
  have e1 := hs.len
  have e2 := hs.big
  show r.length ≤ _
  omega
theorem rows_len (W : World) (vals : List Value) (ds : List D) (sh : List Sh) (hr : repSh W (feat :: feat :: sh) vals ds) : ((rAt ds 5).length ≤ 281474976710656 ∧ (rAt ds 8).length ≤ 281474976710656) ∧ (rAt ds 14).length ≤ 281474976710656 ∧ (rAt ds 17).length ≤ 281474976710656 := by
  obtain ⟨v1, vs1, d1, ds1, rfl, rfl, ⟨u1, _, h1⟩, v2, vs2, d2, ds2, rfl, rfl, ⟨u2, _, h2⟩, _⟩ := hr
  have e1 : d1.length = 9 := reps_len7 h1
  have e2 : d2.length = 9 := reps_len7 h2
  obtain ⟨_, x5, _, p5, q5⟩ := reps_get (j := 5) h1 rfl
  obtain ⟨_, x8, _, p8, q8⟩ := reps_get (j := 8) h1 rfl
  obtain ⟨_, y5, _, r5, t5⟩ := reps_get (j := 5) h2 rfl
  obtain ⟨_, y8, _, r8, t8⟩ := reps_get (j := 8) h2 rfl
  have a5 : (d1 ++ (d2 ++ ds2))[5]? = some x5 := by rw [List.getElem?_append_left (by omega)]; exact p5
  have a8 : (d1 ++ (d2 ++ ds2))[8]? = some x8 := by rw [List.getElem?_append_left (by omega)]; exact p8
  have a14 : (d1 ++ (d2 ++ ds2))[14]? = some y5 := by rw [List.getElem?_append_right (by omega), e1, List.getElem?_append_left (by omega)]; exact r5
  have a17 : (d1 ++ (d2 ++ ds2))[17]? = some y8 := by rw [List.getElem?_append_right (by omega), e1, List.getElem?_append_left (by omega)]; exact r8
  have gd : ∀ (l : List D) (i : Nat) (d : D), l[i]? = some d → l.getD i (.i 0) = d := fun l i d h => by rw [List.getD_eq_getElem?_getD, h]; rfl
  unfold rAt
  rw [gd _ _ _ a5, gd _ _ _ a8, gd _ _ _ a14, gd _ _ _ a17]
  exact ⟨⟨list_rep q5, list_rep q8⟩, list_rep t5, list_rep t8⟩
set_option maxHeartbeats 1000000 in
theorem gFeSame : Gives Tryz.prog 109 [feat, feat] (fun ds => .bool (sameL ds)) := by
  refine GivesIf.all (fn_gives I0 (by kernel_rfl) (fun ρ _ => CtOk.nil) (by kernel_rfl) trFeSame_is trFeSame_low (by decide) (fun W vals ds hr _ => ?_))
  obtain ⟨⟨n5, n8⟩, n14, n17⟩ := rows_len W vals ds _ hr
  simp only [trFeSame, TT.sat_ret, TT.sat_ite, B.ev, E.ev, X.ev, cmp_t, cmp_f, V.plain, V2.plain, S.plain, S0.plain, V.val, V2.val, S.val, S0.val, envOf_i, envOf_d, true_and, Bool.and_eq_true, and_f, cmpP]
  have F : ∀ b, sameL ds = b → Value.bool b = Value.bool (sameL ds) := fun b h => by rw [h]
  have N : ¬ ((iAt ds 0 = iAt ds 9 ∧ iAt ds 1 = iAt ds 10 ∧ iAt ds 2 = iAt ds 11 ∧ iAt ds 3 = iAt ds 12) ∧ iAt ds 4 = iAt ds 13 ∧ iAt ds 6 = iAt ds 15 ∧ iAt ds 7 = iAt ds 16) → Value.bool false = Value.bool (sameL ds) := fun h => F _ (by rw [sameL, sameB, decide_eq_false h, Bool.false_and])
  refine ⟨fun h0 => ⟨fun h1 => ⟨fun h2 => ⟨fun h3 => ⟨fun h4 => ⟨fun h5 => ?_, fun h => N (by omega)⟩, fun h => N (by omega)⟩, fun h => N (by omega)⟩, fun h => N (by omega)⟩, fun h => N (by omega)⟩, fun h => N (by omega)⟩
  have hS : sameL ds = (eqX 2 (rAt ds 5) (rAt ds 14) && eqX 6 (rAt ds 8) (rAt ds 17)) := by
    rw [sameL, sameB, decide_eq_true (by omega), Bool.true_and]
  rw [hS]
  clear N F hS hr
  generalize e5 : rAt ds 5 = a at *
  generalize e14 : rAt ds 14 = b at *
  generalize e8 : rAt ds 8 = s at *
  generalize e17 : rAt ds 17 = t at *
  refine ⟨fun h => ?_, fun h => ?_⟩
  · rw [eqX, decide_eq_false (by omega)]; rfl
  have hab : a.length = b.length := by omega
  have hX : eqX 2 a b = eqN 2 a b a.length 0 := by rw [eqX, decide_eq_true hab]; rfl
  rw [hX]
  refine TT.sat_loop (fun v => ∃ i : Nat, v.i 0 = i ∧ i ≤ a.length ∧ eqN 2 a b (a.length - i) i = eqN 2 a b a.length 0) (fun v => a.length - (v.i 0).toNat)
    ⟨0, by simp [val_i, aget, E.ev], by omega, rfl⟩ (fun v hv => ?_)
  obtain ⟨i, i0, i1, i2⟩ := hv
  simp only [TT.sat_ret, TT.sat_ite, TT.sat_ob, TT.sat_next, put_i, put_d, Ob.ok, B.ev, E.ev, X.ev, cmp_t, cmp_f, arEv, envOf_i, envOf_d, true_and, Bool.not_eq_true', Bool.not_eq_false', Bool.and_eq_true, and_f, cell_lg, cmpP, val_i, aget, beq_self_eq_true, if_true, if_false, Nat.reduceLT, Nat.reduceSub, Nat.sub_self, Nat.lt_irrefl, i0, e5, e14, e8, e17]
  refine ⟨fun hc => ?_, fun hc => ?_⟩
  · have hi : i < a.length := by omega
    obtain ⟨f, hf⟩ : ∃ f, a.length - i = f + 1 := ⟨a.length - i - 1, by omega⟩
    have hf' : a.length - (i + 1) = f := by omega
    rw [hf, eqN] at i2
    rw [wrap_in ((i : Int) + 1) (by omega) (by omega)]
    refine ⟨by omega, by omega, by omega, by omega, fun q => ?_, fun q => ⟨⟨i + 1, rfl, by omega, ?_⟩, by omega⟩⟩
    · rw [← i2, show eqC a b i 2 = false by rw [← Bool.not_eq_true, eqC_iff]; exact fun g => q ⟨g 0 (by omega), g 1 (by omega)⟩]; rfl
    · rw [hf', ← i2, show eqC a b i 2 = true by
        simp only [eqC, decide_eq_true_eq, Bool.and_eq_true, Bool.true_and]
        exact q]; rfl
  · have h0 : a.length - i = 0 := by omega
    rw [h0, eqN] at i2
    rw [← i2, Bool.true_and]
    refine ⟨fun h => ?_, fun h => ?_⟩
    · rw [eqX, decide_eq_false (by omega)]; rfl
    have hst : s.length = t.length := by omega
    have hX : eqX 6 s t = eqN 6 s t s.length 0 := by rw [eqX, decide_eq_true hst]; rfl
    rw [hX]
    refine TT.sat_loop (fun v => ∃ i : Nat, v.i 0 = i ∧ i ≤ s.length ∧ eqN 6 s t (s.length - i) i = eqN 6 s t s.length 0) (fun v => s.length - (v.i 0).toNat)
      ⟨0, by simp [val_i, aget, E.ev], by omega, rfl⟩ (fun u hu => ?_)
    obtain ⟨j, j0, j1, j2⟩ := hu
    simp only [TT.sat_ret, TT.sat_ite, TT.sat_ob, TT.sat_next, put_i, put_d, Ob.ok, B.ev, E.ev, X.ev, cmp_t, cmp_f, arEv, envOf_i, envOf_d, true_and, Bool.not_eq_true', Bool.not_eq_false', Bool.and_eq_true, and_f, cell_lg, cmpP, val_i, aget, beq_self_eq_true, if_true, if_false, Nat.reduceLT, Nat.reduceSub, Nat.sub_self, Nat.lt_irrefl, j0, e5, e14, e8, e17]
    refine ⟨fun hc => ?_, fun hc => ?_⟩
    · have hj : j < s.length := by omega
      obtain ⟨f, hf⟩ : ∃ f, s.length - j = f + 1 := ⟨s.length - j - 1, by omega⟩
      have hf' : s.length - (j + 1) = f := by omega
      rw [hf, eqN] at j2
      rw [wrap_in ((j : Int) + 1) (by omega) (by omega)]
      refine ⟨by omega, by omega, by omega, by omega, fun q => ?_, fun q => ⟨⟨j + 1, rfl, by omega, ?_⟩, by omega⟩⟩
      · rw [← j2, show eqC s t j 6 = false by rw [← Bool.not_eq_true, eqC_iff]; exact fun g => q ⟨⟨g 0 (by omega), g 1 (by omega)⟩, ⟨g 2 (by omega), g 3 (by omega)⟩, g 4 (by omega), g 5 (by omega)⟩]; rfl
      · rw [hf', ← j2, show eqC s t j 6 = true by
          simp only [eqC, decide_eq_true_eq, Bool.and_eq_true, Bool.true_and]
          omega]; rfl
    · have h0 : s.length - j = 0 := by omega
      rw [h0, eqN] at j2
      rw [← j2]
def N1 : Interp where
  fi n l := match n with | 141 => sjA l | 142 => sjB l | 143 => sjE l | n => KG.fi n l
  fb n l := match n with | 140 => htL l | 144 => kevL l | 145 => datL l | 146 => listL l | 147 => sameL l | n => KG.fb n l
  fd _ _ := []
theorem N1_KG {ρ : Env} (h : Sees ρ N1 150) : Sees ρ KG 80 := h.trans (by decide) fun n l hn => by
  refine ⟨?_, ?_⟩
  ·
    simp only [N1]
    split <;> first | omega | rfl
  ·
    simp only [N1]
    split <;> first | omega | rfl
def cTiH := ctD [sp] fun al => .ret (bV (bF 140 htL al))
def cSpJ := ctD [sp, sp] fun al => .ret (.tup [.agg [sIF 141 sjA al, sIF 142 sjB al], .one (sIF 143 sjE al)])
def cKeV := ctD [shp] fun al => .ret (bV (bF 144 kevL al))
def cDaV := ctD [dat] fun al => .ret (bV (bF 145 datL al))
def cFeList := ctD [feats] fun al => .ret (bV (bF 146 listL al))
def cFeSame := ctD [feat, feat] fun al => .ret (bV (bF 147 sameL al))
theorem cFeSame_ok {ρ : Env} (h : Sees ρ N1 150) : CtOne Tryz.prog ρ 109 cFeSame :=
  ctD_ok gFeSame (fun _ => rfl) (fun al => by simp only [iV, bV, V.s0, V.val, V2.val, S.val, S0.val, bF_ev (s := 147) (f := sameL) (fun l => by rw [(h 147 l (by decide)).2]; simp only [N1])]; try rfl)
def ctN1 : Ct := (109, cFeSame) :: (125, cFeatV) :: ct7
theorem ctN1_ok {ρ : Env} (h : Sees ρ N1 150) : CtOk Tryz.prog ρ ctN1 :=
  have g := N1_KG h
  .cons (cFeSame_ok h) <| .cons (cFeatV_ok (KG_KF g)) <| (ct7_ok (KG_K7 g))
end Go.Proofs.YtbbjlleaofgddaaGreat
/- Chapter 40: trees of tables, sheets, operations. -/
namespace Go.Proofs.YtbbjlleaofgddaaGreat
open Go.RowKit
def sheetK : List CK := [.int .i64, .int .i64, .int .i64, .int .i64, .int .i64, .int .i64, .int .i64, .int .i64, .int .i64, .int .i64, .int .i64, .sl [.int .i64], .sl featK]
def shee : Sh := .agg sheetK
def opK : List CK := [.int .i64, .int .i64, .int .i64, .int .i64, .int .i64, .int .i64, .int .i64, .sl ptK, .int .i64, .int .i64, .sl secK, .int .i64, .int .i64, .int .i64, .int .i64, .int .i64]
def opS : Sh := .agg opK
-- term trNOp: call Tryz.prog ctN1 (Lt.of []) 100 112 (symArgs 0 [opS]) [] 0
def trNOp : TT OpR :=
(.ite (.cmp .lss (.var 1) (.lit 1))
 (.ret ((.v (.one (.z (.bool (.lit false))))), [], 1))
 (.ite (.cmp .gtr (.var 1) (.lit 100000))
 (.ret ((.v (.one (.z (.bool (.lit false))))), [], 1))
 (.ite (.cmp .eql (.var 0) (.lit 1))
 (.ite (.and (.cmp .eql (.var 11) (.lit 0)) (.cmp .eql (.var 12) (.lit 0)))
 (.ite (.cmp .eql (.var 13) (.lit 0))
 (.ite (.cmp .eql (.var 14) (.lit 0))
 (.ite (.cmp .eql (.var 15) (.lit 0))
 (.ite (.cmp .eql (.var 0) (.lit 1))
 (.ite (.cmp .eql (.var 2) (.var 1))
 (.ret ((.v (.one (.z (.bool (.fn 76 (.i (.var 2) (.i (.var 3) (.i (.var 4) (.i (.var 5) (.i (.var 6) (.x (.var 7) (.i (.var 8) (.i (.var 9) (.x (.var 10) .nil)))))))))))))), [], 5))
 (.ret ((.v (.one (.z (.bool (.lit false))))), [], 5)))
 (.ite (.cmp .eql (.var 0) (.lit 2))
 (.ret ((.v (.one (.z (.bool (.lit true))))), [], 5))
 (.ite (.cmp .eql (.var 0) (.lit 3))
 (.ite (.cmp .geq (.var 13) (.lit 0))
 (.ite (.cmp .leq (.var 13) (.lit 100000))
 (.ite (.fn 3 (.i (.var 11) (.i (.var 12) .nil)))
 (.ite (.fn 3 (.i (.ar .sub .i64 (.var 11) (.var 13)) (.i (.ar .sub .i64 (.var 12) (.var 13)) .nil)))
 (.ret ((.v (.one (.z (.bool (.fn 3 (.i (.ar .add .i64 (.var 11) (.var 13)) (.i (.ar .add .i64 (.var 12) (.var 13)) .nil))))))), [], 6))
 (.ret ((.v (.one (.z (.bool (.lit false))))), [], 6)))
 (.ret ((.v (.one (.z (.bool (.lit false))))), [], 5)))
 (.ret ((.v (.one (.z (.bool (.lit false))))), [], 5)))
 (.ret ((.v (.one (.z (.bool (.lit false))))), [], 5)))
 (.ite (.cmp .eql (.var 0) (.lit 4))
 (.ite (.cmp .geq (.var 14) (.lit 0))
 (.ret ((.v (.one (.z (.bool (.cmp .leq (.var 14) (.lit 100000)))))), [], 5))
 (.ret ((.v (.one (.z (.bool (.lit false))))), [], 5)))
 (.ite (.cmp .eql (.var 0) (.lit 5))
 (.ite (.cmp .geq (.var 15) (.lit 0))
 (.ret ((.v (.one (.z (.bool (.cmp .leq (.var 15) (.lit 999)))))), [], 5))
 (.ret ((.v (.one (.z (.bool (.lit false))))), [], 5)))
 (.ret ((.v (.one (.z (.bool (.lit false))))), [], 5)))))))
 (.ret ((.v (.one (.z (.bool (.lit false))))), [], 5)))
 (.ret ((.v (.one (.z (.bool (.lit false))))), [], 5)))
 (.ret ((.v (.one (.z (.bool (.lit false))))), [], 5)))
 (.ret ((.v (.one (.z (.bool (.lit false))))), [], 5)))
 (.ite (.cmp .eql (.var 0) (.lit 3))
 (.ite (.cmp .eql (.var 14) (.lit 0))
 (.ite (.cmp .eql (.var 15) (.lit 0))
 (.ite (.not (.fn 147 (.i (.var 2) (.i (.var 3) (.i (.var 4) (.i (.var 5) (.i (.var 6) (.x (.var 7) (.i (.var 8) (.i (.var 9) (.x (.var 10) (.i (.lit 0) (.i (.lit 0) (.i (.lit 0) (.i (.lit 0) (.i (.lit 0) (.x .nil (.i (.lit 0) (.i (.lit 0) (.x .nil .nil))))))))))))))))))))
 (.ret ((.v (.one (.z (.bool (.lit false))))), [], 5))
 (.ite (.cmp .eql (.var 0) (.lit 1))
 (.ite (.cmp .eql (.var 2) (.var 1))
 (.ret ((.v (.one (.z (.bool (.fn 76 (.i (.var 2) (.i (.var 3) (.i (.var 4) (.i (.var 5) (.i (.var 6) (.x (.var 7) (.i (.var 8) (.i (.var 9) (.x (.var 10) .nil)))))))))))))), [], 5))
 (.ret ((.v (.one (.z (.bool (.lit false))))), [], 5)))
 (.ite (.cmp .eql (.var 0) (.lit 2))
 (.ret ((.v (.one (.z (.bool (.lit true))))), [], 5))
 (.ite (.cmp .eql (.var 0) (.lit 3))
 (.ite (.cmp .geq (.var 13) (.lit 0))
 (.ite (.cmp .leq (.var 13) (.lit 100000))
 (.ite (.fn 3 (.i (.var 11) (.i (.var 12) .nil)))
 (.ite (.fn 3 (.i (.ar .sub .i64 (.var 11) (.var 13)) (.i (.ar .sub .i64 (.var 12) (.var 13)) .nil)))
 (.ret ((.v (.one (.z (.bool (.fn 3 (.i (.ar .add .i64 (.var 11) (.var 13)) (.i (.ar .add .i64 (.var 12) (.var 13)) .nil))))))), [], 6))
 (.ret ((.v (.one (.z (.bool (.lit false))))), [], 6)))
 (.ret ((.v (.one (.z (.bool (.lit false))))), [], 5)))
 (.ret ((.v (.one (.z (.bool (.lit false))))), [], 5)))
 (.ret ((.v (.one (.z (.bool (.lit false))))), [], 5)))
 (.ite (.cmp .eql (.var 0) (.lit 4))
 (.ite (.cmp .geq (.var 14) (.lit 0))
 (.ret ((.v (.one (.z (.bool (.cmp .leq (.var 14) (.lit 100000)))))), [], 5))
 (.ret ((.v (.one (.z (.bool (.lit false))))), [], 5)))
 (.ite (.cmp .eql (.var 0) (.lit 5))
 (.ite (.cmp .geq (.var 15) (.lit 0))
 (.ret ((.v (.one (.z (.bool (.cmp .leq (.var 15) (.lit 999)))))), [], 5))
 (.ret ((.v (.one (.z (.bool (.lit false))))), [], 5)))
 (.ret ((.v (.one (.z (.bool (.lit false))))), [], 5))))))))
 (.ret ((.v (.one (.z (.bool (.lit false))))), [], 5)))
 (.ret ((.v (.one (.z (.bool (.lit false))))), [], 5)))
 (.ite (.cmp .eql (.var 0) (.lit 4))
 (.ite (.and (.cmp .eql (.var 11) (.lit 0)) (.cmp .eql (.var 12) (.lit 0)))
 (.ite (.cmp .eql (.var 13) (.lit 0))
 (.ite (.cmp .eql (.var 15) (.lit 0))
 (.ite (.not (.fn 147 (.i (.var 2) (.i (.var 3) (.i (.var 4) (.i (.var 5) (.i (.var 6) (.x (.var 7) (.i (.var 8) (.i (.var 9) (.x (.var 10) (.i (.lit 0) (.i (.lit 0) (.i (.lit 0) (.i (.lit 0) (.i (.lit 0) (.x .nil (.i (.lit 0) (.i (.lit 0) (.x .nil .nil))))))))))))))))))))
 (.ret ((.v (.one (.z (.bool (.lit false))))), [], 5))
 (.ite (.cmp .eql (.var 0) (.lit 1))
 (.ite (.cmp .eql (.var 2) (.var 1))
 (.ret ((.v (.one (.z (.bool (.fn 76 (.i (.var 2) (.i (.var 3) (.i (.var 4) (.i (.var 5) (.i (.var 6) (.x (.var 7) (.i (.var 8) (.i (.var 9) (.x (.var 10) .nil)))))))))))))), [], 5))
 (.ret ((.v (.one (.z (.bool (.lit false))))), [], 5)))
 (.ite (.cmp .eql (.var 0) (.lit 2))
 (.ret ((.v (.one (.z (.bool (.lit true))))), [], 5))
 (.ite (.cmp .eql (.var 0) (.lit 3))
 (.ite (.cmp .geq (.var 13) (.lit 0))
 (.ite (.cmp .leq (.var 13) (.lit 100000))
 (.ite (.fn 3 (.i (.var 11) (.i (.var 12) .nil)))
 (.ite (.fn 3 (.i (.ar .sub .i64 (.var 11) (.var 13)) (.i (.ar .sub .i64 (.var 12) (.var 13)) .nil)))
 (.ret ((.v (.one (.z (.bool (.fn 3 (.i (.ar .add .i64 (.var 11) (.var 13)) (.i (.ar .add .i64 (.var 12) (.var 13)) .nil))))))), [], 6))
 (.ret ((.v (.one (.z (.bool (.lit false))))), [], 6)))
 (.ret ((.v (.one (.z (.bool (.lit false))))), [], 5)))
 (.ret ((.v (.one (.z (.bool (.lit false))))), [], 5)))
 (.ret ((.v (.one (.z (.bool (.lit false))))), [], 5)))
 (.ite (.cmp .eql (.var 0) (.lit 4))
 (.ite (.cmp .geq (.var 14) (.lit 0))
 (.ret ((.v (.one (.z (.bool (.cmp .leq (.var 14) (.lit 100000)))))), [], 5))
 (.ret ((.v (.one (.z (.bool (.lit false))))), [], 5)))
 (.ite (.cmp .eql (.var 0) (.lit 5))
 (.ite (.cmp .geq (.var 15) (.lit 0))
 (.ret ((.v (.one (.z (.bool (.cmp .leq (.var 15) (.lit 999)))))), [], 5))
 (.ret ((.v (.one (.z (.bool (.lit false))))), [], 5)))
 (.ret ((.v (.one (.z (.bool (.lit false))))), [], 5))))))))
 (.ret ((.v (.one (.z (.bool (.lit false))))), [], 5)))
 (.ret ((.v (.one (.z (.bool (.lit false))))), [], 5)))
 (.ret ((.v (.one (.z (.bool (.lit false))))), [], 5)))
 (.ite (.cmp .eql (.var 0) (.lit 5))
 (.ite (.and (.cmp .eql (.var 11) (.lit 0)) (.cmp .eql (.var 12) (.lit 0)))
 (.ite (.cmp .eql (.var 13) (.lit 0))
 (.ite (.cmp .eql (.var 14) (.lit 0))
 (.ite (.not (.fn 147 (.i (.var 2) (.i (.var 3) (.i (.var 4) (.i (.var 5) (.i (.var 6) (.x (.var 7) (.i (.var 8) (.i (.var 9) (.x (.var 10) (.i (.lit 0) (.i (.lit 0) (.i (.lit 0) (.i (.lit 0) (.i (.lit 0) (.x .nil (.i (.lit 0) (.i (.lit 0) (.x .nil .nil))))))))))))))))))))
 (.ret ((.v (.one (.z (.bool (.lit false))))), [], 5))
 (.ite (.cmp .eql (.var 0) (.lit 1))
 (.ite (.cmp .eql (.var 2) (.var 1))
 (.ret ((.v (.one (.z (.bool (.fn 76 (.i (.var 2) (.i (.var 3) (.i (.var 4) (.i (.var 5) (.i (.var 6) (.x (.var 7) (.i (.var 8) (.i (.var 9) (.x (.var 10) .nil)))))))))))))), [], 5))
 (.ret ((.v (.one (.z (.bool (.lit false))))), [], 5)))
 (.ite (.cmp .eql (.var 0) (.lit 2))
 (.ret ((.v (.one (.z (.bool (.lit true))))), [], 5))
 (.ite (.cmp .eql (.var 0) (.lit 3))
 (.ite (.cmp .geq (.var 13) (.lit 0))
 (.ite (.cmp .leq (.var 13) (.lit 100000))
 (.ite (.fn 3 (.i (.var 11) (.i (.var 12) .nil)))
 (.ite (.fn 3 (.i (.ar .sub .i64 (.var 11) (.var 13)) (.i (.ar .sub .i64 (.var 12) (.var 13)) .nil)))
 (.ret ((.v (.one (.z (.bool (.fn 3 (.i (.ar .add .i64 (.var 11) (.var 13)) (.i (.ar .add .i64 (.var 12) (.var 13)) .nil))))))), [], 6))
 (.ret ((.v (.one (.z (.bool (.lit false))))), [], 6)))
 (.ret ((.v (.one (.z (.bool (.lit false))))), [], 5)))
 (.ret ((.v (.one (.z (.bool (.lit false))))), [], 5)))
 (.ret ((.v (.one (.z (.bool (.lit false))))), [], 5)))
 (.ite (.cmp .eql (.var 0) (.lit 4))
 (.ite (.cmp .geq (.var 14) (.lit 0))
 (.ret ((.v (.one (.z (.bool (.cmp .leq (.var 14) (.lit 100000)))))), [], 5))
 (.ret ((.v (.one (.z (.bool (.lit false))))), [], 5)))
 (.ite (.cmp .eql (.var 0) (.lit 5))
 (.ite (.cmp .geq (.var 15) (.lit 0))
 (.ret ((.v (.one (.z (.bool (.cmp .leq (.var 15) (.lit 999)))))), [], 5))
 (.ret ((.v (.one (.z (.bool (.lit false))))), [], 5)))
 (.ret ((.v (.one (.z (.bool (.lit false))))), [], 5))))))))
 (.ret ((.v (.one (.z (.bool (.lit false))))), [], 5)))
 (.ret ((.v (.one (.z (.bool (.lit false))))), [], 5)))
 (.ret ((.v (.one (.z (.bool (.lit false))))), [], 5)))
 (.ite (.and (.cmp .eql (.var 11) (.lit 0)) (.cmp .eql (.var 12) (.lit 0)))
 (.ite (.cmp .eql (.var 13) (.lit 0))
 (.ite (.cmp .eql (.var 14) (.lit 0))
 (.ite (.cmp .eql (.var 15) (.lit 0))
 (.ite (.not (.fn 147 (.i (.var 2) (.i (.var 3) (.i (.var 4) (.i (.var 5) (.i (.var 6) (.x (.var 7) (.i (.var 8) (.i (.var 9) (.x (.var 10) (.i (.lit 0) (.i (.lit 0) (.i (.lit 0) (.i (.lit 0) (.i (.lit 0) (.x .nil (.i (.lit 0) (.i (.lit 0) (.x .nil .nil))))))))))))))))))))
 (.ret ((.v (.one (.z (.bool (.lit false))))), [], 5))
 (.ite (.cmp .eql (.var 0) (.lit 1))
 (.ite (.cmp .eql (.var 2) (.var 1))
 (.ret ((.v (.one (.z (.bool (.fn 76 (.i (.var 2) (.i (.var 3) (.i (.var 4) (.i (.var 5) (.i (.var 6) (.x (.var 7) (.i (.var 8) (.i (.var 9) (.x (.var 10) .nil)))))))))))))), [], 5))
 (.ret ((.v (.one (.z (.bool (.lit false))))), [], 5)))
 (.ite (.cmp .eql (.var 0) (.lit 2))
 (.ret ((.v (.one (.z (.bool (.lit true))))), [], 5))
 (.ite (.cmp .eql (.var 0) (.lit 3))
 (.ite (.cmp .geq (.var 13) (.lit 0))
 (.ite (.cmp .leq (.var 13) (.lit 100000))
 (.ite (.fn 3 (.i (.var 11) (.i (.var 12) .nil)))
 (.ite (.fn 3 (.i (.ar .sub .i64 (.var 11) (.var 13)) (.i (.ar .sub .i64 (.var 12) (.var 13)) .nil)))
 (.ret ((.v (.one (.z (.bool (.fn 3 (.i (.ar .add .i64 (.var 11) (.var 13)) (.i (.ar .add .i64 (.var 12) (.var 13)) .nil))))))), [], 6))
 (.ret ((.v (.one (.z (.bool (.lit false))))), [], 6)))
 (.ret ((.v (.one (.z (.bool (.lit false))))), [], 5)))
 (.ret ((.v (.one (.z (.bool (.lit false))))), [], 5)))
 (.ret ((.v (.one (.z (.bool (.lit false))))), [], 5)))
 (.ite (.cmp .eql (.var 0) (.lit 4))
 (.ite (.cmp .geq (.var 14) (.lit 0))
 (.ret ((.v (.one (.z (.bool (.cmp .leq (.var 14) (.lit 100000)))))), [], 5))
 (.ret ((.v (.one (.z (.bool (.lit false))))), [], 5)))
 (.ite (.cmp .eql (.var 0) (.lit 5))
 (.ite (.cmp .geq (.var 15) (.lit 0))
 (.ret ((.v (.one (.z (.bool (.cmp .leq (.var 15) (.lit 999)))))), [], 5))
 (.ret ((.v (.one (.z (.bool (.lit false))))), [], 5)))
 (.ret ((.v (.one (.z (.bool (.lit false))))), [], 5))))))))
 (.ret ((.v (.one (.z (.bool (.lit false))))), [], 5)))
 (.ret ((.v (.one (.z (.bool (.lit false))))), [], 5)))
 (.ret ((.v (.one (.z (.bool (.lit false))))), [], 5)))
 (.ret ((.v (.one (.z (.bool (.lit false))))), [], 5)))))))))
-- end trNOp
set_option maxRecDepth 100000 in
theorem trNOp_is : T.norm 0 (call Tryz.prog ctN1 (Lt.of []) 100 112 (symArgs 0 [opS]) [] 0) TT.ret = trNOp := by kernel_rfl
theorem trNOp_low : trNOp.low 1000 = true := by kernel_rfl
end Go.Proofs.YtbbjlleaofgddaaGreat
/- Chapter 40: tables of the tide, sheets, operations of notices. -/
namespace Go.Proofs.YtbbjlleaofgddaaGreat
open Go.RowKit
theorem N1b140 (W : World) (ds l : List D) : (envOf N1 W ds).fb 140 l = htL l := by simp only [envOf, N1]
theorem N1b145 (W : World) (ds l : List D) : (envOf N1 W ds).fb 145 l = datL l := by simp only [envOf, N1]
theorem N1b146 (W : World) (ds l : List D) : (envOf N1 W ds).fb 146 l = listL l := by simp only [envOf, N1]
def tideN (r : Rows) : Nat → Nat → Bool
  | 0, _ => true
  | f + 1, i => htB (lg r i 0) (lg r i 1) && tideN r f (i + 1)
def lastT (s p : Int) (r : Rows) : Int := s + ((r.length : Int) - 1) * p
def tideB (s p : Int) (r : Rows) : Bool := timeB s && (decide (1 ≤ p ∧ p ≤ 1000 ∧ 1 ≤ r.length ∧ r.length ≤ 200) && (timeB (lastT s p r) && tideN r r.length 0))
def tideL (ds : List D) : Bool := tideB (iAt ds 0) (iAt ds 1) (rAt ds 2)
theorem tideN_iff (r : Rows) : ∀ f i, tideN r f i = true ↔ ∀ j : Nat, i ≤ j → j < i + f → htB (lg r j 0) (lg r j 1) = true
  | 0, i => by simp only [tideN, true_iff]; intro j h1 h2; omega
  | f + 1, i => by
    rw [tideN, Bool.and_eq_true, tideN_iff r f (i + 1)]
    constructor
    · rintro ⟨h1, h2⟩ j h3 h4
      by_cases e : j = i
      · subst e; exact h1
      · exact h2 j (by omega) (by omega)
    · intro h
      exact ⟨h i (by omega) (by omega), fun j h1 h2 => h j (by omega) (by omega)⟩
/-! Sheets -/
def doN (r : Rows) : Nat → Nat → Int → Bool
  | 0, _, _ => true
  | f + 1, i, last => decide (last < lg r i 0 ∧ lg r i 0 ≤ 10000) && doN r f (i + 1) (lg r i 0)
def sheetL (ds : List D) : Bool := doN (rAt ds 11) (rAt ds 11).length 0 0 && (decide ((rAt ds 11).length ≤ 200 ∧ (1 ≤ iAt ds 0 ∧ iAt ds 0 ≤ 1000) ∧ (1 ≤ iAt ds 1 ∧ iAt ds 1 ≤ 1000) ∧ (1 ≤ iAt ds 2 ∧ iAt ds 2 ≤ 1000) ∧ 1 ≤ iAt ds 10 ∧ iAt ds 10 ≤ 100000) &&
  (datB (iAt ds 3) (iAt ds 4) (iAt ds 5) (iAt ds 6) (iAt ds 7) (iAt ds 8) (iAt ds 9) && listB (rAt ds 12)))
theorem dat_7 (a b c d e f g : Int) : datL [.i a, .i b, .i c, .i d, .i e, .i f, .i g] = datB a b c d e f g := rfl
theorem list_1 (r : Rows) : listL [.l r] = listB r := rfl
theorem sheet_rep {W : World} {vals : List Value} {ds : List D} {sh : List Sh} (hr : repSh W (shee :: sh) vals ds) : (rAt ds 11).length ≤ 281474976710656 ∧ (rAt ds 12).length ≤ 281474976710656 := by
  obtain ⟨v, vs', d, ds', rfl, rfl, ⟨us, rfl, h⟩, _⟩ := hr
  have hl : d.length = 13 := (reps_len h).2
  have key : ∀ j k ks, sheetK[j]? = some k → k = .sl ks → j < 13 → (rAt (d ++ ds') j).length ≤ 281474976710656 := fun j k ks hj hk hlt => by
    obtain ⟨v5, d5, h1, h2, h3⟩ := reps_get (j := j) h hj
    subst hk
    rw [rep_sl] at h3
    obtain ⟨r, rfl, a, n, c, _, hs, _⟩ := h3
    have e : rAt (d ++ ds') j = r := by
      unfold rAt
      rw [List.getD_eq_getElem?_getD, List.getElem?_append_left (by omega), h2]
      rfl
    rw [e]
    have e1 := hs.len
    have e2 := hs.big
    omega
  exact ⟨key 11 _ _ rfl rfl (by omega), key 12 _ _ rfl rfl (by omega)⟩
/-! Operations: what the tree reckons -/
def opL (ds : List D) : Bool := trNOp.evB (envOf N1 W00 ds)
theorem gNOp : Gives Tryz.prog 112 [opS] (fun ds => .bool (opL ds)) :=
  fn_tests N1 (by kernel_rfl) (fun ρ h => ctN1_ok (Sees.of h 150)) (by kernel_rfl) trNOp_is trNOp_low (by decide) (by kernel_rfl)
def N2 : Interp where
  fi n l := N1.fi n l
  fb n l := match n with | 150 => tideL l | 151 => sheetL l | 152 => opL l | n => N1.fb n l
  fd _ _ := []
theorem N2_N1 {ρ : Env} (h : Sees ρ N2 160) : Sees ρ N1 150 := h.trans (by decide) fun n l hn => by
  refine ⟨?_, ?_⟩
  ·
    rfl
  ·
    simp only [N2]
    split <;> first | omega | rfl
def cTiV := ctD [tid] fun al => .ret (bV (bF 150 tideL al))
def cShV := ctD [shee] fun al => .ret (bV (bF 151 sheetL al))
def cNOp := ctD [opS] fun al => .ret (bV (bF 152 opL al))
theorem cNOp_ok {ρ : Env} (h : Sees ρ N2 160) : CtOne Tryz.prog ρ 112 cNOp :=
  ctD_ok gNOp (fun _ => rfl) (fun al => by simp only [iV, bV, V.s0, V.val, V2.val, S.val, S0.val, bF_ev (s := 152) (f := opL) (fun l => by rw [(h 152 l (by decide)).2]; simp only [N2])]; try rfl)
def ctN2 : Ct := (112, cNOp) :: ctN1
theorem ctN2_ok {ρ : Env} (h : Sees ρ N2 160) : CtOk Tryz.prog ρ ctN2 := .cons (cNOp_ok h) (ctN1_ok (N2_N1 h))
end Go.Proofs.YtbbjlleaofgddaaGreat
