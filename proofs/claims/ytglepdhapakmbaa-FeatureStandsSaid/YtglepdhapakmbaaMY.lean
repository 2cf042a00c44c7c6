/- MY, merged: Eo. -/
import Derived.Test.YtglepdhapakmbaaMW
import Derived.Test.YtglepdhapakmbaaLCovers
set_option linter.unusedSimpArgs false
set_option linter.unusedVariables false
/- Chapter 07: a feature holds and stands for itself; equal features. -/
namespace Go.Proofs.Ytglepdhapakmbaa
open Go.RowKit
/-! ### Rows of numbers -/
def intsR (c : Nat) (row : List D) : Prop := row.length = c ∧ ∀ d ∈ row, ∃ n, d = .i n
def wfI (c : Nat) (r : Rows) : Prop := ∀ (i : Nat) row, r[i]? = some row → intsR c row
def isInt : CK → Bool | .int _ => true | _ => false
theorem reps_ints {w : World} : ∀ {ks : List CK} {vs : List Value} {ds : List D}, ks.all isInt = true → CK.reps w ks vs ds → intsR ks.length ds
  | [], vs, ds, _, h => by
    unfold CK.reps at h
    obtain ⟨rfl, rfl⟩ := h
    exact ⟨rfl, fun d hd => by cases hd⟩
  | k :: ks, vs, ds, hk, h => by
    unfold CK.reps at h
    obtain ⟨v, vs', d, ds', rfl, rfl, h1, h2⟩ := h
    simp only [List.all_cons, Bool.and_eq_true] at hk
    obtain ⟨g1, g2⟩ := reps_ints hk.2 h2
    refine ⟨by simp [g1], fun e he => ?_⟩
    rcases List.mem_cons.mp he with q | q
    · subst q
      cases k with
      | int k =>
        unfold CK.rep at h1
        obtain ⟨n, _, rfl⟩ := h1
        exact ⟨n, rfl⟩
      | bool => exact absurd hk.1 (by decide)
      | sl ks => exact absurd hk.1 (by simp [isInt])
    · exact g2 e q
theorem rep_wf {w : World} {ks : List CK} {v : Value} {d : D} (hk : ks.all isInt = true) (h : CK.rep w (.sl ks) v d) : wfI ks.length d.rows := by
  rw [rep_sl] at h
  obtain ⟨r, rfl, a, n, c, _, hs, _⟩ := h
  intro i row hi
  have hi' : r[i]? = some row := hi
  have hlt : i < r.length := by
    rcases Nat.lt_or_ge i r.length with q | q
    · exact q
    · rw [List.getElem?_eq_none q] at hi'; cases hi'
  have := hs.there (by have := hs.len; omega)
  cases a with
  | none => cases this
  | some b =>
    obtain ⟨vs, h1, _⟩ := hs.cell b rfl i row hi'
    exact reps_ints hk h1
theorem rows_eq {c : Nat} {r s : Rows} (hr : wfI c r) (hs : wfI c s) (h : eqX c r s = true) : r = s := by
  obtain ⟨hl, he⟩ := eqX_iff.mp h
  refine List.ext_getElem? (fun i => ?_)
  rcases Nat.lt_or_ge i r.length with q | q
  · have er : r[i]? = some r[i] := List.getElem?_eq_getElem q
    have es : s[i]? = some (s[i]'(by omega)) := List.getElem?_eq_getElem (by omega)
    obtain ⟨l1, n1⟩ := hr i _ er
    obtain ⟨l2, n2⟩ := hs i _ es
    rw [er, es]
    congr 1
    refine List.ext_getElem (by omega) (fun j h1 h2 => ?_)
    have g := he i q j (by omega)
    unfold lg cellAt at g
    rw [Int.toNat_natCast, er, es] at g
    simp only [Option.getD_some] at g
    rw [List.getElem?_eq_getElem h1, List.getElem?_eq_getElem h2] at g
    simp only [Option.getD_some] at g
    obtain ⟨u, eu⟩ := n1 _ (List.getElem_mem h1)
    obtain ⟨v, ev⟩ := n2 _ (List.getElem_mem h2)
    rw [eu, ev] at g ⊢
    have g' : u = v := g
    rw [g']
  · rw [List.getElem?_eq_none q, List.getElem?_eq_none (by omega)]
theorem eqX_self (c : Nat) (r : Rows) : eqX c r r = true := eqX_iff.mpr ⟨rfl, fun _ _ _ _ => rfl⟩
theorem eqX_symm {c : Nat} {r s : Rows} : eqX c r s = eqX c s r := by
  rw [Bool.eq_iff_iff, eqX_iff, eqX_iff]
  exact ⟨fun h => ⟨h.1.symm, fun k hk j hj => (h.2 k (by omega) j hj).symm⟩, fun h => ⟨h.1.symm, fun k hk j hj => (h.2 k (by omega) j hj).symm⟩⟩
/-! ### A polygon holds itself -/
theorem leN_true {r : Rows} {x y tx ty : Int} {k : Nat} (hk : x = lg r k 0 ∧ y = lg r k 1) (hop : opB r k tx ty = true) : ∀ (f i : Nat), i ≤ k → k < i + f → (∀ l, i ≤ l → l < k → ¬ (x = lg r l 0 ∧ y = lg r l 1)) → leN r x y tx ty f i = true
  | 0, i, h1, h2, _ => by omega
  | f + 1, i, h1, h2, hl => by
    rw [leN]
    by_cases e : k = i
    · subst e; rw [if_pos hk, hop]
    · rw [if_neg (hl i (by omega) (by omega))]
      exact leN_true hk hop f (i + 1) (by omega) (by omega) (fun l g1 g2 => hl l (by omega) g2)
theorem phN_true {r : Rows} {ax ay bx b : Int} : ∀ (f i : Nat), (∀ k, i ≤ k → k < i + f → phI r ax ay bx b k = true) → phN r ax ay bx b f i = true
  | 0, i, _ => rfl
  | f + 1, i, h => by rw [phN, h i (by omega) (by omega), phN_true f (i + 1) (fun k g1 g2 => h k (by omega) (by omega))]; rfl
theorem hoN_true {p q : Rows} : ∀ (f i : Nat), (∀ k, i ≤ k → k < i + f → phB p (lg q k 0) (lg q k 1) (lg q (nxt q.length k) 0) (lg q (nxt q.length k) 1) = true) → hoN p q f i = true
  | 0, i, _ => rfl
  | f + 1, i, h => by rw [hoN, h i (by omega) (by omega), hoN_true f (i + 1) (fun k g1 g2 => h k (by omega) (by omega))]; rfl
theorem corner_place {r : Rows} (hr : polyB r = true) {i : Nat} (hi : i < r.length) : 0 ≤ placeN r (lg r i 0) (lg r i 1) r.length 0 false := by
  have := (place_in hr (polyB_pl hr hi)).mpr (.inl ⟨i, hi, on_self ..⟩)
  exact this
theorem lead_corner {r : Rows} (hr : polyB r = true) {j : Nat} (hj : j < r.length) {tx ty : Int} (ht : placeB tx ty = true) (ho : OpI (cx r) (cy r) r.length (prv r.length j) j tx ty) : leN r (lg r j 0) (lg r j 1) tx ty r.length 0 = true :=
  leN_true ⟨rfl, rfl⟩ ((op_iff hr hj ht).mpr ho) _ 0 (by omega) (by omega) (fun l _ g2 h => by
    have := corner_inj (poly_simple hr) (i := l) (j := j) (by omega) hj ⟨h.1.symm, h.2.symm⟩
    omega)
theorem self_edge {r : Rows} (hr : polyB r = true) {i : Nat} (hi : i < r.length) : phB r (lg r i 0) (lg r i 1) (lg r (nxt r.length i) 0) (lg r (nxt r.length i) 1) = true := by
  have hs := poly_simple hr
  have hi' := nxt_lt hi
  have hb := hs.bend (prv r.length i) (prv_lt hi)
  rw [nxt_prv hi] at hb
  have hb' := hs.bend i hi
  have o1 : OpI (cx r) (cy r) r.length (prv r.length i) i (cx r (nxt r.length i)) (cy r (nxt r.length i)) := by
    have z : crossI (cx r i) (cy r i) (cx r (nxt r.length i)) (cy r (nxt r.length i)) (cx r (nxt r.length i)) (cy r (nxt r.length i)) = 0 := by unfold crossI; grind
    unfold OpI
    rw [z]
    split
    · omega
    · omega
  have o2 : OpI (cx r) (cy r) r.length (prv r.length (nxt r.length i)) (nxt r.length i) (cx r i) (cy r i) := by
    rw [prv_nxt hi]
    have z : crossI (cx r i) (cy r i) (cx r (nxt r.length i)) (cy r (nxt r.length i)) (cx r i) (cy r i) = 0 := by unfold crossI; grind
    have c := (cross_cyc (cx r i) (cy r i) (cx r (nxt r.length i)) (cy r (nxt r.length i)) (cx r (nxt r.length (nxt r.length i))) (cy r (nxt r.length (nxt r.length i)))).1
    unfold OpI
    rw [z, c]
    split
    · omega
    · omega
  have q1 : leN r (lg r i 0) (lg r i 1) (lg r (nxt r.length i) 0) (lg r (nxt r.length i) 1) r.length 0 = true := lead_corner hr hi (polyB_pl hr hi') o1
  have q2 : leN r (lg r (nxt r.length i) 0) (lg r (nxt r.length i) 1) (lg r i 0) (lg r i 1) r.length 0 = true := lead_corner hr hi' (polyB_pl hr hi) o2
  unfold phB
  rw [decide_eq_true (corner_place hr hi), decide_eq_true (corner_place hr hi'), q1, q2, phN_true _ 0 (fun k _ hk => ?_)]
  · rfl
  have hk : k < r.length := by omega
  have hk' := nxt_lt hk
  have h1 := polyB_pl hr hi
  have h2 := polyB_pl hr hi'
  have h3 := polyB_pl hr hk
  have h4 := polyB_pl hr hk'
  have t1 : tur (lg r i 0) (lg r i 1) (lg r (nxt r.length i) 0) (lg r (nxt r.length i) 1) (lg r k 0) (lg r k 1) = sgn (crossI (cx r i) (cy r i) (cx r (nxt r.length i)) (cy r (nxt r.length i)) (cx r k) (cy r k)) := turnR_eq h1 h2 h3
  have t2 : tur (lg r i 0) (lg r i 1) (lg r (nxt r.length i) 0) (lg r (nxt r.length i) 1) (lg r (nxt r.length k) 0) (lg r (nxt r.length k) 1) = sgn (crossI (cx r i) (cy r i) (cx r (nxt r.length i)) (cy r (nxt r.length i)) (cx r (nxt r.length k)) (cy r (nxt r.length k))) := turnR_eq h1 h2 h4
  have t3 : tur (lg r k 0) (lg r k 1) (lg r (nxt r.length k) 0) (lg r (nxt r.length k) 1) (lg r i 0) (lg r i 1) = sgn (crossI (cx r k) (cy r k) (cx r (nxt r.length k)) (cy r (nxt r.length k)) (cx r i) (cy r i)) := turnR_eq h3 h4 h1
  have t4 : tur (lg r k 0) (lg r k 1) (lg r (nxt r.length k) 0) (lg r (nxt r.length k) 1) (lg r (nxt r.length i) 0) (lg r (nxt r.length i) 1) = sgn (crossI (cx r k) (cy r k) (cx r (nxt r.length k)) (cy r (nxt r.length k)) (cx r (nxt r.length i)) (cy r (nxt r.length i))) := turnR_eq h3 h4 h2
  have hpc : phC r (lg r i 0) (lg r i 1) (lg r (nxt r.length i) 0) (lg r (nxt r.length i) 1) k = false := by
    rw [phC, decide_eq_false_iff_not, t1, t2, t3, t4, sgn_mul, sgn_mul]
    by_cases e1 : k = i
    · subst e1
      have z : crossI (cx r k) (cy r k) (cx r (nxt r.length k)) (cy r (nxt r.length k)) (cx r k) (cy r k) = 0 := by unfold crossI; grind
      omega
    · by_cases e2 : k = nxt r.length i
      · subst e2
        have z : crossI (cx r i) (cy r i) (cx r (nxt r.length i)) (cy r (nxt r.length i)) (cx r (nxt r.length i)) (cy r (nxt r.length i)) = 0 := by unfold crossI; grind
        omega
      · by_cases e3 : i = nxt r.length k
        · subst e3
          have z : crossI (cx r (nxt r.length k)) (cy r (nxt r.length k)) (cx r (nxt r.length (nxt r.length k))) (cy r (nxt r.length (nxt r.length k))) (cx r (nxt r.length k)) (cy r (nxt r.length k)) = 0 := by unfold crossI; grind
          omega
        · exact no_proper (hs.apart i k hi hk e1 e2 e3)
  have hon : onR [.i (lg r k 0), .i (lg r k 1), .i (lg r i 0), .i (lg r i 1), .i (lg r (nxt r.length i) 0), .i (lg r (nxt r.length i) 1)] = onB (cx r k) (cy r k) (cx r i) (cy r i) (cx r (nxt r.length i)) (cy r (nxt r.length i)) := onR_eq h3 h1 h2
  rw [phI, hpc, hon]
  by_cases e1 : k = i
  · subst e1; simp
  · by_cases e2 : k = nxt r.length i
    · subst e2; simp
    · rw [(no_on (corner_off hs hk hi (fun h => e1 h.symm) (fun h => e2 h.symm))).1]
      simp
theorem ho_self {r : Rows} (hr : polyB r = true) : hoX r r = true := hoN_true _ 0 (fun k _ hk => self_edge hr (by omega))

section
variable {i1 k1 x1 y1 r1 d1 s1 : Int} {a1 t1 : Rows}
theorem hold_self (h : featB i1 k1 x1 y1 r1 a1 d1 s1 t1 = true) : holdX k1 x1 y1 r1 a1 k1 x1 y1 r1 a1 = true := by
  unfold holdX
  by_cases n1 : k1 = 4
  · rw [if_pos n1, decide_eq_true n1]
  rw [if_neg n1]
  by_cases e1 : k1 = 3 ∨ k1 = 6
  · rw [if_pos e1, if_neg n1, if_pos e1, ho_self (feat_area h e1)]
  · rw [if_neg e1, if_neg n1, if_neg e1, liesB, decide_eq_true_eq]
    unfold dist2
    rw [Int.sub_self, Int.sub_self, Int.sub_self]
    omega
theorem wrD_self (t : Rows) (x y : Int) : wrD t t x y = false := by
  unfold wrD
  by_cases h : shC t x y = 1
  · rw [decide_eq_true h, decide_eq_false (fun g => g h), decide_eq_false (Int.lt_irrefl _)]; rfl
  · rw [decide_eq_false h]; rfl
theorem sfN_self (t l : Rows) : ∀ f i, sfN t t l f i = false
  | 0, _ => rfl
  | f + 1, i => by rw [sfN, wrD_self, wrD_self, sfN_self t l f (i + 1)]; rfl
theorem stand_self (h : featB i1 k1 x1 y1 r1 a1 d1 s1 t1 = true) : standX k1 x1 y1 r1 a1 d1 t1 k1 x1 y1 r1 a1 d1 t1 = true := by
  unfold standX
  by_cases n1 : k1 = 4
  · rw [if_neg (by omega), decide_eq_true ⟨n1, rfl, rfl⟩]
    unfold saferX
    rw [sfN_self]; rfl
  · rw [if_pos n1, decide_eq_true (Int.le_refl _), hold_self h]; rfl
end

theorem feat_wf {W : World} {vals : List Value} {ds : List D} {sh : List Sh} (hr : repSh W (feat :: feat :: feat :: sh) vals ds) : ((wfI 2 (rAt ds 5) ∧ wfI 6 (rAt ds 8)) ∧ wfI 2 (rAt ds 14) ∧ wfI 6 (rAt ds 17)) ∧ wfI 2 (rAt ds 23) ∧ wfI 6 (rAt ds 26) := by
  obtain ⟨v1, vs1, d1, ds1, rfl, rfl, ⟨u1, _, h1⟩, v2, vs2, d2, ds2, rfl, rfl, ⟨u2, _, h2⟩, v3, vs3, d3, ds3, rfl, rfl, ⟨u3, _, h3⟩, _⟩ := hr
  have e1 : d1.length = 9 := reps_len7 h1
  have e2 : d2.length = 9 := reps_len7 h2
  have e3 : d3.length = 9 := reps_len7 h3
  obtain ⟨_, x5, _, p5, q5⟩ := reps_get (j := 5) h1 rfl
  obtain ⟨_, x8, _, p8, q8⟩ := reps_get (j := 8) h1 rfl
  obtain ⟨_, y5, _, r5, t5⟩ := reps_get (j := 5) h2 rfl
  obtain ⟨_, y8, _, r8, t8⟩ := reps_get (j := 8) h2 rfl
  obtain ⟨_, z5, _, m5, n5⟩ := reps_get (j := 5) h3 rfl
  obtain ⟨_, z8, _, m8, n8⟩ := reps_get (j := 8) h3 rfl
  have gd : ∀ (l : List D) (i : Nat) (d : D), l[i]? = some d → l.getD i (.i 0) = d := fun l i d h => by rw [List.getD_eq_getElem?_getD, h]; rfl
  have a5 : (d1 ++ (d2 ++ (d3 ++ ds3)))[5]? = some x5 := by rw [List.getElem?_append_left (by omega)]; exact p5
  have a8 : (d1 ++ (d2 ++ (d3 ++ ds3)))[8]? = some x8 := by rw [List.getElem?_append_left (by omega)]; exact p8
  have a14 : (d1 ++ (d2 ++ (d3 ++ ds3)))[14]? = some y5 := by rw [List.getElem?_append_right (by omega), e1, List.getElem?_append_left (by omega)]; exact r5
  have a17 : (d1 ++ (d2 ++ (d3 ++ ds3)))[17]? = some y8 := by rw [List.getElem?_append_right (by omega), e1, List.getElem?_append_left (by omega)]; exact r8
  have a23 : (d1 ++ (d2 ++ (d3 ++ ds3)))[23]? = some z5 := by rw [List.getElem?_append_right (by omega), e1, List.getElem?_append_right (by omega), e2, List.getElem?_append_left (by omega)]; exact m5
  have a26 : (d1 ++ (d2 ++ (d3 ++ ds3)))[26]? = some z8 := by rw [List.getElem?_append_right (by omega), e1, List.getElem?_append_right (by omega), e2, List.getElem?_append_left (by omega)]; exact m8
  unfold rAt
  rw [gd _ _ _ a5, gd _ _ _ a8, gd _ _ _ a14, gd _ _ _ a17, gd _ _ _ a23, gd _ _ _ a26]
  exact ⟨⟨⟨rep_wf (by decide) q5, rep_wf (by decide) q8⟩, rep_wf (by decide) t5, rep_wf (by decide) t8⟩, rep_wf (by decide) n5, rep_wf (by decide) n8⟩

end Go.Proofs.Ytglepdhapakmbaa
