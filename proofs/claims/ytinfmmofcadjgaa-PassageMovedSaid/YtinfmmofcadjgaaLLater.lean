/- LLater, merged: Ll. -/
import Derived.Test.YtinfmmofcadjgaaMH
import Derived.Test.YtinfmmofcadjgaaME
set_option linter.unusedSimpArgs false
set_option linter.unusedVariables false
/- Chapter 38: the law PassageLater. -/
namespace Go.Proofs.Ytinfmmofcadjgaa
open Go.RowKit
/-- The legs from k on. -/
def later (r : Rows) (k : Nat) : Rows := subR r (k : Int) (r.length : Int)
theorem later_len (r : Rows) (k : Nat) : (later r k).length = r.length - k := subR_len r k
theorem later_lg (r : Rows) (k i j : Nat) : lg (later r k) (i : Int) j = lg r ((k + i : Nat) : Int) j := subR_lg r k i j
theorem later_dl (r : Rows) (k i : Nat) : dl (later r k) (i : Int) = dl r ((k + i : Nat) : Int) := by unfold dl; simp only [later_lg]
theorem later_legB (r : Rows) (k i : Nat) : legB (later r k) (i : Int) = legB r ((k + i : Nat) : Int) := by unfold legB; simp only [later_lg]
theorem later_lo (r : Rows) (k i : Nat) : legLo (later r k) (i : Int) = legLo r ((k + i : Nat) : Int) := by rw [← legLo_eq, ← legLo_eq, later_dl, later_lg]
theorem later_hi (r : Rows) (k i : Nat) : legHi (later r k) (i : Int) = legHi r ((k + i : Nat) : Int) := by rw [← legHi_eq, ← legHi_eq, later_dl, later_lg]
theorem later_legs (r : Rows) (k : Nat) : ∀ (f i : Nat) (x y : Int), legsFrom (later r k) f i x y = legsFrom r f (k + i) x y
  | 0, _, _, _ => rfl
  | f + 1, i, x, y => by
    rw [legsFrom, legsFrom, later_legs r k f (i + 1), later_legB, later_lg, later_lg, later_lg, later_lg]
    rfl
theorem legs_drop (r : Rows) (f : Nat) : ∀ (k i : Nat) (x y : Int), legsFrom r (f + 1 + k) i x y = true → legsFrom r (f + 1) (i + k) (lg r ((i + k : Nat) : Int) 0) (lg r ((i + k : Nat) : Int) 1) = true
  | 0, i, x, y, h => by
    rw [legsFrom, Bool.and_eq_true, Bool.and_eq_true] at h
    rw [legsFrom, Bool.and_eq_true, Bool.and_eq_true]
    exact ⟨⟨h.1.1, decide_eq_true ⟨rfl, rfl⟩⟩, h.2⟩
  | k + 1, i, x, y, h => by
    rw [← Nat.add_assoc, legsFrom, Bool.and_eq_true] at h
    have := legs_drop r f k (i + 1) _ _ h.2
    rw [show i + 1 + k = i + (k + 1) by omega] at this
    exact this
theorem later_tLo (r : Rows) (a : Int) (k : Nat) : ∀ j, tLo (later r k) (tLo r a k) j = tLo r a (k + j)
  | 0 => rfl
  | j + 1 => by rw [tLo, later_tLo r a k j, later_lo]; rfl
theorem later_tHi (r : Rows) (a : Int) (k : Nat) : ∀ j, tHi (later r k) (tHi r a k) j = tHi r a (k + j)
  | 0 => rfl
  | j + 1 => by rw [tHi, later_tHi r a k j, later_hi]; rfl
theorem t_order {a b c : Int} {r : Rows} (hp : psgB a b c r = true) : ∀ k, k ≤ r.length → 0 ≤ tLo r a k ∧ tLo r a k ≤ tHi r b k
  | 0, _ => by
    obtain ⟨p1, p2, p3, p4⟩ := psgB_iff hp
    exact ⟨p1.1, p3.1⟩
  | k + 1, h => by
    obtain ⟨p1, p2, p3, p4⟩ := psgB_iff hp
    have hl := p4 k (by omega)
    have h1 := leg_order hl
    have h2 := leg_le hl
    have h3 := t_order hp k (by omega)
    rw [tLo, tHi]
    omega
theorem psg_later {a b c : Int} {r : Rows} (hp : psgB a b c r = true) {k : Nat} (hk : k < r.length) (ht : tHi r b k ≤ 10000000) : psgB (tLo r a k) (tHi r b k) c (later r k) = true := by
  have h1 := t_order hp k (by omega)
  obtain ⟨p1, p2, p3, p4⟩ := psgB_iff hp
  simp only [psgB, Bool.and_eq_true, timeB, decide_eq_true_eq] at hp ⊢
  refine ⟨⟨⟨by omega, by omega⟩, ⟨by omega, by omega, by omega, by rw [later_len]; omega, by rw [later_len]; omega⟩⟩, ?_⟩
  obtain ⟨f, hf⟩ : ∃ f, r.length = f + 1 + k := ⟨r.length - 1 - k, by omega⟩
  have := legs_drop r f k 0 (lg r 0 0) (lg r 0 1) (by rw [← hf]; exact hp.2)
  rw [Nat.zero_add] at this
  have e0 := later_lg r k 0 0
  have e1 := later_lg r k 0 1
  rw [Nat.add_zero] at e0 e1
  rw [later_legs, later_len, Nat.add_zero, show (0 : Int) = ((0 : Nat) : Int) from rfl, e0, e1, show r.length - k = f + 1 by omega]
  exact this
theorem dur_later {a b c : Int} {r : Rows} (hp : psgB a b c r = true) {k n : Nat} (hk : k ≤ n) (hn : n < r.length) (ht : tHi r b k ≤ 10000000) :
    durL (pk (tLo r a k) (tHi r b k) c (later r k) ((n - k : Nat) : Int)) = durL (pk a b c r n) ∧ durH (pk (tLo r a k) (tHi r b k) c (later r k) ((n - k : Nat) : Int)) = durH (pk a b c r n) ∧ durE (pk (tLo r a k) (tHi r b k) c (later r k) ((n - k : Nat) : Int)) = durE (pk a b c r n) := by
  have h1 : durO (pk a b c r n) = true := by
    show (psgB a b c r && decide (0 ≤ (n : Int) ∧ (n : Int) < r.length)) = true
    rw [hp, decide_eq_true ⟨by omega, by omega⟩]; rfl
  have h2 : durO (pk (tLo r a k) (tHi r b k) c (later r k) ((n - k : Nat) : Int)) = true := by
    show (psgB (tLo r a k) (tHi r b k) c (later r k) && decide (0 ≤ ((n - k : Nat) : Int) ∧ ((n - k : Nat) : Int) < (later r k).length)) = true
    rw [psg_later hp (by omega) ht, decide_eq_true ⟨by omega, by rw [later_len]; omega⟩]; rfl
  have h3 : durX (pk a b c r n) = !decide (10000000 < tHi r b (n + 1)) := by
    show (durO (pk a b c r n) && !decide (10000000 < tHi r b ((n : Int).toNat + 1))) = _
    rw [h1, Int.toNat_natCast]; rfl
  have h4 : durX (pk (tLo r a k) (tHi r b k) c (later r k) ((n - k : Nat) : Int)) = !decide (10000000 < tHi r b (n + 1)) := by
    show (durO (pk (tLo r a k) (tHi r b k) c (later r k) ((n - k : Nat) : Int)) && !decide (10000000 < tHi (later r k) (tHi r b k) (((n - k : Nat) : Int).toNat + 1))) = _
    rw [h2, Int.toNat_natCast, later_tHi, show k + (n - k + 1) = n + 1 by omega]; rfl
  have e1 : tLo (later r k) (tLo r a k) (((n - k : Nat) : Int).toNat) = tLo r a ((n : Int).toNat) := by
    rw [Int.toNat_natCast, later_tLo, Int.toNat_natCast, show k + (n - k) = n by omega]
  have e2 : tHi (later r k) (tHi r b k) (((n - k : Nat) : Int).toNat + 1) = tHi r b ((n : Int).toNat + 1) := by
    rw [Int.toNat_natCast, later_tHi, Int.toNat_natCast, show k + (n - k + 1) = n + 1 by omega]
  refine ⟨?_, ?_, ?_⟩
  · unfold durL
    rw [h3, h4]
    show (if _ then tLo (later r k) (tLo r a k) (((n - k : Nat) : Int).toNat) else 0) = (if _ then tLo r a ((n : Int).toNat) else 0)
    rw [e1]
  · unfold durH
    rw [h3, h4]
    show (if _ then tHi (later r k) (tHi r b k) (((n - k : Nat) : Int).toNat + 1) else 0) = (if _ then tHi r b ((n : Int).toNat + 1) else 0)
    rw [e2]
  · unfold durE
    rw [h3, h4, h1, h2]
theorem bes_congr {r r' a : Rows} {k k' off : Int} (h : ∀ j, lg r k j = lg r' k' j) : ∀ f i, besN r a k off f i = besN r' a k' off f i
  | 0, _ => rfl
  | f + 1, i => by rw [besN, besN, bes_congr h f (i + 1), h, h, h, h]
theorem nearX_congr {r r' : Rows} {k k' : Int} (h : ∀ j, lg r k j = lg r' k' j) (off kind x y rad : Int) (area : Rows) : nearX r k off kind x y rad area = nearX r' k' off kind x y rad area := by
  unfold nearX
  rw [bes_congr h, h, h, h, h]
theorem nearXE_congr {r r' : Rows} {k k' : Int} (h : ∀ j, lg r k j = lg r' k' j) (off kind x y rad : Int) : nearXE r k off kind x y rad = nearXE r' k' off kind x y rad := by
  unfold nearXE
  rw [h, h, h, h]
theorem KGb20 (W : World) (ds l : List D) : (envOf KG W ds).fb 20 l = psgL l := by simp only [envOf, KG, KF, KE, KD, KC, KB, KA, K9, K8, K7, K6, K5, K]
theorem KGi21 (W : World) (ds l : List D) : (envOf KG W ds).fi 21 l = arrL l := by simp only [envOf, KG, KF, KE, KD, KC, KB, KA, K9, K8, K7, K6, K5, K]
theorem KGi22 (W : World) (ds l : List D) : (envOf KG W ds).fi 22 l = arrH l := by simp only [envOf, KG, KF, KE, KD, KC, KB, KA, K9, K8, K7, K6, K5, K]
theorem KGi23 (W : World) (ds l : List D) : (envOf KG W ds).fi 23 l = arrE l := by simp only [envOf, KG, KF, KE, KD, KC, KB, KA, K9, K8, K7, K6, K5, K]
theorem KGi24 (W : World) (ds l : List D) : (envOf KG W ds).fi 24 l = durL l := by simp only [envOf, KG, KF, KE, KD, KC, KB, KA, K9, K8, K7, K6, K5, K]
theorem KGi25 (W : World) (ds l : List D) : (envOf KG W ds).fi 25 l = durH l := by simp only [envOf, KG, KF, KE, KD, KC, KB, KA, K9, K8, K7, K6, K5, K]
theorem KGi26 (W : World) (ds l : List D) : (envOf KG W ds).fi 26 l = durE l := by simp only [envOf, KG, KF, KE, KD, KC, KB, KA, K9, K8, K7, K6, K5, K]
theorem KGb77 (W : World) (ds l : List D) : (envOf KG W ds).fb 77 l = nearPR l := by simp only [envOf, KG, KF, KE, KD, KC, KB, KA, K9, K8, K7, K6, K5, K]
theorem KGi77 (W : World) (ds l : List D) : (envOf KG W ds).fi 77 l = nearPE l := by simp only [envOf, KG, KF, KE, KD, KC, KB, KA, K9, K8, K7, K6, K5, K]
/-- A passage, a number, a feature. -/
def pkf (a b c : Int) (r : Rows) (k id kind x y rad : Int) (area : Rows) (depth sym : Int) (sc : Rows) : List D := [.i a, .i b, .i c, .l r, .i k, .i id, .i kind, .i x, .i y, .i rad, .l area, .i depth, .i sym, .l sc]
theorem pkf_eq (a b c : Int) (r : Rows) (k id kind x y rad : Int) (area : Rows) (depth sym : Int) (sc : Rows) : [D.i a, .i b, .i c, .l r, .i k, .i id, .i kind, .i x, .i y, .i rad, .l area, .i depth, .i sym, .l sc] = pkf a b c r k id kind x y rad area depth sym sc := rfl
theorem nearPO_pkf (a b c : Int) (r : Rows) (k id kind x y rad : Int) (area : Rows) (depth sym : Int) (sc : Rows) : nearPO (pkf a b c r k id kind x y rad area depth sym sc) = (psgB a b c r && (decide (0 ≤ k ∧ k < r.length) && featB id kind x y rad area depth sym sc)) := rfl
theorem nearPR_pkf (a b c : Int) (r : Rows) (k id kind x y rad : Int) (area : Rows) (depth sym : Int) (sc : Rows) : nearPR (pkf a b c r k id kind x y rad area depth sym sc) = (nearPO (pkf a b c r k id kind x y rad area depth sym sc) && nearX r k c kind x y rad area) := rfl
theorem nearPE_pkf (a b c : Int) (r : Rows) (k id kind x y rad : Int) (area : Rows) (depth sym : Int) (sc : Rows) : nearPE (pkf a b c r k id kind x y rad area depth sym sc) = (if nearPO (pkf a b c r k id kind x y rad area depth sym sc) then nearXE r k c kind x y rad else 1) := rfl
theorem near_later {a b c : Int} {r : Rows} (hp : psgB a b c r = true) {k n : Nat} (hk : k ≤ n) (hn : n < r.length) (ht : tHi r b k ≤ 10000000) (id kind x y rad : Int) (area : Rows) (depth sym : Int) (sc : Rows) :
    nearPR (pkf (tLo r a k) (tHi r b k) c (later r k) ((n - k : Nat) : Int) id kind x y rad area depth sym sc) = nearPR (pkf a b c r n id kind x y rad area depth sym sc) ∧ nearPE (pkf (tLo r a k) (tHi r b k) c (later r k) ((n - k : Nat) : Int) id kind x y rad area depth sym sc) = nearPE (pkf a b c r n id kind x y rad area depth sym sc) := by
  have e : nearPO (pkf (tLo r a k) (tHi r b k) c (later r k) ((n - k : Nat) : Int) id kind x y rad area depth sym sc) = nearPO (pkf a b c r n id kind x y rad area depth sym sc) := by
    rw [nearPO_pkf, nearPO_pkf, psg_later hp (by omega) ht, hp, decide_eq_true (p := 0 ≤ ((n - k : Nat) : Int) ∧ ((n - k : Nat) : Int) < (later r k).length) ⟨by omega, by rw [later_len]; omega⟩, decide_eq_true ⟨by omega, by omega⟩]
  have c1 : ∀ j, lg (later r k) ((n - k : Nat) : Int) j = lg r (n : Int) j := fun j => by rw [later_lg, show k + (n - k) = n by omega]
  rw [nearPR_pkf, nearPR_pkf, nearPE_pkf, nearPE_pkf, e, nearX_congr c1, nearXE_congr c1]
  exact ⟨rfl, rfl⟩
theorem gLaterLaw : Gives Try.prog 5 [psg, it, it, feat] (fun _ => .bool true) := by
  refine GivesIf.all (fn_gives KG (by kernel_rfl) (fun ρ h => ctLaw_ok (Sees.of h 80)) (by kernel_rfl) trLaterLaw_is trLaterLaw_low (by decide) (fun W vals ds hr _ => ?_))
  simp only [trLaterLaw, TT.sat_ret, TT.sat_ite, TT.sat_ob, TT.sat_next, TT.sat_stuck, put_i, put_b, put_d, put_fi, put_fb, put_fd, Ob.ok, B.ev, E.ev, X.ev, AL.ev, cmp_t, cmp_f, arEv, V.plain, V2.plain, S.plain, S0.plain, V.val, V2.val, S.val, S0.val, bV, iV, List.all_cons, List.all_nil, Bool.and_true, Bool.and_self, envOf_i, envOf_b, envOf_d, List.map_cons, List.map_nil, true_and, Bool.not_eq_true', Bool.not_eq_false', Bool.not_not, Bool.and_eq_true, and_f, cell_lg, cell_lb, cell_lr, cmpP, val_i, val_b, val_d, aget, Nat.reduceBEq, beq_self_eq_true, Bool.false_eq_true, if_true, if_false, Nat.reduceLT, Nat.reduceSub, Nat.sub_self, Nat.lt_irrefl, KGb20, KGi21, KGi22, KGi23, KGi24, KGi25, KGi26, KGb77, KGi77, pkf_eq, pk_eq, psg_four]
  refine ⟨fun _ => trivial, fun hp => ⟨fun _ => trivial, fun k0 => ⟨fun _ => trivial, fun k1 => ⟨fun _ => trivial, fun n0 => ⟨fun _ => trivial, fun n1 => ?_⟩⟩⟩⟩⟩
  obtain ⟨k, hk⟩ := Int.eq_ofNat_of_zero_le (a := iAt ds 4) (by omega)
  obtain ⟨n, hn⟩ := Int.eq_ofNat_of_zero_le (a := iAt ds 5) (by omega)
  rw [hk] at k1 n0
  rw [hn] at n0 n1
  simp only [hk, hn]
  rcases arr_of hp k (by omega) with ⟨ht, a1, a2, a3⟩ | ⟨ht, a1⟩
  · refine ⟨fun h => absurd a1 h, fun _ => ⟨by omega, by omega, ?_⟩⟩
    have hw : IntKind.i64.wrap ((n : Int) - (k : Int)) = ((n - k : Nat) : Int) := by
      obtain ⟨p1, p2, p3, p4⟩ := psgB_iff hp
      rw [wrap_in _ (by omega) (by omega)]; omega
    have hd := dur_later hp (show k ≤ n by omega) (by omega) ht
    have hq := psg_later hp (show k < (rAt ds 3).length by omega) ht
    have hnn := near_later hp (show k ≤ n by omega) (by omega) ht (iAt ds 6) (iAt ds 7) (iAt ds 8) (iAt ds 9) (iAt ds 10) (rAt ds 11) (iAt ds 12) (iAt ds 13) (rAt ds 14)
    rw [later] at hd hq hnn
    simp only [a2, a3, hw, hd.1, hd.2.1, hd.2.2, hq, hnn.1, hnn.2]
    simp [cmpEv, cmpP]
  · refine ⟨fun _ => ?_, fun h => absurd a1 (by omega)⟩
    simp [a1, cmpEv]
end Go.Proofs.Ytinfmmofcadjgaa
