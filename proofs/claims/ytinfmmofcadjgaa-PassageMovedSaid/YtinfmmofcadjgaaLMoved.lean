/- LMoved, merged: TMa, Lv, Mv. -/
import Derived.Test.YtinfmmofcadjgaaMH
import Derived.Test.YtinfmmofcadjgaaLNear
set_option linter.unusedSimpArgs false
set_option linter.unusedVariables false
/- Chapter 38: tree of the law PassageMoved. -/
namespace Go.Proofs.Ytinfmmofcadjgaa
open Go.RowKit
def u8 : Sh := .one (.int .u8)
def ctMoved : Ct := (17, cFeatV) :: ctLaw
theorem ctMoved_ok {ρ : Env} (h : Sees ρ KG 80) : CtOk Try.prog ρ ctMoved := .cons (cFeatV_ok (KG_KF h)) (ctLaw_ok h)
-- term trMovedLaw: call Try.prog ctMoved [(6, 2000073), (6, 1000128)] 100 6 (symArgs 0 [psg, it, feat, pt, u8]) [] 0
def trMovedLaw : TT OpR :=
(.ite (.cmp .neq (.fn 77 (.i (.var 0) (.i (.var 1) (.i (.var 2) (.x (.var 3) (.i (.var 4) (.i (.var 5) (.i (.var 6) (.i (.var 7) (.i (.var 8) (.i (.var 9) (.x (.var 10) (.i (.var 11) (.i (.var 12) (.x (.var 13) .nil))))))))))))))) (.lit 0))
  (.ret ((.v (.one (.z (.bool (.lit true))))), [], 3))
  (.ite (.cmp .lss (.var 14) (.lit (-1000)))
    (.ret ((.v (.one (.z (.bool (.lit true))))), [], 3))
    (.ite (.cmp .gtr (.var 14) (.lit 1000))
      (.ret ((.v (.one (.z (.bool (.lit true))))), [], 3))
      (.ite (.cmp .lss (.var 15) (.lit (-1000)))
        (.ret ((.v (.one (.z (.bool (.lit true))))), [], 3))
        (.ite (.cmp .gtr (.var 15) (.lit 1000))
          (.ret ((.v (.one (.z (.bool (.lit true))))), [], 3))
          (.loop 0 5000 ⟨[], [(0, (.lit false))], []⟩
            (.ite (.var 5000)
              (.ob (.tru (.cmp .leq (.len (.var 3)) (.lit 1000000)))
              (.loop 1 9000 ⟨[(0, (.lit 0))], [], [(1, (.var 3))]⟩
                (.ite (.cmp .lss (.var 9000) (.len (.var 9001)))
                  (.ob (.tru (.cmp .leq (.lit 0) (.var 9000)))
                  (.ob (.tru (.cmp .lss (.var 9000) (.len (.var 9001))))
                  (.ob (.tru (.cmp .leq (.lit 0) (.var 9000)))
                  (.ob (.tru (.cmp .lss (.var 9000) (.len (.var 9001))))
                  (.ob (.tru (.cmp .leq (.lit 0) (.var 9000)))
                  (.ob (.tru (.cmp .lss (.var 9000) (.len (.upd (.var 9001) (.var 9000) 0 (.i (.ar .add .i64 (.rd (.var 9001) (.var 9000) 0) (.var 14)) (.i (.ar .add .i64 (.rd (.var 9001) (.var 9000) 1) (.var 15)) .nil))))))
                  (.ob (.tru (.cmp .leq (.lit 0) (.var 9000)))
                  (.ob (.tru (.cmp .lss (.var 9000) (.len (.upd (.var 9001) (.var 9000) 0 (.i (.ar .add .i64 (.rd (.var 9001) (.var 9000) 0) (.var 14)) (.i (.ar .add .i64 (.rd (.var 9001) (.var 9000) 1) (.var 15)) .nil))))))
                  (.next 1 ⟨[(0, (.ar .add .i64 (.var 9000) (.lit 1)))], [], [(1, (.upd (.upd (.var 9001) (.var 9000) 0 (.i (.ar .add .i64 (.rd (.var 9001) (.var 9000) 0) (.var 14)) (.i (.ar .add .i64 (.rd (.var 9001) (.var 9000) 1) (.var 15)) .nil))) (.var 9000) 2 (.i (.ar .add .i64 (.rd (.upd (.var 9001) (.var 9000) 0 (.i (.ar .add .i64 (.rd (.var 9001) (.var 9000) 0) (.var 14)) (.i (.ar .add .i64 (.rd (.var 9001) (.var 9000) 1) (.var 15)) .nil))) (.var 9000) 2) (.var 14)) (.i (.ar .add .i64 (.rd (.upd (.var 9001) (.var 9000) 0 (.i (.ar .add .i64 (.rd (.var 9001) (.var 9000) 0) (.var 14)) (.i (.ar .add .i64 (.rd (.var 9001) (.var 9000) 1) (.var 15)) .nil))) (.var 9000) 3) (.var 15)) .nil))))]⟩)))))))))
                  (.loop 2 17000 ⟨[], [(0, (.lit false))], []⟩
                    (.ite (.var 17000)
                      (.loop 3 21000 ⟨[(0, (.lit 0)), (1, (.lit 0)), (1, (.lit 0))], [], [(2, .nil)]⟩
                        (.ite (.cmp .lss (.var 21000) (.len (.var 10)))
                          (.ob (.tru (.cmp .leq (.lit 0) (.var 21000)))
                          (.ob (.tru (.cmp .lss (.var 21000) (.len (.var 10))))
                          (.ob (.tru (.cmp .leq (.len (.app (.var 21002) (.app (.row (.i (.ar .add .i64 (.rd (.var 10) (.var 21000) 0) (.var 14)) (.i (.ar .add .i64 (.rd (.var 10) (.var 21000) 1) (.var 15)) .nil))) .nil))) (.lit 1000000)))
                          (.next 3 ⟨[(0, (.ar .add .i64 (.var 21000) (.lit 1))), (1, (.plus (.var 21001) (.lit 1))), (1, (.plus (.var 21001) (.lit 1)))], [], [(2, (.app (.var 21002) (.app (.row (.i (.ar .add .i64 (.rd (.var 10) (.var 21000) 0) (.var 14)) (.i (.ar .add .i64 (.rd (.var 10) (.var 21000) 1) (.var 15)) .nil))) .nil)))]⟩))))
                          (.ite (.not (.fn 20 (.i (.var 0) (.i (.var 1) (.i (.var 2) (.x (.var 9001) .nil))))))
                            (.ret ((.v (.one (.z (.bool (.var 5001))))), [], 26))
                            (.ite (.not (.fn 76 (.i (.var 5) (.i (.var 6) (.i (.var 17001) (.i (.var 17002) (.i (.var 9) (.x (.var 21002) (.i (.var 11) (.i (.var 12) (.x (.var 13) .nil)))))))))))
                              (.ret ((.v (.one (.z (.bool (.var 5001))))), [], 26))
                              (.ite (.var 5001)
                                (.ite (.cmp .eql (.fn 77 (.i (.var 0) (.i (.var 1) (.i (.var 2) (.x (.var 9001) (.i (.var 4) (.i (.var 5) (.i (.var 6) (.i (.var 17001) (.i (.var 17002) (.i (.var 9) (.x (.var 21002) (.i (.var 11) (.i (.var 12) (.x (.var 13) .nil))))))))))))))) (.lit 0))
                                  (.ite (.eqb (.fn 77 (.i (.var 0) (.i (.var 1) (.i (.var 2) (.x (.var 9001) (.i (.var 4) (.i (.var 5) (.i (.var 6) (.i (.var 17001) (.i (.var 17002) (.i (.var 9) (.x (.var 21002) (.i (.var 11) (.i (.var 12) (.x (.var 13) .nil))))))))))))))) (.fn 77 (.i (.var 0) (.i (.var 1) (.i (.var 2) (.x (.var 3) (.i (.var 4) (.i (.var 5) (.i (.var 6) (.i (.var 7) (.i (.var 8) (.i (.var 9) (.x (.var 10) (.i (.var 11) (.i (.var 12) (.x (.var 13) .nil))))))))))))))))
                                    (.ite (.and (.cmp .eql (.fn 24 (.i (.var 0) (.i (.var 1) (.i (.var 2) (.x (.var 3) (.i (.var 4) .nil)))))) (.fn 24 (.i (.var 0) (.i (.var 1) (.i (.var 2) (.x (.var 9001) (.i (.var 4) .nil))))))) (.cmp .eql (.fn 25 (.i (.var 0) (.i (.var 1) (.i (.var 2) (.x (.var 3) (.i (.var 4) .nil)))))) (.fn 25 (.i (.var 0) (.i (.var 1) (.i (.var 2) (.x (.var 9001) (.i (.var 4) .nil))))))))
                                      (.ret ((.v (.one (.z (.bool (.cmp .eql (.fn 26 (.i (.var 0) (.i (.var 1) (.i (.var 2) (.x (.var 3) (.i (.var 4) .nil)))))) (.fn 26 (.i (.var 0) (.i (.var 1) (.i (.var 2) (.x (.var 9001) (.i (.var 4) .nil))))))))))), [], 28))
                                      (.ret ((.v (.one (.z (.bool (.lit false))))), [], 28)))
                                    (.ret ((.v (.one (.z (.bool (.lit false))))), [], 28)))
                                  (.ret ((.v (.one (.z (.bool (.lit false))))), [], 28)))
                                (.ret ((.v (.one (.z (.bool (.lit false))))), [], 28)))))))
                      (.ite (.cmp .eql (.len (.var 10)) (.lit 0))
                        (.next 2 ⟨[(1, (.ar .add .i64 (.var 7) (.var 14))), (2, (.ar .add .i64 (.var 8) (.var 15)))], [(0, (.lit true))], []⟩)
                        (.next 2 ⟨[(1, (.var 7)), (2, (.var 8))], [(0, (.lit true))], []⟩)))))))
              (.ite (.cmp .eql (.fn 77 (.i (.var 0) (.i (.var 1) (.i (.mn (.lit 100000) (.ar .add .i64 (.var 2) (.wr .i64 (.var 16)))) (.x (.var 3) (.i (.var 4) (.i (.var 5) (.i (.var 6) (.i (.var 7) (.i (.var 8) (.i (.var 9) (.x (.var 10) (.i (.var 11) (.i (.var 12) (.x (.var 13) .nil))))))))))))))) (.lit 0))
                (.ite (.not (.fn 77 (.i (.var 0) (.i (.var 1) (.i (.var 2) (.x (.var 3) (.i (.var 4) (.i (.var 5) (.i (.var 6) (.i (.var 7) (.i (.var 8) (.i (.var 9) (.x (.var 10) (.i (.var 11) (.i (.var 12) (.x (.var 13) .nil))))))))))))))))
                  (.next 0 ⟨[], [(1, (.lit true)), (5, (.lit true)), (4, (.lit true)), (0, (.lit true))], []⟩)
                  (.next 0 ⟨[], [(1, (.fn 77 (.i (.var 0) (.i (.var 1) (.i (.mn (.lit 100000) (.ar .add .i64 (.var 2) (.wr .i64 (.var 16)))) (.x (.var 3) (.i (.var 4) (.i (.var 5) (.i (.var 6) (.i (.var 7) (.i (.var 8) (.i (.var 9) (.x (.var 10) (.i (.var 11) (.i (.var 12) (.x (.var 13) .nil)))))))))))))))), (5, (.lit true)), (4, (.fn 77 (.i (.var 0) (.i (.var 1) (.i (.mn (.lit 100000) (.ar .add .i64 (.var 2) (.wr .i64 (.var 16)))) (.x (.var 3) (.i (.var 4) (.i (.var 5) (.i (.var 6) (.i (.var 7) (.i (.var 8) (.i (.var 9) (.x (.var 10) (.i (.var 11) (.i (.var 12) (.x (.var 13) .nil)))))))))))))))), (0, (.lit true))], []⟩))
                (.next 0 ⟨[], [(1, (.lit false)), (5, (.lit false)), (4, (.lit false)), (0, (.lit true))], []⟩)))))))))
-- end trMovedLaw
set_option maxRecDepth 100000 in
theorem trMovedLaw_is : T.norm 0 (call Try.prog ctMoved [(6, 2000073), (6, 1000128)] 100 6 (symArgs 0 [psg, it, feat, pt, u8]) [] 0) TT.ret = trMovedLaw := by kernel_rfl
theorem trMovedLaw_low : trMovedLaw.low 1000 = true := by kernel_rfl
end Go.Proofs.Ytinfmmofcadjgaa
/- Chapter 38: what is moved as a whole stays as near as it was. -/
namespace Go.Proofs.Ytinfmmofcadjgaa
open Go.RowKit
section
variable {s t : Int}
theorem crossI_mv (ax ay bx b x y : Int) : crossI (ax + s) (ay + t) (bx + s) (b + t) (x + s) (y + t) = crossI ax ay bx b x y := by
  unfold crossI
  rw [show bx + s - (ax + s) = bx - ax by omega, show y + t - (ay + t) = y - ay by omega, show b + t - (ay + t) = b - ay by omega, show x + s - (ax + s) = x - ax by omega]
theorem dotI_mv (ax ay bx b x y : Int) : dotI (ax + s) (ay + t) (bx + s) (b + t) (x + s) (y + t) = dotI ax ay bx b x y := by
  unfold dotI
  rw [show bx + s - (ax + s) = bx - ax by omega, show y + t - (ay + t) = y - ay by omega, show b + t - (ay + t) = b - ay by omega, show x + s - (ax + s) = x - ax by omega]
theorem dist2_mv (ax ay bx b : Int) : dist2 (ax + s) (ay + t) (bx + s) (b + t) = dist2 ax ay bx b := by
  unfold dist2
  rw [show bx + s - (ax + s) = bx - ax by omega, show b + t - (ay + t) = b - ay by omega]
theorem onB_mv (x y ax ay bx b : Int) : onB (x + s) (y + t) (ax + s) (ay + t) (bx + s) (b + t) = onB x y ax ay bx b := by
  unfold onB turnI
  rw [crossI_mv]
  generalize sgn (crossI ax ay bx b x y) = z
  rw [decide_eq_decide]
  omega
theorem crossP_mv (x y ax ay bx b : Int) : crossP (x + s) (y + t) (ax + s) (ay + t) (bx + s) (b + t) = crossP x y ax ay bx b := by
  unfold crossP
  rw [crossI_mv, crossI_mv]
  generalize crossI bx b ax ay x y = u
  generalize crossI ax ay bx b x y = v
  by_cases h : b < ay
  · rw [if_pos h, if_pos (by omega), decide_eq_decide]; omega
  · rw [if_neg h, if_neg (by omega), decide_eq_decide]; omega
theorem meetB_mv (ax ay bx b x y dx dy : Int) : meetB (ax + s) (ay + t) (bx + s) (b + t) (x + s) (y + t) (dx + s) (dy + t) = meetB ax ay bx b x y dx dy := by
  unfold meetB turnI
  simp only [crossI_mv, onB_mv]
theorem nearB_mv (x y ax ay bx b d : Int) : nearB (x + s) (y + t) (ax + s) (ay + t) (bx + s) (b + t) d = nearB x y ax ay bx b d := by
  unfold nearB
  simp only [crossI_mv, dotI_mv, dist2_mv]
theorem closeB_mv (ax ay bx b x y dx dy d : Int) : closeB (ax + s) (ay + t) (bx + s) (b + t) (x + s) (y + t) (dx + s) (dy + t) d = closeB ax ay bx b x y dx dy d := by
  unfold closeB
  simp only [meetB_mv, nearB_mv]
end
/-- The corners of a are those of r, moved. -/
def MvC (r a : Rows) (s t : Int) : Prop := a.length = r.length ∧ ∀ j : Nat, j < r.length → lg a j 0 = lg r j 0 + s ∧ lg a j 1 = lg r j 1 + t
/-- The legs of m are those of r, moved. -/
def MvL (r m : Rows) (s t : Int) : Prop := m.length = r.length ∧ ∀ j : Nat, j < r.length → (lg m j 0 = lg r j 0 + s ∧ lg m j 1 = lg r j 1 + t) ∧ (lg m j 2 = lg r j 2 + s ∧ lg m j 3 = lg r j 3 + t) ∧ lg m j 4 = lg r j 4 ∧ lg m j 5 = lg r j 5
section
variable {r a : Rows} {s t : Int}
theorem onN_mv (h : MvC r a s t) (x y : Int) : ∀ (f i : Nat), i + f = r.length → onN a (x + s) (y + t) f i = onN r x y f i
  | 0, _, _ => rfl
  | f + 1, i, hi => by
    obtain ⟨e1, e2⟩ := h.2 i (by omega)
    obtain ⟨e3, e4⟩ := h.2 (nxt r.length i) (nxt_lt (by omega))
    rw [onN, onN, onN_mv h x y f (i + 1) (by omega)]
    unfold cx cy
    rw [h.1, e1, e2, e3, e4, onB_mv]
theorem parN_mv (h : MvC r a s t) (x y : Int) : ∀ (f i : Nat), i + f = r.length → parN a (x + s) (y + t) f i = parN r x y f i
  | 0, _, _ => rfl
  | f + 1, i, hi => by
    obtain ⟨e1, e2⟩ := h.2 i (by omega)
    obtain ⟨e3, e4⟩ := h.2 (nxt r.length i) (nxt_lt (by omega))
    rw [parN, parN, parN_mv h x y f (i + 1) (by omega)]
    unfold crE cx cy
    rw [h.1, e1, e2, e3, e4, crossP_mv]
theorem placeN_mv (h : MvC r a s t) (hr : polyB r = true) (ha : polyB a = true) {x y : Int} (hq : placeB x y = true) (hq' : placeB (x + s) (y + t) = true) : placeN a (x + s) (y + t) a.length 0 false = placeN r x y r.length 0 false := by
  rw [placeN_eq hr hq _ _ _ (by omega), placeN_eq ha hq' _ _ _ (by omega), h.1, onN_mv h x y _ _ (by omega), parN_mv h x y _ _ (by omega)]
theorem nearX_mv {m area A : Rows} {k : Nat} {off id kind x y x' y' rad depth sym : Int} {sc : Rows} (hm : MvL r m s t) (hk : k < r.length) (hA : MvC area A s t) (ho : 0 ≤ off ∧ off ≤ 100000)
    (l : legB r k = true) (l' : legB m k = true) (hf : featP id kind x y rad area depth sym sc) (hf' : featP id kind x' y' rad A depth sym sc) (hx : (area.length : Int) = 0 → x' = x + s ∧ y' = y + t) :
    nearX m k off kind x' y' rad A = nearX r k off kind x y rad area := by
  obtain ⟨⟨e0, e1⟩, ⟨e2, e3⟩, e4, e5⟩ := hm.2 k hk
  obtain ⟨p1, p2⟩ := leg_places l
  obtain ⟨q1, q2⟩ := leg_places l'
  rw [e0, e1] at q1
  rw [e2, e3] at q2
  obtain ⟨_, _, _, hr, h | h | h⟩ := hf
  · obtain ⟨hk, hp, _, _, hl, _⟩ := h
    obtain ⟨rfl, rfl⟩ := hx hl
    have hp' : placeB (x + s) (y + t) = true := by
      obtain ⟨_, _, _, _, h | h | h⟩ := hf'
      · exact h.2.1
      · omega
      · omega
    unfold nearX
    rw [if_neg (by omega), if_neg (by omega), if_neg (by omega), if_neg (by omega), (nearR_eq hp p1 p2 (by omega)).1, e0, e1, e2, e3, (nearR_eq hp' q1 q2 (by omega)).1, nearB_mv]
  · obtain ⟨hk, hp, _⟩ := h
    have hp' : polyB A = true := by
      obtain ⟨_, _, _, _, h | h | h⟩ := hf'
      · omega
      · exact h.2.1
      · omega
    unfold nearX
    rw [if_neg (by omega), if_pos (by omega), if_neg (by omega), if_pos (by omega), e0, e1, (pinR_eq hp p1).1, (pinR_eq hp' q1).1, placeN_mv hA hp hp' p1 q1]
    congr 1
    rw [Bool.eq_iff_iff, bes_true, bes_true]
    have key : ∀ j, j < area.length → closeR [.i (lg m k 0), .i (lg m k 1), .i (lg m k 2), .i (lg m k 3), .i (lg A (prv A.length j) 0), .i (lg A (prv A.length j) 1), .i (lg A j 0), .i (lg A j 1), .i off] = closeR [.i (lg r k 0), .i (lg r k 1), .i (lg r k 2), .i (lg r k 3), .i (lg area (prv area.length j) 0), .i (lg area (prv area.length j) 1), .i (lg area j 0), .i (lg area j 1), .i off] := by
      intro j hj
      have a1 := polyB_pl hp hj
      have a2 := polyB_pl hp (prv_lt hj)
      have b1 := polyB_pl hp' (show j < A.length by rw [hA.1]; exact hj)
      have b2 := polyB_pl hp' (prv_lt (show j < A.length by rw [hA.1]; exact hj))
      unfold cx cy at a1 a2 b1 b2
      obtain ⟨c1, c2⟩ := hA.2 j hj
      obtain ⟨c3, c4⟩ := hA.2 (prv area.length j) (prv_lt hj)
      rw [hA.1] at b2 ⊢
      rw [c1, c2] at b1
      rw [c3, c4] at b2
      rw [e0, e1, e2, e3, c1, c2, c3, c4, closeR_eq q1 q2 b2 b1 (by omega), closeR_eq p1 p2 a2 a1 (by omega), closeB_mv]
    rw [hA.1] at key ⊢
    constructor
    · rintro ⟨j, j1, j2, j3⟩; exact ⟨j, j1, j2, by rw [← key j (by omega)]; exact j3⟩
    · rintro ⟨j, j1, j2, j3⟩; exact ⟨j, j1, j2, by rw [key j (by omega)]; exact j3⟩
  · unfold nearX
    rw [if_pos h.1, if_pos h.1]
end
/-! Farther off -/
theorem nearB_far {x y ax ay bx b d e : Int} (hd : 0 ≤ d) (he : d ≤ e) (h : nearB x y ax ay bx b d = true) : nearB x y ax ay bx b e = true := by
  have hm : d * d ≤ e * e := Int.mul_le_mul he he hd (by omega)
  unfold nearB at h ⊢
  split at h
  · rename_i q
    rw [if_pos q]
    rw [decide_eq_true_eq] at h ⊢; omega
  · rename_i q
    rw [if_neg q]
    split at h
    · rename_i q2
      rw [if_pos q2]
      rw [decide_eq_true_eq] at h ⊢; omega
    · rename_i q2
      rw [if_neg q2]
      rw [decide_eq_true_eq] at h ⊢
      refine Int.le_trans h (Int.mul_le_mul_of_nonneg_right hm ?_)
      unfold dist2
      have h1 := sq_nn (bx - ax)
      have h2 := sq_nn (b - ay)
      omega
theorem closeB_far {ax ay bx b x y dx dy d e : Int} (hd : 0 ≤ d) (he : d ≤ e) (h : closeB ax ay bx b x y dx dy d = true) : closeB ax ay bx b x y dx dy e = true := by
  unfold closeB at h ⊢
  simp only [Bool.or_eq_true] at h ⊢
  rcases h with h | h | h | h | h
  · exact .inl h
  · exact .inr (.inl (nearB_far hd he h))
  · exact .inr (.inr (.inl (nearB_far hd he h)))
  · exact .inr (.inr (.inr (.inl (nearB_far hd he h))))
  · exact .inr (.inr (.inr (.inr (nearB_far hd he h))))
theorem nearX_far {r area : Rows} {k d e id kind x y rad depth sym : Int} {sc : Rows} (hd : 0 ≤ d) (he : d ≤ e) (hm : e ≤ 100000) (l : legB r k = true) (hf : featP id kind x y rad area depth sym sc) (h : nearX r k d kind x y rad area = true) : nearX r k e kind x y rad area = true := by
  obtain ⟨p1, p2⟩ := leg_places l
  obtain ⟨_, _, _, hr, q | q | q⟩ := hf
  · obtain ⟨hk, hp, _⟩ := q
    unfold nearX at h ⊢
    rw [if_neg (by omega), if_neg (by omega), (nearR_eq hp p1 p2 (by omega)).1] at h
    rw [if_neg (by omega), if_neg (by omega), (nearR_eq hp p1 p2 (by omega)).1]
    exact nearB_far (by omega) (by omega) h
  · obtain ⟨hk, hp, _⟩ := q
    unfold nearX at h ⊢
    rw [if_neg (by omega), if_pos (by omega), Bool.or_eq_true] at h
    rw [if_neg (by omega), if_pos (by omega), Bool.or_eq_true]
    rcases h with h | h
    · exact .inl h
    · right
      rw [bes_true] at h ⊢
      obtain ⟨j, j1, j2, j3⟩ := h
      refine ⟨j, j1, j2, ?_⟩
      have a1 := polyB_pl hp (show j < area.length by omega)
      have a2 := polyB_pl hp (prv_lt (show j < area.length by omega))
      unfold cx cy at a1 a2
      rw [closeR_eq p1 p2 a2 a1 (by omega)] at j3 ⊢
      exact closeB_far hd he j3
  · rw [nearX, if_pos q.1] at h; cases h
/-! Durations -/
section
variable {r m : Rows} {s t : Int}
theorem leg_mv (hm : MvL r m s t) {k : Nat} (hk : k < r.length) (l : legB r k = true) (l' : legB m k = true) : legLo m k = legLo r k ∧ legHi m k = legHi r k := by
  obtain ⟨⟨e0, e1⟩, ⟨e2, e3⟩, e4, e5⟩ := hm.2 k hk
  obtain ⟨p1, p2⟩ := leg_places l
  obtain ⟨q1, q2⟩ := leg_places l'
  have f1 : four4 (dl r k) = true := by show (placeB (lg r k 0) (lg r k 1) && placeB (lg r k 2) (lg r k 3)) = true; rw [p1, p2]; rfl
  have f2 : four4 (dl m k) = true := by show (placeB (lg m k 0) (lg m k 1) && placeB (lg m k 2) (lg m k 3)) = true; rw [q1, q2]; rfl
  have d1 : distIL (dl m k) = distIL (dl r k) := by
    unfold distIL
    rw [f1, f2]
    show distLo (lg m k 0) (lg m k 1) (lg m k 2) (lg m k 3) = distLo (lg r k 0) (lg r k 1) (lg r k 2) (lg r k 3)
    unfold distLo
    rw [e0, e1, e2, e3, dist2_mv]
  have d2 : distIH (dl m k) = distIH (dl r k) := by
    unfold distIH
    rw [f1, f2]
    show distHi (lg m k 0) (lg m k 1) (lg m k 2) (lg m k 3) = distHi (lg r k 0) (lg r k 1) (lg r k 2) (lg r k 3)
    unfold distHi distLo
    rw [e0, e1, e2, e3, dist2_mv]
  unfold legLo legHi
  rw [d1, d2, e4, e5]
  exact ⟨rfl, rfl⟩
theorem t_mv (hm : MvL r m s t) (l : ∀ k : Nat, k < r.length → legB r k = true) (l' : ∀ k : Nat, k < m.length → legB m k = true) (a b : Int) : ∀ k : Nat, k ≤ r.length → tLo m a k = tLo r a k ∧ tHi m b k = tHi r b k
  | 0, _ => ⟨rfl, rfl⟩
  | k + 1, hk => by
    obtain ⟨h1, h2⟩ := t_mv hm l l' a b k (by omega)
    obtain ⟨h3, h4⟩ := leg_mv hm (show k < r.length by omega) (l k (by omega)) (l' k (by rw [hm.1]; omega))
    rw [tLo, tLo, tHi, tHi, h1, h2, h3, h4]
    exact ⟨rfl, rfl⟩
theorem dur_mv {a b c : Int} (hm : MvL r m s t) (hp : psgB a b c r = true) (hp' : psgB a b c m = true) {k : Nat} (hk : k < r.length) : durE (pk a b c m k) = durE (pk a b c r k) ∧ durL (pk a b c m k) = durL (pk a b c r k) ∧ durH (pk a b c m k) = durH (pk a b c r k) := by
  obtain ⟨_, _, _, l⟩ := psgB_iff hp
  obtain ⟨_, _, _, l'⟩ := psgB_iff hp'
  have o1 : durO (pk a b c r k) = true := by
    show (psgB a b c r && decide (0 ≤ (k : Int) ∧ (k : Int) < r.length)) = true
    rw [hp, decide_eq_true ⟨by omega, by omega⟩]; rfl
  have o2 : durO (pk a b c m k) = true := by
    show (psgB a b c m && decide (0 ≤ (k : Int) ∧ (k : Int) < m.length)) = true
    rw [hp', decide_eq_true ⟨by omega, by rw [hm.1]; omega⟩]; rfl
  obtain ⟨t1, _⟩ := t_mv hm l l' a b k (by omega)
  obtain ⟨_, t2⟩ := t_mv hm l l' a b (k + 1) (by omega)
  have x : durX (pk a b c m k) = durX (pk a b c r k) := by
    show (durO (pk a b c m k) && !decide (10000000 < tHi m b ((k : Int).toNat + 1))) = (durO (pk a b c r k) && !decide (10000000 < tHi r b ((k : Int).toNat + 1)))
    rw [o1, o2, Int.toNat_natCast, t2]
  refine ⟨by unfold durE; rw [x, o1, o2], ?_, ?_⟩
  · unfold durL
    rw [x]
    show (if durX (pk a b c r k) then tLo m a (k : Int).toNat else 0) = (if durX (pk a b c r k) then tLo r a (k : Int).toNat else 0)
    rw [Int.toNat_natCast, t1]
  · unfold durH
    rw [x]
    show (if durX (pk a b c r k) then tHi m b ((k : Int).toNat + 1) else 0) = (if durX (pk a b c r k) then tHi r b ((k : Int).toNat + 1) else 0)
    rw [Int.toNat_natCast, t2]
end
end Go.Proofs.Ytinfmmofcadjgaa
/- Chapter 38: the law PassageMoved. -/
namespace Go.Proofs.Ytinfmmofcadjgaa
open Go.RowKit
theorem KGb76 (W : World) (ds l : List D) : (envOf KG W ds).fb 76 l = featL l := by simp only [envOf, KG, KF, KE, KD, KC, KB, KA, K9, K8, K7, K6, K5, K]
/-- How long a row is. -/
def rl (r : Rows) (i : Nat) : Nat := ((r[i]?).getD []).length
theorem updR_len (m : Rows) (i : Int) (j : Nat) (l : List D) : (updR m i j l).length = m.length := by simp [updR]
theorem rl_upd {m : Rows} {i : Nat} {j : Nat} {l : List D} (hi : i < m.length) (hl : j + l.length ≤ rl m i) (i' : Nat) : rl (updR m i j l) i' = rl m i' := by
  unfold rl updR at *
  rw [Int.toNat_natCast, List.getElem?_modify]
  rw [List.getElem?_eq_getElem hi] at hl
  by_cases e : i = i'
  · subst e
    rw [List.getElem?_eq_getElem hi]
    simp only [Option.getD_some] at hl
    simp
    omega
  · simp [e]
theorem lg_upd {m : Rows} {i : Nat} {j : Nat} {l : List D} (hi : i < m.length) (hl : j + l.length ≤ rl m i) (i' c : Nat) :
    lg (updR m i j l) i' c = if i' = i ∧ j ≤ c ∧ c < j + l.length then ((l[c - j]?).getD (.i 0)).int else lg m i' c := by
  unfold lg cellAt updR rl at *
  rw [Int.toNat_natCast, Int.toNat_natCast, List.getElem?_modify]
  rw [List.getElem?_eq_getElem hi] at hl
  simp only [Option.getD_some] at hl
  by_cases e : i = i'
  · subst e
    rw [List.getElem?_eq_getElem hi]
    simp only [if_true, Option.map_eq_map, Option.map_some, Option.getD_some, true_and]
    have ht : (List.take j m[i]).length = j := by rw [List.length_take]; omega
    by_cases q : c < j
    · rw [if_neg (by omega), List.append_assoc, List.getElem?_append_left (by omega), List.getElem?_take_of_lt q]
    · by_cases q2 : c < j + l.length
      · rw [if_pos (by omega), List.append_assoc, List.getElem?_append_right (by omega), ht, List.getElem?_append_left (by omega)]
      · rw [if_neg (by omega), List.getElem?_append_right (by rw [List.length_append, ht]; omega), List.length_append, ht, List.getElem?_drop]
        congr 3
        omega
  · rw [if_neg (by omega)]
    simp only [if_neg e]
    simp
theorem lg_some {r : Rows} {i c : Nat} (h : lg r i c ≠ 0) : c < rl r i := by
  unfold lg cellAt at h
  unfold rl
  rw [Int.toNat_natCast] at h
  rcases Nat.lt_or_ge c ((r[i]?).getD []).length with q | q
  · exact q
  · rw [List.getElem?_eq_none q] at h
    exact absurd rfl h
theorem lg_app_low {r s : Rows} {i c : Nat} (h : i < r.length) : lg (r ++ s) i c = lg r i c := by
  unfold lg cellAt
  rw [Int.toNat_natCast, List.getElem?_append_left h]
theorem lg_app_new {r : Rows} {row : List D} {c : Nat} : lg (r ++ [row]) (r.length : Nat) c = ((row[c]?).getD (.i 0)).int := by
  unfold lg cellAt
  rw [Int.toNat_natCast, List.getElem?_append_right (Nat.le_refl _), Nat.sub_self]
  rfl
/-- The first i legs are moved, the others are not yet. -/
structure Mid (r : Rows) (s t : Int) (i : Nat) (m : Rows) : Prop where
  len : m.length = r.length
  row : ∀ j, j < r.length → rl m j = rl r j
  done : ∀ j : Nat, j < r.length → j < i → (lg m j 0 = lg r j 0 + s ∧ lg m j 1 = lg r j 1 + t) ∧ (lg m j 2 = lg r j 2 + s ∧ lg m j 3 = lg r j 3 + t) ∧ lg m j 4 = lg r j 4 ∧ lg m j 5 = lg r j 5
  rest : ∀ j : Nat, j < r.length → i ≤ j → ∀ c : Nat, lg m j c = lg r j c
theorem Mid.step {r m : Rows} {s t : Int} {i : Nat} (h : Mid r s t i m) (hi : i < r.length) (h4 : lg r i 4 ≠ 0) : ∀ m2, m2 = updR m i 0 [.i (lg r i 0 + s), .i (lg r i 1 + t)] → Mid r s t (i + 1) (updR m2 i 2 [.i (lg r i 2 + s), .i (lg r i 3 + t)]) := by
  intro m2 hm2
  have hr : 4 < rl r i := lg_some (c := 4) h4
  have hm : 4 < rl m i := by rw [h.row i hi]; exact hr
  have hi' : i < m.length := by rw [h.len]; exact hi
  have k1 : ∀ i' c : Nat, lg m2 i' c = if i' = i ∧ 0 ≤ c ∧ c < 2 then (([D.i (lg r i 0 + s), .i (lg r i 1 + t)][c - 0]?).getD (.i 0)).int else lg m i' c := fun i' c => by
    rw [hm2]; exact lg_upd hi' (by simp; omega) i' c
  have k2 : ∀ i', rl m2 i' = rl m i' := fun i' => by rw [hm2]; exact rl_upd hi' (by simp; omega) i'
  have hi2 : i < m2.length := by rw [hm2, updR_len]; exact hi'
  have k3 : ∀ i' c : Nat, lg (updR m2 i 2 [.i (lg r i 2 + s), .i (lg r i 3 + t)]) i' c = if i' = i ∧ 2 ≤ c ∧ c < 4 then (([D.i (lg r i 2 + s), .i (lg r i 3 + t)][c - 2]?).getD (.i 0)).int else lg m2 i' c :=
    fun i' c => lg_upd hi2 (by rw [k2]; simp; omega) i' c
  refine ⟨by rw [updR_len, hm2, updR_len, h.len], fun j hj => by rw [rl_upd hi2 (by rw [k2]; simp; omega), k2, h.row j hj], fun j hj hji => ?_, fun j hj hji c => ?_⟩
  · by_cases e : j = i
    · subst e
      refine ⟨⟨?_, ?_⟩, ⟨?_, ?_⟩, ?_, ?_⟩
      · rw [k3, if_neg (by omega), k1, if_pos (by omega)]; rfl
      · rw [k3, if_neg (by omega), k1, if_pos (by omega)]; rfl
      · rw [k3, if_pos (by omega)]; rfl
      · rw [k3, if_pos (by omega)]; rfl
      · rw [k3, if_neg (by omega), k1, if_neg (by omega)]; exact h.rest j hj (Nat.le_refl _) 4
      · rw [k3, if_neg (by omega), k1, if_neg (by omega)]; exact h.rest j hj (Nat.le_refl _) 5
    · have hd := h.done j hj (by omega)
      have q : ∀ c : Nat, lg (updR m2 i 2 [.i (lg r i 2 + s), .i (lg r i 3 + t)]) j c = lg m j c := fun c => by rw [k3, if_neg (by omega), k1, if_neg (by omega)]
      rw [q 0, q 1, q 2, q 3, q 4, q 5]
      exact hd
  · rw [k3, if_neg (by omega), k1, if_neg (by omega)]
    exact h.rest j hj (by omega) c
theorem Mid.end {r m : Rows} {s t : Int} (h : Mid r s t r.length m) : MvL r m s t := ⟨h.len, fun j hj => h.done j hj hj⟩
theorem near_ok {a b c : Int} {r : Rows} {k id kind x y rad : Int} {area : Rows} {dep sym : Int} {sc : Rows} (h : nearPE (pkf a b c r k id kind x y rad area dep sym sc) = 0) :
    psgB a b c r = true ∧ (∃ n : Nat, k = n ∧ n < r.length) ∧ featB id kind x y rad area dep sym sc = true := by
  rw [nearPE_pkf] at h
  cases q : nearPO (pkf a b c r k id kind x y rad area dep sym sc) with
  | false => rw [q] at h; exact absurd h (by simp)
  | true =>
    rw [nearPO_pkf, Bool.and_eq_true, Bool.and_eq_true, decide_eq_true_eq] at q
    obtain ⟨n, hn⟩ := Int.eq_ofNat_of_zero_le q.2.1.1
    exact ⟨q.1, ⟨n, hn, by omega⟩, q.2.2⟩
/-- What Near answers for what is valid. -/
theorem near_is {a b c : Int} {r : Rows} {n : Nat} {id kind x y rad : Int} {area : Rows} {dep sym : Int} {sc : Rows} (hp : psgB a b c r = true) (hn : n < r.length) (hf : featB id kind x y rad area dep sym sc = true) :
    nearPE (pkf a b c r n id kind x y rad area dep sym sc) = 0 ∧ nearPR (pkf a b c r n id kind x y rad area dep sym sc) = nearX r n c kind x y rad area := by
  have o : nearPO (pkf a b c r n id kind x y rad area dep sym sc) = true := by
    rw [nearPO_pkf, hp, hf, decide_eq_true (p := 0 ≤ (n : Int) ∧ (n : Int) < r.length) ⟨by omega, by omega⟩]; rfl
  obtain ⟨_, _, p3, p4⟩ := psgB_iff hp
  rw [nearPE_pkf, nearPR_pkf, o, Bool.true_and]
  exact ⟨nearXE_zero (p4 n hn) (by omega) (featB_iff.mp hf), rfl⟩
theorem psgB_off' {a b c d : Int} {r : Rows} (h : psgB a b c r = true) (hd : 0 ≤ d ∧ d ≤ 100000) : psgB a b d r = true := by
  simp only [psgB, Bool.and_eq_true, decide_eq_true_eq] at h ⊢
  exact ⟨⟨h.1.1, by omega⟩, h.2⟩
theorem feat_at {id kind x y rad : Int} {area : Rows} {dep sym : Int} {sc : Rows} (h : featP id kind x y rad area dep sym sc) (h0 : (area.length : Int) = 0) : placeB x y = true := by
  obtain ⟨_, _, _, _, q | q | q⟩ := h
  · exact q.2.1
  · have := polyB_len q.2.1; omega
  · exact q.2.1
theorem feat_len {id kind x y rad : Int} {area : Rows} {dep sym : Int} {sc : Rows} (h : featP id kind x y rad area dep sym sc) : area.length ≤ 24 := by
  obtain ⟨_, _, _, _, q | q | q⟩ := h
  · omega
  · have := polyB_len q.2.1; omega
  · omega
theorem feat_pl {id kind x y rad : Int} {area : Rows} {dep sym : Int} {sc : Rows} (h : featP id kind x y rad area dep sym sc) {j : Nat} (hj : j < area.length) : placeB (lg area j 0) (lg area j 1) = true := by
  obtain ⟨_, _, _, _, q | q | q⟩ := h
  · omega
  · exact polyB_pl q.2.1 hj
  · omega
set_option maxHeartbeats 1000000 in
theorem gMovedLaw : GivesIf Try.prog 6 [psg, it, feat, pt, u8] (fun ds => 0 ≤ iAt ds 16 ∧ iAt ds 16 ≤ 255) (fun _ => .bool true) := by
  refine fn_gives KG (by kernel_rfl) (fun ρ h => ctMoved_ok (Sees.of h 80)) (by kernel_rfl) trMovedLaw_is trMovedLaw_low (by decide) (fun W vals ds hr hok => ?_)
  simp only [trMovedLaw, TT.sat_ret, TT.sat_ite, TT.sat_ob, TT.sat_next, TT.sat_stuck, put_i, put_b, put_d, put_fi, put_fb, put_fd, Ob.ok, B.ev, E.ev, X.ev, AL.ev, cmp_t, cmp_f, arEv, V.plain, V2.plain, S.plain, S0.plain, V.val, V2.val, S.val, S0.val, bV, iV, List.all_cons, List.all_nil, Bool.and_true, Bool.and_self, envOf_i, envOf_b, envOf_d, List.map_cons, List.map_nil, true_and, Bool.not_eq_true', Bool.not_eq_false', Bool.not_not, Bool.and_eq_true, and_f, cell_lg, cell_lb, cell_lr, cmpP, val_i, val_b, val_d, aget, Nat.reduceBEq, beq_self_eq_true, Bool.false_eq_true, if_true, if_false, Nat.reduceLT, Nat.reduceSub, Nat.sub_self, Nat.lt_irrefl, KGb77, KGi77, KGb20, KGb76, KGi24, KGi25, KGi26, pk_eq, pkf_eq]
  refine ⟨fun _ => trivial, fun h0 => ⟨fun _ => trivial, fun s1 => ⟨fun _ => trivial, fun s2 => ⟨fun _ => trivial, fun t1 => ⟨fun _ => trivial, fun t2 => ?_⟩⟩⟩⟩⟩
  have h0 : nearPE (pkf (iAt ds 0) (iAt ds 1) (iAt ds 2) (rAt ds 3) (iAt ds 4) (iAt ds 5) (iAt ds 6) (iAt ds 7) (iAt ds 8) (iAt ds 9) (rAt ds 10) (iAt ds 11) (iAt ds 12) (rAt ds 13)) = 0 := by omega
  obtain ⟨hp, ⟨n, hn, hn'⟩, hf⟩ := near_ok h0
  obtain ⟨p1, p2, p3, p4⟩ := psgB_iff hp
  have hfp := featB_iff.mp hf
  have hlen := feat_len hfp
  have w16 : IntKind.i64.wrap (iAt ds 16) = iAt ds 16 := wrap_in _ (by omega) (by omega)
  have w2 : IntKind.i64.wrap (iAt ds 2 + iAt ds 16) = iAt ds 2 + iAt ds 16 := wrap_in _ (by omega) (by omega)
  have hpf : psgB (iAt ds 0) (iAt ds 1) (min 100000 (iAt ds 2 + iAt ds 16)) (rAt ds 3) = true := psgB_off' hp (by omega)
  have far := near_is hpf hn' hf
  have nea := near_is hp hn' hf
  rw [← hn] at far nea
  have hfar : nearPR (pkf (iAt ds 0) (iAt ds 1) (iAt ds 2) (rAt ds 3) (iAt ds 4) (iAt ds 5) (iAt ds 6) (iAt ds 7) (iAt ds 8) (iAt ds 9) (rAt ds 10) (iAt ds 11) (iAt ds 12) (rAt ds 13)) = true →
      nearPR (pkf (iAt ds 0) (iAt ds 1) (min 100000 (iAt ds 2 + iAt ds 16)) (rAt ds 3) (iAt ds 4) (iAt ds 5) (iAt ds 6) (iAt ds 7) (iAt ds 8) (iAt ds 9) (rAt ds 10) (iAt ds 11) (iAt ds 12) (rAt ds 13)) = true := by
    rw [far.2, nea.2, hn]
    exact nearX_far (by omega) (by omega) (by omega) (p4 n hn') hfp
  refine TT.sat_join (fun v => v.b 1 = true) (fun v hv => ?_) (fun v hv hR => ?_)
  · simp only [TT.sat_ret, TT.sat_ite, TT.sat_ob, TT.sat_next, TT.sat_stuck, put_i, put_b, put_d, put_fi, put_fb, put_fd, Ob.ok, B.ev, E.ev, X.ev, AL.ev, cmp_t, cmp_f, arEv, V.plain, V2.plain, S.plain, S0.plain, V.val, V2.val, S.val, S0.val, bV, iV, List.all_cons, List.all_nil, Bool.and_true, Bool.and_self, envOf_i, envOf_b, envOf_d, List.map_cons, List.map_nil, true_and, Bool.not_eq_true', Bool.not_eq_false', Bool.not_not, Bool.and_eq_true, and_f, cell_lg, cell_lb, cell_lr, cmpP, val_i, val_b, val_d, aget, Nat.reduceBEq, beq_self_eq_true, Bool.false_eq_true, if_true, if_false, Nat.reduceLT, Nat.reduceSub, Nat.sub_self, Nat.lt_irrefl, KGb77, KGi77, pkf_eq, w16, w2]
    exact ⟨fun _ => ⟨fun _ => trivial, fun h => hfar h⟩, fun h => absurd far.1 h⟩
  simp only [TT.sat_ret, TT.sat_ite, TT.sat_ob, TT.sat_next, TT.sat_stuck, put_i, put_b, put_d, put_fi, put_fb, put_fd, Ob.ok, B.ev, E.ev, X.ev, AL.ev, cmp_t, cmp_f, arEv, V.plain, V2.plain, S.plain, S0.plain, V.val, V2.val, S.val, S0.val, bV, iV, List.all_cons, List.all_nil, Bool.and_true, Bool.and_self, envOf_i, envOf_b, envOf_d, List.map_cons, List.map_nil, true_and, Bool.not_eq_true', Bool.not_eq_false', Bool.not_not, Bool.and_eq_true, and_f, cell_lg, cell_lb, cell_lr, cmpP, val_i, val_b, val_d, aget, Nat.reduceBEq, beq_self_eq_true, Bool.false_eq_true, if_true, if_false, Nat.reduceLT, Nat.reduceSub, Nat.sub_self, Nat.lt_irrefl]
  refine ⟨by omega, ?_⟩
  refine TT.sat_loop (fun v => ∃ i : Nat, v.i 0 = i ∧ i ≤ (rAt ds 3).length ∧ Mid (rAt ds 3) (iAt ds 14) (iAt ds 15) i (v.d 1)) (fun v => (rAt ds 3).length - (v.i 0).toNat) ?_ (fun w hw => ?_)
  · refine ⟨0, ?_, by omega, ?_⟩
    · simp [val_i, aget, E.ev]
    · simp only [val_d, aget, TT.sat_ret, TT.sat_ite, TT.sat_ob, TT.sat_next, TT.sat_stuck, put_i, put_b, put_d, put_fi, put_fb, put_fd, Ob.ok, B.ev, E.ev, X.ev, AL.ev, cmp_t, cmp_f, arEv, V.plain, V2.plain, S.plain, S0.plain, V.val, V2.val, S.val, S0.val, bV, iV, List.all_cons, List.all_nil, Bool.and_true, Bool.and_self, envOf_i, envOf_b, envOf_d, List.map_cons, List.map_nil, true_and, Bool.not_eq_true', Bool.not_eq_false', Bool.not_not, Bool.and_eq_true, and_f, cell_lg, cell_lb, cell_lr, cmpP, val_i, val_b, val_d, aget, Nat.reduceBEq, beq_self_eq_true, Bool.false_eq_true, if_true, if_false, Nat.reduceLT, Nat.reduceSub, Nat.sub_self, Nat.lt_irrefl]
      exact ⟨rfl, fun _ _ => rfl, fun _ _ h => absurd h (Nat.not_lt_zero _), fun _ _ _ _ => rfl⟩
  obtain ⟨i, i0, i1, hm⟩ := hw
  simp only [TT.sat_ret, TT.sat_ite, TT.sat_ob, TT.sat_next, TT.sat_stuck, put_i, put_b, put_d, put_fi, put_fb, put_fd, Ob.ok, B.ev, E.ev, X.ev, AL.ev, cmp_t, cmp_f, arEv, V.plain, V2.plain, S.plain, S0.plain, V.val, V2.val, S.val, S0.val, bV, iV, List.all_cons, List.all_nil, Bool.and_true, Bool.and_self, envOf_i, envOf_b, envOf_d, List.map_cons, List.map_nil, true_and, Bool.not_eq_true', Bool.not_eq_false', Bool.not_not, Bool.and_eq_true, and_f, cell_lg, cell_lb, cell_lr, cmpP, val_i, val_b, val_d, aget, Nat.reduceBEq, beq_self_eq_true, Bool.false_eq_true, if_true, if_false, Nat.reduceLT, Nat.reduceSub, Nat.sub_self, Nat.lt_irrefl, i0]
  refine ⟨fun hc => ?_, fun hc => ?_⟩
  · have hi : i < (rAt ds 3).length := by have := hm.len; omega
    have e0 := hm.rest i hi (Nat.le_refl _)
    obtain ⟨⟨l1, l2⟩, _, l3, _⟩ := legB_iff.1 (p4 i hi)
    rw [placeB_iff] at l1 l2
    have W0 : IntKind.i64.wrap (lg (rAt ds 3) i 0 + iAt ds 14) = lg (rAt ds 3) i 0 + iAt ds 14 := wrap_in _ (by omega) (by omega)
    have W1 : IntKind.i64.wrap (lg (rAt ds 3) i 1 + iAt ds 15) = lg (rAt ds 3) i 1 + iAt ds 15 := wrap_in _ (by omega) (by omega)
    have W2 : IntKind.i64.wrap (lg (rAt ds 3) i 2 + iAt ds 14) = lg (rAt ds 3) i 2 + iAt ds 14 := wrap_in _ (by omega) (by omega)
    have W3 : IntKind.i64.wrap (lg (rAt ds 3) i 3 + iAt ds 15) = lg (rAt ds 3) i 3 + iAt ds 15 := wrap_in _ (by omega) (by omega)
    have hrl : 4 < rl (w.d 1) i := by rw [hm.row i hi]; exact lg_some (c := 4) (by omega)
    have hil : i < (w.d 1).length := by rw [hm.len]; exact hi
    have u2 : lg (updR (w.d 1) i 0 [.i (lg (rAt ds 3) i 0 + iAt ds 14), .i (lg (rAt ds 3) i 1 + iAt ds 15)]) i (2 : Nat) = lg (rAt ds 3) i 2 := by
      rw [lg_upd hil (by simp; omega), if_neg (by simp)]; exact e0 2
    have u3 : lg (updR (w.d 1) i 0 [.i (lg (rAt ds 3) i 0 + iAt ds 14), .i (lg (rAt ds 3) i 1 + iAt ds 15)]) i (3 : Nat) = lg (rAt ds 3) i 3 := by
      rw [lg_upd hil (by simp; omega), if_neg (by simp)]; exact e0 3
    rw [e0 0, e0 1, W0, W1, u2, u3, W2, W3, updR_len, wrap_in ((i : Int) + 1) (by omega) (by omega)]
    exact ⟨by omega, by omega, by omega, by omega, by omega, by omega, by omega, by omega, ⟨i + 1, by omega, by omega, hm.step hi (by omega) _ rfl⟩, by omega⟩
  have hM : MvL (rAt ds 3) (w.d 1) (iAt ds 14) (iAt ds 15) := by
    have e : i = (rAt ds 3).length := by have := hm.len; omega
    subst e
    exact hm.end
  refine TT.sat_join (fun u => (((rAt ds 10).length : Int) = 0 → u.i 1 = iAt ds 7 + iAt ds 14 ∧ u.i 2 = iAt ds 8 + iAt ds 15) ∧ (¬ ((rAt ds 10).length : Int) = 0 → u.i 1 = iAt ds 7 ∧ u.i 2 = iAt ds 8)) (fun u hu => ?_) (fun u hu hU => ?_)
  · simp only [TT.sat_ret, TT.sat_ite, TT.sat_ob, TT.sat_next, TT.sat_stuck, put_i, put_b, put_d, put_fi, put_fb, put_fd, Ob.ok, B.ev, E.ev, X.ev, AL.ev, cmp_t, cmp_f, arEv, V.plain, V2.plain, S.plain, S0.plain, V.val, V2.val, S.val, S0.val, bV, iV, List.all_cons, List.all_nil, Bool.and_true, Bool.and_self, envOf_i, envOf_b, envOf_d, List.map_cons, List.map_nil, true_and, Bool.not_eq_true', Bool.not_eq_false', Bool.not_not, Bool.and_eq_true, and_f, cell_lg, cell_lb, cell_lr, cmpP, val_i, val_b, val_d, aget, Nat.reduceBEq, beq_self_eq_true, Bool.false_eq_true, if_true, if_false, Nat.reduceLT, Nat.reduceSub, Nat.sub_self, Nat.lt_irrefl]
    refine ⟨fun hz => ?_, fun hz => ?_⟩
    · have hpl := feat_at hfp hz
      rw [placeB_iff] at hpl
      rw [wrap_in (iAt ds 7 + iAt ds 14) (by omega) (by omega), wrap_in (iAt ds 8 + iAt ds 15) (by omega) (by omega)]
      exact ⟨fun _ => ⟨rfl, rfl⟩, fun q => absurd hz q⟩
    · exact ⟨fun q => absurd q hz, fun _ => trivial⟩
  refine TT.sat_loop (fun z => ∃ j : Nat, z.i 0 = j ∧ j ≤ (rAt ds 10).length ∧ (z.d 2).length = j ∧ ∀ l : Nat, l < j → lg (z.d 2) l 0 = lg (rAt ds 10) l 0 + iAt ds 14 ∧ lg (z.d 2) l 1 = lg (rAt ds 10) l 1 + iAt ds 15) (fun z => (rAt ds 10).length - (z.i 0).toNat) ?_ (fun z hz => ?_)
  · exact ⟨0, by simp [val_i, aget, E.ev], by omega, by simp [val_d, aget, X.ev], fun l hl => absurd hl (Nat.not_lt_zero _)⟩
  obtain ⟨j, j0, j1, j2, j3⟩ := hz
  simp only [TT.sat_ret, TT.sat_ite, TT.sat_ob, TT.sat_next, TT.sat_stuck, put_i, put_b, put_d, put_fi, put_fb, put_fd, Ob.ok, B.ev, E.ev, X.ev, AL.ev, cmp_t, cmp_f, arEv, V.plain, V2.plain, S.plain, S0.plain, V.val, V2.val, S.val, S0.val, bV, iV, List.all_cons, List.all_nil, Bool.and_true, Bool.and_self, envOf_i, envOf_b, envOf_d, List.map_cons, List.map_nil, true_and, Bool.not_eq_true', Bool.not_eq_false', Bool.not_not, Bool.and_eq_true, and_f, cell_lg, cell_lb, cell_lr, cmpP, val_i, val_b, val_d, aget, Nat.reduceBEq, beq_self_eq_true, Bool.false_eq_true, if_true, if_false, Nat.reduceLT, Nat.reduceSub, Nat.sub_self, Nat.lt_irrefl, j0, KGb77, KGi77, KGb20, KGb76, KGi24, KGi25, KGi26, pk_eq, pkf_eq, hR]
  refine ⟨fun hc => ?_, fun hc => ?_⟩
  · have hj : j < (rAt ds 10).length := by omega
    have hq := feat_pl hfp hj
    rw [placeB_iff] at hq
    rw [wrap_in (lg (rAt ds 10) j 0 + iAt ds 14) (by omega) (by omega), wrap_in (lg (rAt ds 10) j 1 + iAt ds 15) (by omega) (by omega), wrap_in ((j : Int) + 1) (by omega) (by omega)]
    refine ⟨by omega, by omega, by simp [j2]; omega, ⟨j + 1, by omega, by omega, by simp [j2], fun l hl => ?_⟩, by omega⟩
    rw [List.append_nil]
    by_cases e : l < j
    · rw [lg_app_low (by omega), lg_app_low (by omega)]
      exact j3 l e
    · obtain rfl : l = j := by omega
      have q : ∀ c : Nat, lg (z.d 2 ++ [[D.i (lg (rAt ds 10) l 0 + iAt ds 14), D.i (lg (rAt ds 10) l 1 + iAt ds 15)]]) l c = (([D.i (lg (rAt ds 10) l 0 + iAt ds 14), D.i (lg (rAt ds 10) l 1 + iAt ds 15)][c]?).getD (.i 0)).int := fun c => by
        conv => lhs; rw [← j2]
        rw [j2]
        have := lg_app_new (r := z.d 2) (row := [D.i (lg (rAt ds 10) l 0 + iAt ds 14), D.i (lg (rAt ds 10) l 1 + iAt ds 15)]) (c := c)
        rw [j2] at this
        exact this
      rw [q 0, q 1]
      exact ⟨rfl, rfl⟩
  have hA : MvC (rAt ds 10) (z.d 2) (iAt ds 14) (iAt ds 15) := ⟨by omega, fun l hl => j3 l (by omega)⟩
  refine ⟨fun _ => trivial, fun q1 => ⟨fun _ => trivial, fun q2 => ?_⟩⟩
  have q1 : psgB (iAt ds 0) (iAt ds 1) (iAt ds 2) (w.d 1) = true := q1
  have q2 : featB (iAt ds 5) (iAt ds 6) (u.i 1) (u.i 2) (iAt ds 9) (z.d 2) (iAt ds 11) (iAt ds 12) (rAt ds 13) = true := q2
  have hn2 : n < (w.d 1).length := by rw [hM.1]; exact hn'
  have now := near_is q1 hn2 q2
  rw [← hn] at now
  have mv := nearX_mv hM hn' hA (show 0 ≤ iAt ds 2 ∧ iAt ds 2 ≤ 100000 by omega) (p4 n hn') ((psgB_iff q1).2.2.2 n hn2) hfp (featB_iff.mp q2) hU.1
  rw [← hn] at mv
  have N1 := now.2.trans (mv.trans nea.2.symm)
  obtain ⟨d1, d2, d3⟩ := dur_mv hM hp q1 hn'
  rw [← hn] at d1 d2 d3
  rw [N1, now.1, d1, d2, d3]
  simp [cmpEv]
theorem okWide_u8 {P : Program} {w : World} {r : Reach} {base : Nat} {t : TypeId} {v : Value} (hu : P.underlying t = some (.int .u8)) (h : Value.okWide P w r base t v) : ∃ n : Int, v = .int .u8 n ∧ 0 ≤ n ∧ n ≤ 255 := by
  unfold Value.okWide at h
  simp only [hu] at h
  unfold Cell.okWide at h
  simp only [hu] at h
  unfold Cell.ok at h
  simp only [hu] at h
  cases v <;> simp only at h <;> try exact h.elim
  rename_i k n
  obtain ⟨rfl, h⟩ := h
  refine ⟨n, rfl, ?_⟩
  have e1 : IntKind.u8.min = 0 := by decide
  have e2 : IntKind.u8.max = 255 := by decide
  unfold IntKind.has at h
  rw [e1, e2] at h
  exact h
theorem u8_arg {W : World} {vals : List Value} {ds : List D} (h : repSh W [psg, it, feat, pt, u8] vals ds) (hr : ∀ v, vals[4]? = some v → ∃ n : Int, v = .int .u8 n ∧ 0 ≤ n ∧ n ≤ 255) : 0 ≤ iAt ds 16 ∧ iAt ds 16 ≤ 255 := by
  obtain ⟨v0, vs0, d0, ds0, rfl, rfl, ⟨us0, rfl, h0⟩, v1, vs1, d1, ds1, rfl, rfl, ⟨x1, rfl, _⟩, v2, vs2, d2, ds2, rfl, rfl, ⟨us2, rfl, h2⟩, v3, vs3, d3, ds3, rfl, rfl, ⟨us3, rfl, h3⟩, v4, vs4, d4, ds4, rfl, rfl, ⟨x4, rfl, h4⟩, rfl, rfl⟩ := h
  obtain ⟨n, rfl, n1, n2⟩ := hr v4 rfl
  unfold CK.rep at h4
  obtain ⟨n', e1, rfl⟩ := h4
  cases e1
  have l0 : d0.length = 4 := (reps_len h0).2
  have l2 : d2.length = 9 := (reps_len h2).2
  have l3 : d3.length = 2 := (reps_len h3).2
  have e : iAt (d0 ++ ([x1] ++ (d2 ++ (d3 ++ ([D.i n] ++ []))))) 16 = n := by
    unfold iAt
    rw [List.getD_eq_getElem?_getD, List.getElem?_append_right (by omega), List.getElem?_append_right (by simp; omega), List.getElem?_append_right (by simp; omega), List.getElem?_append_right (by simp; omega)]
    simp [l0, l2, l3, D.int]
  rw [e]
  exact ⟨n1, n2⟩
end Go.Proofs.Ytinfmmofcadjgaa
