/- HH, merged: TVi, Vj, Vm, Vl, Vn. -/
import Derived.Test.YtldbejmgalhdaaaGreatHG
import Derived.Test.YtldbejmgalhdaaaGreatHE
import Derived.Test.YtldbejmgalhdaaaGreatMP
set_option linter.unusedSimpArgs false
set_option linter.unusedVariables false
/- Chapter 09: trees of survey.Current and of the laws' has. -/
namespace Go.Proofs.YtldbejmgalhdaaaGreat
open Go.RowKit
-- term trHas9: call Tryz.prog ctV2 (Lt.of []) 100 31 (symArgs 0 [.one (.sl [.int .i64]), it]) [] 0
def trHas9 : TT OpR :=
(.loop 0 1000 ⟨[(0, (.lit 0))], [], []⟩
 (.ite (.cmp .lss (.var 1000) (.len (.var 0)))
 (.ob (.tru (.cmp .leq (.lit 0) (.var 1000)))
 (.ob (.tru (.cmp .lss (.var 1000) (.len (.var 0))))
 (.ite (.cmp .eql (.rd (.var 0) (.var 1000) 0) (.var 1))
 (.ret ((.v (.one (.z (.bool (.lit true))))), [], 1))
 (.next 0 ⟨[(0, (.ar .add .i64 (.var 1000) (.lit 1)))], [], []⟩))))
 (.ret ((.v (.one (.z (.bool (.lit false))))), [], 1))))
-- end trHas9
def trHas9_h : List (Nat × St) := [
(0, ⟨(List.append [(.v (.one (.z (.ext [(.int .i64)] (.var 0) false)))), (.v (.one (.z (.int .i64 (.var 1))))), (.v (.one (.z .any))), (.v (.one (.z .any))), (.v (.one (.z (.bool (.lit false))))), (.v (.one (.z .any))), (.v (.one (.z .any))), (.v (.one (.z (.ext [(.int .i64)] (.var 0) false)))), (.v (.one (.z (.int .i64 (.len (.var 0)))))), (.v (.one (.z (.int .i64 (.var 1000)))))] (List.replicate 7 V.any)), [], 1, []⟩)]
def trHas9_j : List (FuncId × Nat × Nat × St) := [
]
set_option maxRecDepth 100000 in
theorem trHas9_is : T.norm 0 (call Tryz.prog ctV2 ⟨Lt.un (Lt.of []), trHas9_h, trHas9_j⟩ 100 31 (symArgs 0 [.one (.sl [.int .i64]), it]) [] 0) TT.ret = trHas9 := by kernel_rfl
theorem trHas9_low : trHas9.low 1000 = true := by kernel_rfl
-- term trSCurrent: call Tryz.prog ctV2 (Lt.of []) 150 15 (symArgs 0 [suv]) [] 0
def trSCurrent : TT OpR :=
(.ite (.not (.fn 150 (.x (.var 0) (.x (.var 1) .nil))))
 (.ret ((.tup [(.one (.z (.const (.slice none 0 0)))), (.one (.z (.int .i64 (.lit 1))))]), [], 1))
 (.ob (.tru (.cmp .leq (.len (.var 0)) (.lit 1000000)))
 (.loop 0 3000 ⟨[(0, (.lit 0)), (2, (.lit 0)), (0, (.lit 0))], [], [(1, .nil)]⟩
 (.ite (.cmp .lss (.var 3002) (.len (.fn 0 (.x (.var 0) (.x (.var 1) .nil)))))
 (.ob (.tru (.cmp .leq (.lit 0) (.var 3002)))
 (.ob (.tru (.cmp .lss (.var 3002) (.len (.fn 0 (.x (.var 0) (.x (.var 1) .nil))))))
 (.ob (.tru (.cmp .leq (.len (.app (.var 3001) (.app (.row (.i (.rd (.fn 0 (.x (.var 0) (.x (.var 1) .nil))) (.var 3002) 0) .nil)) .nil))) (.lit 1000000)))
 (.next 0 ⟨[(0, (.plus (.var 3000) (.lit 1))), (2, (.ar .add .i64 (.var 3002) (.lit 1))), (0, (.plus (.var 3000) (.lit 1)))], [], [(1, (.app (.var 3001) (.app (.row (.i (.rd (.fn 0 (.x (.var 0) (.x (.var 1) .nil))) (.var 3002) 0) .nil)) .nil)))]⟩))))
 (.ret ((.tup [(.one (.z (.own 3 (.var 3000)))), (.one (.z (.int .i64 (.lit 0))))]), [(3, (.own 3 [(.int .i64)] (.var 3001) (.var 3000)))], 6))))))
-- end trSCurrent
def trSCurrent_h : List (Nat × St) := [
(2, ⟨(List.append [(.v (.agg [(.z (.ext [(.int .i64), (.int .i64), (.int .i64), (.int .i64), (.int .i64), (.int .i64), (.int .i64)] (.var 0) false)), (.z (.ext [(.int .i64), (.int .i64), (.int .i64), (.int .i64), (.int .i64), (.sl [(.int .i64), (.int .i64)]), (.int .i64), (.int .i64), (.sl [(.int .i64), (.int .i64), (.int .i64), (.int .i64), (.int .i64), (.int .i64)])] (.var 1) false))])), (.v (.one (.z (.ptr 0 0)))), (.v (.one (.z (.const (.slice none 0 0))))), (.v (.one (.z (.int .i64 (.lit 0))))), (.v (.one (.z (.own 3 (.var 3000))))), (.v (.one (.z .any))), (.v (.one (.z .any))), (.v (.agg [(.z (.ext [(.int .i64), (.int .i64), (.int .i64), (.int .i64), (.int .i64), (.int .i64), (.int .i64)] (.var 0) false)), (.z (.ext [(.int .i64), (.int .i64), (.int .i64), (.int .i64), (.int .i64), (.sl [(.int .i64), (.int .i64)]), (.int .i64), (.int .i64), (.sl [(.int .i64), (.int .i64), (.int .i64), (.int .i64), (.int .i64), (.int .i64)])] (.var 1) false))])), (.v (.one (.z (.bool (.fn 150 (.x (.var 0) (.x (.var 1) .nil))))))), (.v (.one (.z (.bool (.not (.fn 150 (.x (.var 0) (.x (.var 1) .nil)))))))), (.v (.agg [(.z (.ext [(.int .i64), (.int .i64), (.int .i64), (.int .i64), (.int .i64), (.int .i64), (.int .i64)] (.var 0) false)), (.z (.ext [(.int .i64), (.int .i64), (.int .i64), (.int .i64), (.int .i64), (.sl [(.int .i64), (.int .i64)]), (.int .i64), (.int .i64), (.sl [(.int .i64), (.int .i64), (.int .i64), (.int .i64), (.int .i64), (.int .i64)])] (.var 1) false))])), (.v (.one (.z (.own 1 (.lit 0))))), (.v (.one (.z (.int .i64 (.len (.fn 0 (.x (.var 0) (.x (.var 1) .nil)))))))), (.v (.one (.z (.int .i64 (.var 3002)))))] (List.replicate 10 V.any)), [(3, (.own 3 [(.int .i64)] (.var 3001) (.var 3000))), (1, (.own 53 [(.int .i64), (.int .i64), (.int .i64), (.int .i64), (.int .i64), (.int .i64), (.int .i64)] (.fn 0 (.x (.var 0) (.x (.var 1) .nil))) (.lit 0))), (0, (.cells 25 [(.z (.ext [(.int .i64), (.int .i64), (.int .i64), (.int .i64), (.int .i64), (.int .i64), (.int .i64)] (.var 0) false)), (.z (.ext [(.int .i64), (.int .i64), (.int .i64), (.int .i64), (.int .i64), (.sl [(.int .i64), (.int .i64)]), (.int .i64), (.int .i64), (.sl [(.int .i64), (.int .i64), (.int .i64), (.int .i64), (.int .i64), (.int .i64)])] (.var 1) false))]))], 4, []⟩)]
def trSCurrent_j : List (FuncId × Nat × Nat × St) := [
]
set_option maxRecDepth 100000 in
theorem trSCurrent_is : T.norm 0 (call Tryz.prog ctV2 ⟨Lt.un (Lt.of []), trSCurrent_h, trSCurrent_j⟩ 150 15 (symArgs 0 [suv]) [] 0) TT.ret = trSCurrent := by kernel_rfl
theorem trSCurrent_low : trSCurrent.low 1000 = true := by kernel_rfl
-- term trR9Few: call Tryz.prog ctV2 (Lt.of []) 150 12 (symArgs 0 [suv]) [] 0
def trR9Few : TT OpR :=
(.ite (.cmp .leq (.len (.var 0)) (.lit 16))
 (.ret ((.v (.one (.z (.bool (.cmp .leq (.len (.var 1)) (.lit 12)))))), [], 1))
 (.ret ((.v (.one (.z (.bool (.lit false))))), [], 1)))
-- end trR9Few
end Go.Proofs.YtldbejmgalhdaaaGreat
/- Chapter 09: the laws' has. -/
namespace Go.Proofs.YtldbejmgalhdaaaGreat
open Go.RowKit
def hasN (r : Rows) (n : Int) : Nat → Nat → Bool
  | 0, _ => false
  | f + 1, i => decide (lg r i 0 = n) || hasN r n f (i + 1)
def hasB9 (r : Rows) (n : Int) : Bool := hasN r n r.length 0
def hasL9 (ds : List D) : Bool := hasB9 (rAt ds 0) (iAt ds 1)
theorem gHas9' : GivesIf Tryz.prog 31 [.one (.sl [.int .i64]), it] (fun ds => (rAt ds 0).length ≤ 281474976710656) (fun ds => .bool (hasL9 ds)) := by
  refine fn_gives KVb (by kernel_rfl) (fun ρ h => ctV2_ok (Sees.of h 160) (SeesD.of h 1)) (by kernel_rfl) trHas9_is trHas9_low (by decide) (fun W vals ds hr hok => ?_)
  simp only [trHas9, TT.sat_ret, TT.sat_ite, TT.sat_ob, TT.sat_next, TT.sat_stuck, put_i, put_b, put_d, put_fi, put_fb, put_fd, Ob.ok, B.ev, E.ev, X.ev, AL.ev, cmp_t, cmp_f, arEv, V.plain, V2.plain, S.plain, S0.plain, V.val, V2.val, S.val, S0.val, bV, iV, List.all_cons, List.all_nil, Bool.and_true, Bool.and_self, envOf_i, envOf_b, envOf_d, List.map_cons, List.map_nil, true_and, Bool.not_eq_true', Bool.not_eq_false', Bool.not_not, Bool.and_eq_true, and_f, cell_lg, cell_lb, cell_lr, cmpP, val_i, val_b, val_d, aget, Nat.reduceBEq, beq_self_eq_true, Bool.false_eq_true, if_true, if_false, Nat.reduceLT, Nat.reduceSub, Nat.sub_self, Nat.lt_irrefl]
  have hO : hasL9 ds = hasB9 (rAt ds 0) (iAt ds 1) := rfl
  rw [hO]
  clear hO hr
  generalize e0 : rAt ds 0 = r at *
  generalize e1 : iAt ds 1 = n at *
  generalize hG : hasB9 r n = G
  refine TT.sat_loop (fun v => ∃ i : Nat, v.i 0 = i ∧ i ≤ r.length ∧ hasN r n (r.length - i) i = G) (fun v => r.length - (v.i 0).toNat)
    ⟨0, by simp [val_i, aget, E.ev], by omega, hG⟩ (fun v hv => ?_)
  obtain ⟨i, i0, i1, i2⟩ := hv
  simp only [TT.sat_ret, TT.sat_ite, TT.sat_ob, TT.sat_next, TT.sat_stuck, put_i, put_b, put_d, put_fi, put_fb, put_fd, Ob.ok, B.ev, E.ev, X.ev, AL.ev, cmp_t, cmp_f, arEv, V.plain, V2.plain, S.plain, S0.plain, V.val, V2.val, S.val, S0.val, bV, iV, List.all_cons, List.all_nil, Bool.and_true, Bool.and_self, envOf_i, envOf_b, envOf_d, List.map_cons, List.map_nil, true_and, Bool.not_eq_true', Bool.not_eq_false', Bool.not_not, Bool.and_eq_true, and_f, cell_lg, cell_lb, cell_lr, cmpP, val_i, val_b, val_d, aget, Nat.reduceBEq, beq_self_eq_true, Bool.false_eq_true, if_true, if_false, Nat.reduceLT, Nat.reduceSub, Nat.sub_self, Nat.lt_irrefl, i0, e0, e1]
  refine ⟨fun hc => ?_, fun hc => ?_⟩
  · have hi : i < r.length := by omega
    obtain ⟨f, hf⟩ : ∃ f, r.length - i = f + 1 := ⟨r.length - i - 1, by omega⟩
    have hf' : r.length - (i + 1) = f := by omega
    rw [hf, hasN] at i2
    rw [wrap_in ((i : Int) + 1) (by omega) (by omega)]
    refine ⟨by omega, by omega, fun a => ?_, fun a => ⟨⟨i + 1, rfl, by omega, ?_⟩, by omega⟩⟩
    · rw [← i2, decide_eq_true (p := lg r i 0 = n) a]; rfl
    · rw [hf', ← i2, decide_eq_false (p := lg r i 0 = n) a]; rfl
  · have h0 : r.length - i = 0 := by omega
    rw [h0, hasN] at i2
    rw [← i2]
theorem gHas9 : Gives Tryz.prog 31 [.one (.sl [.int .i64]), it] (fun ds => .bool (hasL9 ds)) := by
  intro W vals ds hr
  refine gHas9' W vals ds hr ?_
  obtain ⟨v, vs', d, ds', rfl, rfl, ⟨x, rfl, q⟩, _⟩ := hr
  obtain ⟨r, a, n, c, rfl, rfl, hl, _, hn, _⟩ := q
  show r.length ≤ 281474976710656
  omega
theorem has_iff {r : Rows} {n : Int} : ∀ (f i : Nat), hasN r n f i = true ↔ ∃ k, i ≤ k ∧ k < i + f ∧ lg r k 0 = n
  | 0, i => ⟨fun h => by simp [hasN] at h, fun ⟨k, h1, h2, _⟩ => by omega⟩
  | f + 1, i => by
    rw [hasN, Bool.or_eq_true, decide_eq_true_eq, has_iff f (i + 1)]
    constructor
    · rintro (h | ⟨k, h1, h2, h3⟩)
      · exact ⟨i, by omega, by omega, h⟩
      · exact ⟨k, by omega, by omega, h3⟩
    · rintro ⟨k, h1, h2, h3⟩
      by_cases e : k = i
      · subst e; exact .inl h3
      · exact .inr ⟨k, by omega, by omega, h3⟩
theorem hasB9_iff {r : Rows} {n : Int} : hasB9 r n = true ↔ ∃ k : Nat, k < r.length ∧ lg r k 0 = n := by
  rw [hasB9, has_iff]
  constructor
  · rintro ⟨k, _, h2, h3⟩; exact ⟨k, by omega, h3⟩
  · rintro ⟨k, h2, h3⟩; exact ⟨k, by omega, by omega, h3⟩
end Go.Proofs.YtldbejmgalhdaaaGreat
/- Chapter 09: rising lists of rows, what is laid into them; which soundings are current. No program. -/
namespace Go.Proofs.YtldbejmgalhdaaaGreat
open Go.RowKit
/-! ### Rising lists -/
def RisP (r : Rows) : Prop := r.Pairwise (fun a b => cI a 0 < cI b 0)
theorem risP_iff {r : Rows} : risB r = true ↔ RisP r := by
  unfold RisP
  rw [List.pairwise_iff_getElem]
  constructor
  · intro h i j hi hj hij
    have := ris_lt h hij hj
    rwa [lg_cI hi, lg_cI hj] at this
  · intro h
    refine ris_of (fun i hi => ?_)
    rw [lg_cI (by omega), lg_cI hi]
    exact h i (i + 1) (by omega) hi (by omega)
theorem isB_mem {r : Rows} (hr : RisP r) {n : Int} : isB r n = true ↔ ∃ x ∈ r, cI x 0 = n := by
  rw [isB_iff (risP_iff.mpr hr)]
  constructor
  · rintro ⟨k, hk, h⟩
    exact ⟨r[k], List.getElem_mem hk, by rw [← lg_cI hk]; exact h⟩
  · rintro ⟨x, hx, h⟩
    obtain ⟨k, hk, rfl⟩ := List.getElem_of_mem hx
    exact ⟨k, hk, by rw [lg_cI hk]; exact h⟩
theorem ris_inj {r : Rows} (hr : RisP r) {a b : List D} (ha : a ∈ r) (hb : b ∈ r) (h : cI a 0 = cI b 0) : a = b := by
  obtain ⟨i, hi, rfl⟩ := List.getElem_of_mem ha
  obtain ⟨j, hj, rfl⟩ := List.getElem_of_mem hb
  have := List.pairwise_iff_getElem.mp hr
  rcases Nat.lt_trichotomy i j with e | e | e
  · have := this i j hi hj e; omega
  · subst e; rfl
  · have := this j i hj hi e; omega
theorem ris_ext : ∀ {a b : Rows}, RisP a → RisP b → (∀ x, x ∈ a ↔ x ∈ b) → a = b
  | [], [], _, _, _ => rfl
  | [], y :: b, _, _, h => absurd ((h y).2 (List.mem_cons_self ..)) (by simp)
  | x :: a, [], _, _, h => absurd ((h x).1 (List.mem_cons_self ..)) (by simp)
  | x :: a, y :: b, ha, hb, h => by
    obtain ⟨a1, a2⟩ := List.pairwise_cons.1 ha
    obtain ⟨b1, b2⟩ := List.pairwise_cons.1 hb
    have hxy : x = y := by
      rcases List.mem_cons.1 ((h x).1 (List.mem_cons_self ..)) with e | e
      · exact e
      · rcases List.mem_cons.1 ((h y).2 (List.mem_cons_self ..)) with e' | e'
        · exact e'.symm
        · have := b1 x e; have := a1 y e'; omega
    subst hxy
    congr 1
    refine ris_ext a2 b2 (fun z => ?_)
    have hz := h z
    rw [List.mem_cons, List.mem_cons] at hz
    constructor
    · intro hza
      rcases hz.1 (.inr hza) with e | e
      · subst e; have := a1 z hza; omega
      · exact e
    · intro hzb
      rcases hz.2 (.inr hzb) with e | e
      · subst e; have := b1 z hzb; omega
      · exact e
def insF (r : Rows) (row : List D) : Rows := r.take (lowR r (cI row 0)) ++ row :: r.drop (lowR r (cI row 0))
theorem mem_insF {r : Rows} {row b : List D} : b ∈ insF r row ↔ b = row ∨ b ∈ r := by
  unfold insF
  generalize lowR r (cI row 0) = k
  have h : b ∈ r ↔ b ∈ r.take k ∨ b ∈ r.drop k := by rw [← List.mem_append, List.take_append_drop]
  rw [h, List.mem_append, List.mem_cons]
  constructor
  · rintro (h | h | h)
    · exact .inr (.inl h)
    · exact .inl h
    · exact .inr (.inr h)
  · rintro (h | h | h)
    · exact .inr (.inl h)
    · exact .inl h
    · exact .inr (.inr h)
theorem len_insF (r : Rows) (row : List D) : (insF r row).length = r.length + 1 := by
  unfold insF
  have := (lowR_spec r (cI row 0)).1
  simp only [List.length_append, List.length_take, List.length_cons, List.length_drop]
  omega
theorem ris_insF {r : Rows} {row : List D} (h : RisP r) (hn : ∀ b ∈ r, cI b 0 ≠ cI row 0) : RisP (insF r row) := by
  unfold insF
  obtain ⟨h1, h2, h3⟩ := lowR_spec r (cI row 0)
  generalize lowR r (cI row 0) = k at *
  have lo : ∀ b ∈ r.take k, cI b 0 < cI row 0 := fun b hb => by
    obtain ⟨i, hi, rfl⟩ := List.getElem_of_mem hb
    rw [List.length_take] at hi
    rw [List.getElem_take, ← lg_cI (by omega)]
    exact h2 i (by omega)
  have hi : ∀ b ∈ r.drop k, cI row 0 < cI b 0 := fun b hb => by
    obtain ⟨i, hi, rfl⟩ := List.getElem_of_mem hb
    rw [List.length_drop] at hi
    have e := h3 (by omega)
    rw [lg_cI (by omega)] at e
    have hne := hn _ (List.getElem_mem (show k + i < r.length by omega))
    rw [List.getElem_drop]
    rcases Nat.eq_zero_or_pos i with q | q
    · subst q; simp only [Nat.add_zero] at *; omega
    · have := List.pairwise_iff_getElem.mp h k (k + i) (by omega) (by omega) (by omega)
      omega
  unfold RisP
  rw [List.pairwise_append, List.pairwise_cons]
  refine ⟨h.sublist (List.take_sublist _ _), ⟨hi, h.sublist (List.drop_sublist _ _)⟩, fun a ha b hb => ?_⟩
  rcases List.mem_cons.1 hb with e | hb
  · subst e; exact lo a ha
  · have := lo a ha; have := hi b hb; omega
def insL (F l : Rows) : Rows := l.foldl insF F
theorem insL_snoc (F l : Rows) (x : List D) : insL F (l ++ [x]) = insF (insL F l) x := by unfold insL; rw [List.foldl_append]; rfl
theorem len_insL (l : Rows) : ∀ F : Rows, (insL F l).length = F.length + l.length := by
  induction l with
  | nil => intro F; rfl
  | cons x l ih => intro F; show (insL (insF F x) l).length = _; rw [ih, len_insF, List.length_cons]; omega
theorem mem_insL {b : List D} (l : Rows) : ∀ F : Rows, b ∈ insL F l ↔ b ∈ F ∨ b ∈ l := by
  induction l with
  | nil => intro F; simp [insL]
  | cons x l ih =>
    intro F
    show b ∈ insL (insF F x) l ↔ _
    rw [ih, mem_insF, List.mem_cons]
    constructor
    · rintro ((h | h) | h)
      · exact .inr (.inl h)
      · exact .inl h
      · exact .inr (.inr h)
    · rintro (h | h | h)
      · exact .inl (.inr h)
      · exact .inl (.inl h)
      · exact .inr h
theorem ris_insL (l : Rows) : ∀ F : Rows, RisP F → RisP l → (∀ a ∈ F, ∀ b ∈ l, cI a 0 ≠ cI b 0) → RisP (insL F l) := by
  induction l with
  | nil => intro F h _ _; exact h
  | cons x l ih =>
    intro F hF hl hn
    obtain ⟨l1, l2⟩ := List.pairwise_cons.1 hl
    refine ih (insF F x) (ris_insF hF (fun b hb => hn b hb x (List.mem_cons_self ..))) l2 (fun a ha b hb => ?_)
    rcases mem_insF.1 ha with e | ha
    · subst e; have := l1 b hb; omega
    · exact hn a ha b (List.mem_cons_of_mem _ hb)
/-! ### Valid lists -/
def cR (row : List D) (j : Nat) : Rows := (row[j]?.getD (.i 0)).rows
theorem lr_cR {r : Rows} {i : Nat} (h : i < r.length) (j : Nat) : lr r i j = cR r[i] j := by
  unfold lr cellAt cR
  rw [Int.toNat_natCast, List.getElem?_eq_getElem h]
  rfl
def featR9 (x : List D) : Bool := featB (cI x 0) (cI x 1) (cI x 2) (cI x 3) (cI x 4) (cR x 5) (cI x 6) (cI x 7) (cR x 8)
def sndR9 (x : List D) : Bool := sndB (cI x 0) (cI x 1) (cI x 2) (cI x 3) (cI x 4) (cI x 5) (cI x 6)
theorem lisN_iff {r : Rows} : ∀ (f i : Nat) (last : Int), i + f ≤ r.length → (lisN r f i last = true ↔ (∀ k (hk : k < r.length), i ≤ k → k < i + f → featR9 r[k] = true ∧ last < cI r[k] 0) ∧ ∀ k l (hk : k < r.length) (hl : l < r.length), i ≤ k → k < l → l < i + f → cI r[k] 0 < cI r[l] 0)
  | 0, i, last, _ => ⟨fun _ => ⟨fun k _ h1 h2 => by omega, fun k l _ _ h1 h2 h3 => by omega⟩, fun _ => rfl⟩
  | f + 1, i, last, hf => by
    have hi : i < r.length := by omega
    have e : featRow r i = featR9 r[i] := by
      unfold featRow featR9
      simp only [lg_cI hi, lr_cR hi]
    rw [lisN, Bool.and_eq_true, Bool.and_eq_true, decide_eq_true_eq, lisN_iff f (i + 1) _ (by omega), e, lg_cI hi]
    constructor
    · rintro ⟨⟨h1, h2⟩, h3, h4⟩
      refine ⟨fun k hk g1 g2 => ?_, fun k l hk hl g1 g2 g3 => ?_⟩
      · by_cases q : k = i
        · subst q; exact ⟨h1, h2⟩
        · obtain ⟨a, b⟩ := h3 k hk (by omega) (by omega)
          exact ⟨a, by omega⟩
      · by_cases q : k = i
        · subst q; exact (h3 l hl (by omega) (by omega)).2
        · exact h4 k l hk hl (by omega) g2 (by omega)
    · rintro ⟨h1, h2⟩
      refine ⟨h1 i hi (by omega) (by omega), fun k hk g1 g2 => ⟨(h1 k hk (by omega) (by omega)).1, h2 i k hi hk (by omega) (by omega) (by omega)⟩, fun k l hk hl g1 g2 g3 => h2 k l hk hl (by omega) g2 (by omega)⟩
theorem list_iff {r : Rows} : listB r = true ↔ (∀ x ∈ r, featR9 x = true ∧ 0 < cI x 0) ∧ RisP r ∧ r.length ≤ 300 := by
  unfold listB RisP
  rw [Bool.and_eq_true, decide_eq_true_eq, lisN_iff _ _ _ (by omega), List.pairwise_iff_getElem]
  constructor
  · rintro ⟨⟨h1, h2⟩, h3⟩
    refine ⟨fun x hx => ?_, fun i j hi hj hij => h2 i j hi hj (by omega) hij (by omega), h3⟩
    obtain ⟨k, hk, rfl⟩ := List.getElem_of_mem hx
    exact h1 k hk (by omega) (by omega)
  · rintro ⟨h1, h2, h3⟩
    exact ⟨⟨fun k hk _ _ => h1 _ (List.getElem_mem hk), fun k l hk hl _ h _ => h2 k l hk hl h⟩, h3⟩
theorem surN_iff {F r : Rows} : ∀ (f i : Nat) (last : Int), i + f ≤ r.length → (surN F r f i last = true ↔ (∀ k (hk : k < r.length), i ≤ k → k < i + f → (isB F (cI r[k] 0) = false ∧ sndR9 r[k] = true) ∧ last < cI r[k] 0) ∧ ∀ k l (hk : k < r.length) (hl : l < r.length), i ≤ k → k < l → l < i + f → cI r[k] 0 < cI r[l] 0)
  | 0, i, last, _ => ⟨fun _ => ⟨fun k _ h1 h2 => by omega, fun k l _ _ h1 h2 h3 => by omega⟩, fun _ => rfl⟩
  | f + 1, i, last, hf => by
    have hi : i < r.length := by omega
    have e : sndRow r i = sndR9 r[i] := by
      unfold sndRow sndR9
      simp only [lg_cI hi]
    rw [surN, Bool.and_eq_true, Bool.and_eq_true, Bool.and_eq_true, decide_eq_true_eq, Bool.not_eq_true', surN_iff f (i + 1) _ (by omega), e, lg_cI hi]
    constructor
    · rintro ⟨⟨h0, h1, h2⟩, h3, h4⟩
      refine ⟨fun k hk g1 g2 => ?_, fun k l hk hl g1 g2 g3 => ?_⟩
      · by_cases q : k = i
        · subst q; exact ⟨⟨h0, h1⟩, h2⟩
        · obtain ⟨a, b⟩ := h3 k hk (by omega) (by omega)
          exact ⟨a, by omega⟩
      · by_cases q : k = i
        · subst q; exact (h3 l hl (by omega) (by omega)).2
        · exact h4 k l hk hl (by omega) g2 (by omega)
    · rintro ⟨h1, h2⟩
      obtain ⟨⟨a, b⟩, c⟩ := h1 i hi (by omega) (by omega)
      refine ⟨⟨a, b, c⟩, fun k hk g1 g2 => ⟨(h1 k hk (by omega) (by omega)).1, h2 i k hi hk (by omega) (by omega) (by omega)⟩, fun k l hk hl g1 g2 g3 => h2 k l hk hl (by omega) g2 (by omega)⟩
theorem sur_iff {s F : Rows} : surB s F = true ↔ (listB F = true ∧ s.length + F.length ≤ 300) ∧ (∀ x ∈ s, sndR9 x = true ∧ 0 < cI x 0) ∧ RisP s ∧ ∀ x ∈ s, ∀ f ∈ F, cI f 0 ≠ cI x 0 := by
  unfold surB
  rw [Bool.and_eq_true, Bool.and_eq_true, decide_eq_true_eq, surN_iff _ _ _ (by omega)]
  have hp : RisP s ↔ ∀ k l (hk : k < s.length) (hl : l < s.length), k < l → cI s[k] 0 < cI s[l] 0 := by unfold RisP; rw [List.pairwise_iff_getElem]
  rw [hp]
  constructor
  · rintro ⟨h1, h2, h3, h4⟩
    have hF := (list_iff.1 h1).2.1
    refine ⟨⟨h1, by omega⟩, fun x hx => ?_, fun k l hk hl h => h4 k l hk hl (by omega) h (by omega), fun x hx f hf e => ?_⟩
    · obtain ⟨k, hk, rfl⟩ := List.getElem_of_mem hx
      obtain ⟨⟨a, b⟩, c⟩ := h3 k hk (by omega) (by omega)
      exact ⟨b, c⟩
    · obtain ⟨k, hk, rfl⟩ := List.getElem_of_mem hx
      have := (h3 k hk (by omega) (by omega)).1.1
      rw [(isB_mem hF).2 ⟨f, hf, e⟩] at this
      cases this
  · rintro ⟨⟨h1, h2⟩, h3, h4, h5⟩
    have hF := (list_iff.1 h1).2.1
    refine ⟨h1, by omega, fun k hk _ _ => ?_, fun k l hk hl _ h _ => h4 k l hk hl h⟩
    have hm := List.getElem_mem hk
    refine ⟨⟨?_, (h3 _ hm).1⟩, (h3 _ hm).2⟩
    cases q : isB F (cI s[k] 0) with
    | false => rfl
    | true =>
      obtain ⟨f, hf, e⟩ := (isB_mem hF).1 q
      exact absurd e (h5 _ hm f hf)
/-! ### Current soundings -/
theorem repl_not {s : Rows} {x : List D} : replB s x = false ↔ ∀ y ∈ s, byB y x = false := by
  unfold replB
  rw [List.any_eq_false]
  exact ⟨fun h y hy => by simpa using h y hy, fun h y hy => by simp [h y hy]⟩
theorem cur_mem {s : Rows} {x : List D} : x ∈ curR s ↔ x ∈ s ∧ replB s x = false := by
  unfold curR
  rw [List.mem_filter, Bool.not_eq_true']
theorem cur_ris {s : Rows} (h : RisP s) : RisP (curR s) := h.sublist (List.filter_sublist)
end Go.Proofs.YtldbejmgalhdaaaGreat
/- Chapter 09: survey.Current. -/
namespace Go.Proofs.YtldbejmgalhdaaaGreat
open Go.RowKit
def idsR (ds : List D) : Rows := if surL ds = true then (curL ds).map fun row => [.i (cI row 0)] else []
def scE (ds : List D) : Int := if surL ds = true then 0 else 1
def nlIds : NL := { e := 3, ks := [.int .i64], s := 1, rows := idsR }
theorem two_den {ρ : Env} {σ : As} {s : S0} {k : IntKind} {e : E} {u : Value} (h : V.den ρ σ (.tup [.one (.z s), .one (.z (.int k e))]) u) : ∃ v, S0.den ρ σ s v ∧ u = .tuple #[v, .int k (e.ev ρ)] := by
  obtain ⟨vs, h1, rfl⟩ := h
  obtain ⟨v1, vs1, rfl, p1, h2⟩ := DL.cons_inv h1
  obtain ⟨v2, vs2, rfl, p2, h3⟩ := DL.cons_inv h2
  obtain rfl := DL.nil_inv h3
  have p2 : v2 = .int k (e.ev ρ) := p2
  subst p2
  exact ⟨v1, p1, rfl⟩
theorem leaf_two {ρ : Env} {m : Mem} {s : S0} {k : IntKind} {e : E} {l : NL} {ds : List D} {w0 : World} {x : X} {E : Int} (h1 : lrowsP m l.e l.ks s = some x) (h2 : x.ev ρ = l.rows ds) (h3 : e.ev ρ = E) :
    ∃ s' x, lrowsP m l.e l.ks s' = some x ∧ x.ev ρ = l.rows ds ∧ ∀ (σ : As) u, ρ.w = w0 → (V.tup [.one (.z s), .one (.z (.int k e))]).den ρ σ u → ∃ v, s'.den ρ σ v ∧ u = .tuple #[v, .int k E] :=
  ⟨s, x, h1, h2, fun σ u _ hu => by
    obtain ⟨v, g1, rfl⟩ := two_den hu
    exact ⟨v, g1, by rw [h3]⟩⟩
theorem KVbb150 (W : World) (ds l : List D) : (envOf KVb W ds).fb 150 l = surL l := by simp only [envOf, KVb]
theorem KVbd0 (W : World) (ds l : List D) : (envOf KVb W ds).fd 0 l = curL l := by simp only [envOf, KVb]
theorem sur_two (a b : Rows) : surL [.l a, .l b] = surB a b := rfl
theorem cur_two (a b : Rows) : curL [.l a, .l b] = curR a := rfl
theorem take_map {α β : Type} {r : List α} {i : Nat} (h : i < r.length) (f : α → β) : (r.take (i + 1)).map f = (r.take i).map f ++ [f r[i]] := by
  rw [List.take_succ_eq_append_getElem h, List.map_append]; rfl
theorem cur_len (s : Rows) : (curR s).length ≤ s.length := List.length_filter_le _ _
theorem gSCurrent : GivesN Tryz.prog 15 [suv] [nlIds] (fun _ => True) (fun _ ds vs u => ∃ v, vs = [v] ∧ u = .tuple #[v, .int .i64 (scE ds)]) := by
  refine fn_givesN1 KVb (by kernel_rfl) (fun ρ h => ctV2_ok (Sees.of h 160) (SeesD.of h 1)) (by kernel_rfl) trSCurrent_is trSCurrent_low (by decide) (fun w0 vals ds hr _ => ?_)
  simp only [trSCurrent, TT.sat_ret, TT.sat_ite, TT.sat_ob, TT.sat_next, TT.sat_stuck, put_i, put_b, put_d, put_fi, put_fb, put_fd, Ob.ok, B.ev, E.ev, X.ev, AL.ev, cmp_t, cmp_f, arEv, V.plain, V2.plain, S.plain, S0.plain, V.val, V2.val, S.val, S0.val, bV, iV, List.all_cons, List.all_nil, Bool.and_true, Bool.and_self, envOf_i, envOf_b, envOf_d, List.map_cons, List.map_nil, true_and, Bool.not_eq_true', Bool.not_eq_false', Bool.not_not, Bool.and_eq_true, and_f, cell_lg, cell_lb, cell_lr, cmpP, val_i, val_b, val_d, aget, Nat.reduceBEq, beq_self_eq_true, Bool.false_eq_true, if_true, if_false, Nat.reduceLT, Nat.reduceSub, Nat.sub_self, Nat.lt_irrefl, KVbb150, KVbd0, sur_two, cur_two]
  have hR : nlIds.rows ds = if surB (rAt ds 0) (rAt ds 1) = true then (curR (rAt ds 0)).map fun row => [.i (cI row 0)] else [] := rfl
  have hE : scE ds = if surB (rAt ds 0) (rAt ds 1) = true then 0 else 1 := rfl
  clear hr
  generalize e0 : rAt ds 0 = s at *
  generalize e1 : rAt ds 1 = F at *
  refine ⟨fun hv => ?_, fun hv => ?_⟩
  · rw [hv] at hR hE
    exact leaf_two (x := .nil) (by kernel_rfl) (by rw [hR]; simp [X.ev]) (by rw [hE]; simp [E.ev])
  · rw [if_pos hv] at hR hE
    have hl := cur_len s
    have hok := (sur_iff.1 hv).1.2
    refine ⟨by omega, ?_⟩
    refine TT.sat_loop (fun v => ∃ i : Nat, v.i 2 = i ∧ i ≤ (curR s).length ∧ v.d 1 = ((curR s).take i).map fun row => [.i (cI row 0)]) (fun v => (curR s).length - (v.i 2).toNat)
      ⟨0, by simp [val_i, aget, E.ev], by omega, by simp [val_d, aget, X.ev]⟩ (fun v hv => ?_)
    obtain ⟨i, i0, i1, i2⟩ := hv
    simp only [TT.sat_ret, TT.sat_ite, TT.sat_ob, TT.sat_next, TT.sat_stuck, put_i, put_b, put_d, put_fi, put_fb, put_fd, Ob.ok, B.ev, E.ev, X.ev, AL.ev, cmp_t, cmp_f, arEv, V.plain, V2.plain, S.plain, S0.plain, V.val, V2.val, S.val, S0.val, bV, iV, List.all_cons, List.all_nil, Bool.and_true, Bool.and_self, envOf_i, envOf_b, envOf_d, List.map_cons, List.map_nil, true_and, Bool.not_eq_true', Bool.not_eq_false', Bool.not_not, Bool.and_eq_true, and_f, cell_lg, cell_lb, cell_lr, cmpP, val_i, val_b, val_d, aget, Nat.reduceBEq, beq_self_eq_true, Bool.false_eq_true, if_true, if_false, Nat.reduceLT, Nat.reduceSub, Nat.sub_self, Nat.lt_irrefl, i0, i2, e0, e1, KVbd0, cur_two]
    refine ⟨fun hc => ?_, fun hc => ?_⟩
    · have hi : i < (curR s).length := by omega
      rw [wrap_in ((i : Int) + 1) (by omega) (by omega)]
      refine ⟨by omega, by omega, ?_, ⟨i + 1, rfl, by omega, ?_⟩, by omega⟩
      · rw [List.length_append, List.length_map, List.length_take]
        simp only [List.length_append, List.length_cons, List.length_nil]
        omega
      · rw [take_map hi, lg_cI hi, List.append_nil]
    · have hi : i = (curR s).length := by omega
      refine leaf_two (x := .var 3001) (by kernel_rfl) ?_ (by rw [hE]; simp [E.ev])
      rw [hR]
      simp only [X.ev, put_d, Nat.reduceLT, if_false, Nat.reduceSub, i2, hi, List.take_length]
end Go.Proofs.YtldbejmgalhdaaaGreat
/- Chapter 09: contracts of survey.Current and of the laws' has. -/
namespace Go.Proofs.YtldbejmgalhdaaaGreat
open Go.RowKit
def KVc : Interp where
  fi n l := match n with | 160 => scE l | n => KVb.fi n l
  fb n l := match n with | 160 => hasL9 l | n => KVb.fb n l
  fd n l := match n with | 1 => idsR l | n => KVb.fd n l
theorem KVc_KVbd {ρ : Env} (h : SeesD ρ KVc 2) : SeesD ρ KVb 1 := fun n l hn => by
  rw [h n l (by omega)]
  simp only [KVc]
  split <;> first | omega | rfl
theorem KVc_KVb {ρ : Env} (h : Sees ρ KVc 170) : Sees ρ KVb 160 := h.trans (by decide) fun n l hn => by
  refine ⟨?_, ?_⟩
  ·
    simp only [KVc]
    split <;> first | omega | rfl
  ·
    simp only [KVc]
    split <;> first | omega | rfl
def cHas9 := ctD [.one (.sl [.int .i64]), it] fun al => .ret (bV (bF 160 hasL9 al))
theorem cHas9_ok {ρ : Env} (h : Sees ρ KVc 170) : CtOne Tryz.prog ρ 31 cHas9 :=
  ctD_ok gHas9 (fun _ => rfl) (fun al => by simp only [iV, bV, V.s0, V.val, V2.val, S.val, S0.val, bF_ev (s := 160) (f := hasL9) (fun l => by rw [(h 160 l (by decide)).2]; simp only [KVc])]; try rfl)
def cSCurrent := cNewT [suv] nlIds (fun _ => []) fun al nx => .tup [.one (.z (.own nx (.lit 0))), .one (sIF 160 scE al)]
theorem cSCurrent_ok {ρ : Env} (h : Sees ρ KVc 170) (hd : SeesD ρ KVc 2) : CtOne Tryz.prog ρ 15 cSCurrent := by
  refine cNewT_ok gSCurrent (by decide) (fun al _ => trivial) (fun a => ?_) (fun al nx σ' v hv => ?_)
  · show ρ.fd 1 a = idsR a
    rw [hd 1 _ (by decide)]; simp only [KVc]
  · refine ⟨[v, .int .i64 (scE (al.ev ρ))], ⟨hv, ?_, trivial⟩, rfl⟩
    show Value.int .i64 (scE (al.ev ρ)) = .int .i64 ((iF 160 scE al).ev ρ)
    rw [iF_ev (s := 160) (f := scE) (fun l => by rw [(h 160 l (by decide)).1]; simp only [KVc])]
def ctV3 : Ct := (15, cSCurrent) :: (31, cHas9) :: ctV2
theorem ctV3_ok {ρ : Env} (h : Sees ρ KVc 170) (hd : SeesD ρ KVc 2) : CtOk Tryz.prog ρ ctV3 := .cons (cSCurrent_ok h hd) <| .cons (cHas9_ok h) <| ctV2_ok (KVc_KVb h) (KVc_KVbd hd)
end Go.Proofs.YtldbejmgalhdaaaGreat
