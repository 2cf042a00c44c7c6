/- LWays, merged: TH7, H7, H8, TH9, H9. -/
import Derived.Test.YtcjaembdcfppfaaNH
set_option linter.unusedSimpArgs false
set_option linter.unusedVariables false
/- Chapter 11: the tree of the law's isWay. -/
namespace Go.Proofs.Ytcjaembdcfppfaa
open Go.RowKit
def trIsWay : TT OpR :=
(.ite (.cmp .eql (.len (.var 7)) (.lit 0))
 (.ret ((.v (.one (.z (.bool (.lit false))))), [], 1))
 (.ob (.tru (.lit true))
 (.ob (.tru (.cmp .lss (.lit 0) (.len (.var 7))))
 (.ite (.cmp .neq (.rd (.var 7) (.lit 0) 0) (.var 8))
 (.ret ((.v (.one (.z (.bool (.lit false))))), [], 1))
 (.ob (.tru (.cmp .leq (.lit 0) (.ar .sub .i64 (.len (.var 7)) (.lit 1))))
 (.ob (.tru (.cmp .lss (.ar .sub .i64 (.len (.var 7)) (.lit 1)) (.len (.var 7))))
 (.ite (.cmp .neq (.rd (.var 7) (.ar .sub .i64 (.len (.var 7)) (.lit 1)) 0) (.var 9))
 (.ret ((.v (.one (.z (.bool (.lit false))))), [], 1))
 (.loop 0 2000 ⟨[(0, (.lit 0))], [], []⟩
 (.ite (.cmp .lss (.var 2000) (.len (.var 7)))
 (.ob (.tru (.cmp .leq (.lit 0) (.var 2000)))
 (.ob (.tru (.cmp .lss (.var 2000) (.len (.var 7))))
 (.ite (.cmp .lss (.rd (.var 7) (.var 2000) 0) (.lit 0))
 (.ret ((.v (.one (.z (.bool (.lit false))))), [], 2))
 (.ob (.tru (.cmp .leq (.lit 0) (.var 2000)))
 (.ob (.tru (.cmp .lss (.var 2000) (.len (.var 7))))
 (.ite (.cmp .geq (.rd (.var 7) (.var 2000) 0) (.len (.var 5)))
 (.ret ((.v (.one (.z (.bool (.lit false))))), [], 2))
 (.ob (.tru (.cmp .leq (.lit 0) (.var 2000)))
 (.ob (.tru (.cmp .lss (.var 2000) (.len (.var 7))))
 (.ob (.tru (.cmp .leq (.lit 0) (.rd (.var 7) (.var 2000) 0)))
 (.ob (.tru (.cmp .lss (.rd (.var 7) (.var 2000) 0) (.len (.var 5))))
 (.ite (.cmp .lss (.rd (.var 5) (.rd (.var 7) (.var 2000) 0) 0) (.var 6))
 (.ret ((.v (.one (.z (.bool (.lit false))))), [], 2))
 (.ite (.cmp .eql (.var 2000) (.lit 0))
 (.next 0 ⟨[(0, (.ar .add .i64 (.var 2000) (.lit 1)))], [], []⟩)
 (.ob (.tru (.cmp .leq (.lit 0) (.var 2000)))
 (.ob (.tru (.cmp .lss (.var 2000) (.len (.var 7))))
 (.ob (.tru (.cmp .neq (.var 3) (.lit 0)))
 (.ob (.tru (.cmp .leq (.lit 0) (.ar .sub .i64 (.var 2000) (.lit 1))))
 (.ob (.tru (.cmp .lss (.ar .sub .i64 (.var 2000) (.lit 1)) (.len (.var 7))))
 (.ob (.tru (.cmp .neq (.var 3) (.lit 0)))
 (.ob (.tru (.cmp .leq (.lit 0) (.var 2000)))
 (.ob (.tru (.cmp .lss (.var 2000) (.len (.var 7))))
 (.ob (.tru (.cmp .neq (.var 3) (.lit 0)))
 (.ob (.tru (.cmp .leq (.lit 0) (.ar .sub .i64 (.var 2000) (.lit 1))))
 (.ob (.tru (.cmp .lss (.ar .sub .i64 (.var 2000) (.lit 1)) (.len (.var 7))))
 (.ob (.tru (.cmp .neq (.var 3) (.lit 0)))
 (.ite (.cmp .neq (.ar .add .i64 (.ar .mul .i64 (.ar .sub .i64 (.ar .rem .i64 (.rd (.var 7) (.var 2000) 0) (.var 3)) (.ar .rem .i64 (.rd (.var 7) (.ar .sub .i64 (.var 2000) (.lit 1)) 0) (.var 3))) (.ar .sub .i64 (.ar .rem .i64 (.rd (.var 7) (.var 2000) 0) (.var 3)) (.ar .rem .i64 (.rd (.var 7) (.ar .sub .i64 (.var 2000) (.lit 1)) 0) (.var 3)))) (.ar .mul .i64 (.ar .sub .i64 (.ar .quo .i64 (.rd (.var 7) (.var 2000) 0) (.var 3)) (.ar .quo .i64 (.rd (.var 7) (.ar .sub .i64 (.var 2000) (.lit 1)) 0) (.var 3))) (.ar .sub .i64 (.ar .quo .i64 (.rd (.var 7) (.var 2000) 0) (.var 3)) (.ar .quo .i64 (.rd (.var 7) (.ar .sub .i64 (.var 2000) (.lit 1)) 0) (.var 3))))) (.lit 1))
 (.ret ((.v (.one (.z (.bool (.lit false))))), [], 2))
 (.next 0 ⟨[(0, (.ar .add .i64 (.var 2000) (.lit 1)))], [], []⟩))))))))))))))))))))))))))
 (.ret ((.v (.one (.z (.bool (.lit true))))), [], 2)))))))))))
def trIsWay_h : List (Nat × St) := [
(1, ⟨(List.append [(.v (.agg [(.z (.int .i64 (.var 0))), (.z (.int .i64 (.var 1))), (.z (.int .i64 (.var 2))), (.z (.int .i64 (.var 3))), (.z (.int .i64 (.var 4))), (.z (.ext [(.int .i64)] (.var 5) false))])), (.v (.one (.z (.int .i64 (.var 6))))), (.v (.one (.z (.ext [(.int .i64)] (.var 7) false)))), (.v (.one (.z (.int .i64 (.var 8))))), (.v (.one (.z (.int .i64 (.var 9))))), (.v (.one (.z (.ptr 0 0))))] (List.append (List.replicate 4 V.any) (List.append [(.v (.one (.z (.bool (.lit false))))), (.v (.one (.z (.int .i64 (.var 2000))))), (.v (.one (.z .any))), (.v (.one (.z .any))), (.v (.one (.z (.ext [(.int .i64)] (.var 7) false)))), (.v (.one (.z (.int .i64 (.len (.var 7)))))), (.v (.one (.z (.bool (.cmp .eql (.len (.var 7)) (.lit 0)))))), (.v (.one (.z (.bool (.lit false))))), (.v (.one (.z (.ext [(.int .i64)] (.var 7) false)))), (.v (.one (.z (.eptr [(.int .i64)] (.var 7) (.lit 0) 0)))), (.v (.one (.z (.int .i64 (.rd (.var 7) (.lit 0) 0))))), (.v (.one (.z (.int .i64 (.var 8))))), (.v (.one (.z (.bool (.cmp .neq (.rd (.var 7) (.lit 0) 0) (.var 8)))))), (.v (.one (.z (.bool (.cmp .neq (.rd (.var 7) (.lit 0) 0) (.var 8)))))), (.v (.one (.z (.bool (.lit false))))), (.v (.one (.z (.ext [(.int .i64)] (.var 7) false)))), (.v (.one (.z (.ext [(.int .i64)] (.var 7) false)))), (.v (.one (.z (.int .i64 (.len (.var 7)))))), (.v (.one (.z (.int .i64 (.ar .sub .i64 (.len (.var 7)) (.lit 1)))))), (.v (.one (.z (.eptr [(.int .i64)] (.var 7) (.ar .sub .i64 (.len (.var 7)) (.lit 1)) 0)))), (.v (.one (.z (.int .i64 (.rd (.var 7) (.ar .sub .i64 (.len (.var 7)) (.lit 1)) 0))))), (.v (.one (.z (.int .i64 (.var 9))))), (.v (.one (.z (.bool (.cmp .neq (.rd (.var 7) (.ar .sub .i64 (.len (.var 7)) (.lit 1)) 0) (.var 9)))))), (.v (.one (.z (.bool (.cmp .neq (.rd (.var 7) (.ar .sub .i64 (.len (.var 7)) (.lit 1)) 0) (.var 9))))))] (List.replicate 75 V.any)))), [(0, (.cells 26 [(.z (.int .i64 (.var 0))), (.z (.int .i64 (.var 1))), (.z (.int .i64 (.var 2))), (.z (.int .i64 (.var 3))), (.z (.int .i64 (.var 4))), (.z (.ext [(.int .i64)] (.var 5) false))]))], 2, []⟩)]
def trIsWay_j : List (FuncId × Nat × Nat × St) := [
]
set_option maxRecDepth 100000 in
theorem trIsWay_is : T.norm 0 (call Try.prog ctGd ⟨Lt.un (Lt.of []), trIsWay_h, trIsWay_j⟩ 200 12 (symArgs 0 [gridS, it, ints, it, it]) [] 0) TT.ret = trIsWay := by kernel_rfl
theorem trIsWay_low : trIsWay.low 1000 = true := by kernel_rfl
end Go.Proofs.Ytcjaembdcfppfaa
/- Chapter 11: isWay, plain and by the program. -/
namespace Go.Proofs.Ytcjaembdcfppfaa
open Go.RowKit
def adjB (W x y : Int) : Bool := decide ((x.tmod W - y.tmod W) * (x.tmod W - y.tmod W) + (x.tdiv W - y.tdiv W) * (x.tdiv W - y.tdiv W) = 1)
def stopB (W : Int) (D L : List Int) (need : Int) (i : Nat) : Bool := decide (0 ≤ Grid.at_ L i ∧ Grid.at_ L i < (D.length : Nat) ∧ need ≤ Grid.at_ D (Grid.at_ L i).toNat) && (decide (i = 0) || adjB W (Grid.at_ L i) (Grid.at_ L (i - 1)))
def wayB (W : Int) (D L : List Int) (need fr to : Int) : Bool := decide (0 < L.length ∧ Grid.at_ L 0 = fr ∧ Grid.at_ L (L.length - 1) = to) && (List.range L.length).all (stopB W D L need)
theorem wayB_iff {W : Int} {D L : List Int} {need fr to : Int} : wayB W D L need fr to = true ↔ (0 < L.length ∧ Grid.at_ L 0 = fr ∧ Grid.at_ L (L.length - 1) = to) ∧ ∀ i, i < L.length → stopB W D L need i = true := by
  unfold wayB
  simp only [Bool.and_eq_true, decide_eq_true_eq, List.all_eq_true, List.mem_range]
theorem adj_near {W H x y : Nat} (hw : 0 < W) (hx : x < W * H) (hy : y < W * H) : adjB W x y = true ↔ x ∈ Grid.near W H y := by
  rw [Grid.near_iff hw hy]
  unfold adjB
  rw [decide_eq_true_eq]
  have e1 : (x : Int).tmod W = ((x % W : Nat) : Int) := rfl
  have e2 : (y : Int).tmod W = ((y % W : Nat) : Int) := rfl
  have e3 : (x : Int).tdiv W = ((x / W : Nat) : Int) := rfl
  have e4 : (y : Int).tdiv W = ((y / W : Nat) : Int) := rfl
  rw [e1, e2, e3, e4]
  generalize x % W = a
  generalize y % W = b
  generalize x / W = c
  generalize y / W = d
  have sq : ∀ z : Int, z * z = 0 ∧ z = 0 ∨ z * z = 1 ∧ (z = 1 ∨ z = -1) ∨ 4 ≤ z * z ∧ z ≠ 0 ∧ z ≠ 1 ∧ z ≠ -1 := fun z => by
    by_cases h0 : z = 0
    · subst h0; exact .inl ⟨rfl, rfl⟩
    by_cases h1 : z = 1
    · subst h1; exact .inr (.inl ⟨rfl, .inl rfl⟩)
    by_cases h2 : z = -1
    · subst h2; exact .inr (.inl ⟨rfl, .inr rfl⟩)
    refine .inr (.inr ⟨?_, h0, h1, h2⟩)
    rcases Int.lt_or_le 0 z with q | q
    · have : 2 * 2 ≤ z * z := Int.mul_le_mul (by omega) (by omega) (by omega) (by omega)
      omega
    · have : 2 * 2 ≤ (-z) * (-z) := Int.mul_le_mul (by omega) (by omega) (by omega) (by omega)
      rw [Int.neg_mul_neg] at this
      omega
  rcases sq ((a : Int) - b) with ⟨p1, p2⟩ | ⟨p1, p2⟩ | ⟨p1, p2⟩ <;> rcases sq ((c : Int) - d) with ⟨q1, q2⟩ | ⟨q1, q2⟩ | ⟨q1, q2⟩ <;> omega
theorem at_natI {l : List Nat} {i : Nat} (h : i < l.length) : Grid.at_ (natI l) i = (l[i] : Int) := by
  simp [Grid.at_, natI, h]
theorem way_iff {W H : Nat} {D : List Int} {need : Int} (hw : 0 < W) (hD : D.length = W * H) (l : List Nat) (a b : Nat) : wayB W D (natI l) need a b = true ↔ Grid.IsWay W H (Grid.Deep D need) l a b := by
  rw [wayB_iff, natI_len]
  constructor
  · rintro ⟨⟨h0, h1, h2⟩, h3⟩
    rw [at_natI h0] at h1
    rw [at_natI (by omega)] at h2
    have all : ∀ i (hi : i < l.length), l[i] < W * H ∧ need ≤ Grid.at_ D l[i] ∧ (i = 0 ∨ adjB W (l[i] : Int) (Grid.at_ (natI l) (i - 1)) = true) := fun i hi => by
      have := h3 i hi
      unfold stopB at this
      rw [at_natI hi] at this
      simp only [Bool.and_eq_true, Bool.or_eq_true, decide_eq_true_eq, Int.toNat_natCast, hD] at this
      exact ⟨by omega, this.1.2.2, this.2⟩
    refine ⟨?_, ?_, fun x hx => ?_, fun i x y h4 h5 => ?_⟩
    · rw [List.getElem?_eq_getElem h0]; congr 1; omega
    · rw [List.getElem?_eq_getElem (by omega)]; congr 1; omega
    · obtain ⟨i, hi, rfl⟩ := List.getElem_of_mem hx
      exact ⟨(all i hi).1, (all i hi).2.1⟩
    · obtain ⟨hi, rfl⟩ := List.getElem?_eq_some_iff.1 h4
      obtain ⟨hj, rfl⟩ := List.getElem?_eq_some_iff.1 h5
      rcases (all (i + 1) hj).2.2 with q | q
      · omega
      · rw [Nat.add_sub_cancel, at_natI hi] at q
        exact (adj_near hw (all (i + 1) hj).1 (all i hi).1).1 q
  · intro h
    have h0 : 0 < l.length := by
      rcases Nat.eq_zero_or_pos l.length with k | k
      · have := h.head; rw [List.getElem?_eq_none (by omega)] at this; cases this
      · exact k
    have e1 := h.head
    have e2 := h.last
    rw [List.getElem?_eq_getElem h0] at e1
    rw [List.getElem?_eq_getElem (by omega)] at e2
    refine ⟨⟨h0, ?_, ?_⟩, fun i hi => ?_⟩
    · rw [at_natI h0]; rw [Option.some.inj e1]
    · rw [at_natI (by omega)]; rw [Option.some.inj e2]
    · unfold stopB
      rw [at_natI hi]
      have ha := h.all _ (List.getElem_mem hi)
      simp only [Bool.and_eq_true, Bool.or_eq_true, decide_eq_true_eq, Int.toNat_natCast, hD]
      refine ⟨⟨by omega, by omega, ha.2⟩, ?_⟩
      by_cases e : i = 0
      · exact .inl e
      · refine .inr ?_
        rw [at_natI (by omega)]
        exact (adj_near hw ha.1 (h.all _ (List.getElem_mem (by omega))).1).2 (h.step (i - 1) _ _ (List.getElem?_eq_getElem (by omega)) (by rw [show i - 1 + 1 = i by omega]; exact List.getElem?_eq_getElem hi))
theorem way_nat {W : Int} {D L : List Int} {need fr to : Int} (h : wayB W D L need fr to = true) : ∃ (l : List Nat) (a b : Nat), L = natI l ∧ fr = a ∧ to = b := by
  obtain ⟨⟨h0, h1, h2⟩, h3⟩ := wayB_iff.1 h
  have nn : ∀ i, i < L.length → 0 ≤ Grid.at_ L i := fun i hi => by
    have := h3 i hi
    unfold stopB at this
    simp only [Bool.and_eq_true, decide_eq_true_eq] at this
    exact this.1.1
  refine ⟨L.map Int.toNat, fr.toNat, to.toNat, Grid.list_at (by simp [natI]) fun c hc => ?_, ?_, ?_⟩
  · rw [at_natI (by simpa using hc)]
    have := nn c hc
    simp only [List.getElem_map]
    unfold Grid.at_ at this ⊢
    rw [List.getElem?_eq_getElem hc] at this ⊢
    simp only [Option.getD_some] at this ⊢
    omega
  · have := nn 0 h0; omega
  · have := nn _ (show L.length - 1 < L.length by omega); omega
end Go.Proofs.Ytcjaembdcfppfaa
/- Chapter 11: isWay by the program, its contract. -/
namespace Go.Proofs.Ytcjaembdcfppfaa
open Go.RowKit
theorem sq_le {p m : Int} (h1 : -m ≤ p) (h2 : p ≤ m) : 0 ≤ p * p ∧ p * p ≤ m * m := by
  rcases Int.le_total 0 p with q | q
  · exact ⟨Int.mul_nonneg q q, Int.mul_le_mul h2 h2 q (by omega)⟩
  · have e : p * p = (-p) * (-p) := by rw [Int.neg_mul_neg]
    rw [e]
    exact ⟨Int.mul_nonneg (by omega) (by omega), Int.mul_le_mul (by omega) (by omega) (by omega) (by omega)⟩
theorem way_arith {a b w : Int} (ha : 0 ≤ a ∧ a ≤ 4096) (hb : 0 ≤ b ∧ b ≤ 4096) (hw : 1 ≤ w ∧ w ≤ 64) :
    IntKind.i64.wrap (IntKind.i64.wrap (IntKind.i64.wrap (a.tmod w - b.tmod w) * IntKind.i64.wrap (a.tmod w - b.tmod w)) + IntKind.i64.wrap (IntKind.i64.wrap (IntKind.i64.wrap (a.tdiv w) - IntKind.i64.wrap (b.tdiv w)) * IntKind.i64.wrap (IntKind.i64.wrap (a.tdiv w) - IntKind.i64.wrap (b.tdiv w)))) =
    (a.tmod w - b.tmod w) * (a.tmod w - b.tmod w) + (a.tdiv w - b.tdiv w) * (a.tdiv w - b.tdiv w) := by
  have a1 : 0 ≤ a.tmod w := Int.tmod_nonneg _ ha.1
  have a2 : a.tmod w < w := Int.tmod_lt_of_pos _ (by omega)
  have a3 : 0 ≤ a.tdiv w := Int.tdiv_nonneg ha.1 (by omega)
  have a4 : a.tdiv w ≤ a := Int.tdiv_le_self _ ha.1
  have b1 : 0 ≤ b.tmod w := Int.tmod_nonneg _ hb.1
  have b2 : b.tmod w < w := Int.tmod_lt_of_pos _ (by omega)
  have b3 : 0 ≤ b.tdiv w := Int.tdiv_nonneg hb.1 (by omega)
  have b4 : b.tdiv w ≤ b := Int.tdiv_le_self _ hb.1
  rw [wrap_in (a.tmod w - b.tmod w) (by omega) (by omega), wrap_in (a.tdiv w) (by omega) (by omega), wrap_in (b.tdiv w) (by omega) (by omega), wrap_in (a.tdiv w - b.tdiv w) (by omega) (by omega)]
  obtain ⟨s1, s2⟩ := sq_le (p := a.tmod w - b.tmod w) (m := 64) (by omega) (by omega)
  obtain ⟨s3, s4⟩ := sq_le (p := a.tdiv w - b.tdiv w) (m := 4096) (by omega) (by omega)
  rw [wrap_in ((a.tmod w - b.tmod w) * (a.tmod w - b.tmod w)) (by omega) (by omega), wrap_in ((a.tdiv w - b.tdiv w) * (a.tdiv w - b.tdiv w)) (by omega) (by omega), wrap_in _ (by omega) (by omega)]
def isWayL (ds : List D) : Bool := wayB (iAt ds 3) (cellsI (rAt ds 5)) (cellsI (rAt ds 7)) (iAt ds 6) (iAt ds 8) (iAt ds 9)
set_option maxRecDepth 10000 in
set_option maxHeartbeats 2000000 in
theorem gIsWay : GivesIf Try.prog 12 [gridS, it, ints, it, it] (fun ds => gvL ds = true) (fun ds => .bool (isWayL ds)) := by
  refine fn_gives KGc (by kernel_rfl) (fun ρ h => ctGd_ok (Sees.of h 170) (SeesD.of h 5)) (by kernel_rfl) trIsWay_is trIsWay_low (by decide) (fun W0 vals ds hr hok => ?_)
  have hwf := rAt_wf (rep_args hr) (j := 7) rfl
  have hlen := hwf.1
  have hR : isWayL ds = wayB (iAt ds 3) (cellsI (rAt ds 5)) (cellsI (rAt ds 7)) (iAt ds 6) (iAt ds 8) (iAt ds 9) := rfl
  have hg : gvB (iAt ds 0) (iAt ds 1) (iAt ds 2) (iAt ds 3) (iAt ds 4) (rAt ds 5) = true := hok
  clear hr hok
  simp only [trIsWay, TT.sat_ret, TT.sat_ite, TT.sat_ob, TT.sat_next, TT.sat_stuck, put_i, put_b, put_d, put_fi, put_fb, put_fd, Ob.ok, B.ev, E.ev, X.ev, AL.ev, cmp_t, cmp_f, arEv, V.plain, V2.plain, S.plain, S0.plain, V.val, V2.val, S.val, S0.val, bV, iV, List.all_cons, List.all_nil, Bool.and_true, Bool.and_self, envOf_i, envOf_b, envOf_d, List.map_cons, List.map_nil, true_and, Bool.not_eq_true', Bool.not_eq_false', Bool.not_not, Bool.and_eq_true, and_f, cell_lg, cell_lb, cell_lr, cmpP, val_i, val_b, val_d, aget, Nat.reduceBEq, beq_self_eq_true, Bool.false_eq_true, if_true, if_false, Nat.reduceLT, Nat.reduceSub, Nat.sub_self, Nat.lt_irrefl]
  generalize e0 : iAt ds 0 = x at *
  generalize e1 : iAt ds 1 = y at *
  generalize e2 : iAt ds 2 = s at *
  generalize e3 : iAt ds 3 = w at *
  generalize e4 : iAt ds 4 = h at *
  generalize e5 : rAt ds 5 = r at *
  generalize e6 : iAt ds 6 = need at *
  generalize e7 : rAt ds 7 = l at *
  generalize e8 : iAt ds 8 = fr at *
  generalize e9 : iAt ds 9 = to at *
  obtain ⟨hf, hl, _⟩ := gv_facts hg
  unfold frP at hf
  obtain ⟨⟨_, hw, hh⟩, _⟩ := hf
  have hiff := wayB_iff (W := w) (D := cellsI r) (L := cellsI l) (need := need) (fr := fr) (to := to)
  rw [← hR, cellsI_len] at hiff
  have no : ¬ ((0 < l.length ∧ Grid.at_ (cellsI l) 0 = fr ∧ Grid.at_ (cellsI l) (l.length - 1) = to) ∧ ∀ i, i < l.length → stopB w (cellsI r) (cellsI l) need i = true) → Value.bool false = Value.bool (isWayL ds) := fun q => by
    cases hb : isWayL ds with
    | false => rfl
    | true => exact absurd (hiff.1 hb) q
  refine ⟨fun h1 => no (fun q => by omega), fun h1 => ?_⟩
  have hw1 : IntKind.i64.wrap ((l.length : Int) - 1) = ((l.length - 1 : Nat) : Int) := by rw [wrap_in _ (by omega) (by omega)]; omega
  have l0 : lg l 0 0 = Grid.at_ (cellsI l) 0 := lg_cells (c := 0) (by omega)
  rw [hw1, l0, lg_cells (by omega)]
  refine ⟨by omega, fun h2 => no (fun q => h2 q.1.2.1), fun h2 => ⟨by omega, by omega, fun h3 => no (fun q => h3 q.1.2.2), fun h3 => ?_⟩⟩
  refine TT.sat_loop (fun v => ∃ i : Nat, v.i 0 = i ∧ i ≤ l.length ∧ ∀ j, j < i → stopB w (cellsI r) (cellsI l) need j = true) (fun v => l.length - (v.i 0).toNat)
    ⟨0, by simp [val_i, aget, E.ev], by omega, fun j hj => by omega⟩ (fun v hv => ?_)
  obtain ⟨i, i0, i1, i2⟩ := hv
  simp only [TT.sat_ret, TT.sat_ite, TT.sat_ob, TT.sat_next, TT.sat_stuck, put_i, put_b, put_d, put_fi, put_fb, put_fd, Ob.ok, B.ev, E.ev, X.ev, AL.ev, cmp_t, cmp_f, arEv, V.plain, V2.plain, S.plain, S0.plain, V.val, V2.val, S.val, S0.val, bV, iV, List.all_cons, List.all_nil, Bool.and_true, Bool.and_self, envOf_i, envOf_b, envOf_d, List.map_cons, List.map_nil, true_and, Bool.not_eq_true', Bool.not_eq_false', Bool.not_not, Bool.and_eq_true, and_f, cell_lg, cell_lb, cell_lr, cmpP, val_i, val_b, val_d, aget, Nat.reduceBEq, beq_self_eq_true, Bool.false_eq_true, if_true, if_false, Nat.reduceLT, Nat.reduceSub, Nat.sub_self, Nat.lt_irrefl, i0, e0, e1, e2, e3, e4, e5, e6, e7, e8, e9]
  have hrl : r.length ≤ 4096 := by
    have := prod_in (a := w) (b := h) (m := 64) (n := 64) (by omega) (by omega) (by omega) (by omega)
    omega
  have stop : ∀ j, j < l.length → (stopB w (cellsI r) (cellsI l) need j = true ↔ (0 ≤ Grid.at_ (cellsI l) j ∧ Grid.at_ (cellsI l) j < (r.length : Nat) ∧ need ≤ Grid.at_ (cellsI r) (Grid.at_ (cellsI l) j).toNat) ∧ (j = 0 ∨ adjB w (Grid.at_ (cellsI l) j) (Grid.at_ (cellsI l) (j - 1)) = true)) := fun j hj => by
    unfold stopB
    simp only [Bool.and_eq_true, Bool.or_eq_true, decide_eq_true_eq, cellsI_len]
  have hnext : i < l.length → stopB w (cellsI r) (cellsI l) need i = true → ∀ j, j < i + 1 → stopB w (cellsI r) (cellsI l) need j = true := fun hi hs j hj => by
    by_cases e : j = i
    · subst e; exact hs
    · exact i2 j (by omega)
  refine ⟨fun hc => ?_, fun hc => ?_⟩
  · have hi : i < l.length := by omega
    have hwi : IntKind.i64.wrap ((i : Int) + 1) = ((i + 1 : Nat) : Int) := by rw [wrap_in _ (by omega) (by omega)]; omega
    rw [lg_cells hi, hwi]
    have hs := stop i hi
    refine ⟨by omega, by omega, fun q1 => no (fun q => ?_), fun q1 => ⟨by omega, by omega, fun q2 => no (fun q => ?_), fun q2 => ⟨by omega, by omega, by omega, by omega, ?_⟩⟩⟩
    · have := (hs.1 (q.2 i hi)).1.1; omega
    · have := (hs.1 (q.2 i hi)).1.2.1; omega
    obtain ⟨a, ha⟩ := Int.eq_ofNat_of_zero_le (a := Grid.at_ (cellsI l) i) (by omega)
    have ha' : Grid.at_ (cellsI l) i = (a : Int) := ha
    rw [ha'] at hs q1 q2 ⊢
    rw [lg_cells (by omega)]
    refine ⟨fun q3 => no (fun q => ?_), fun q3 => ⟨fun q4 => ⟨⟨i + 1, rfl, by omega, hnext hi (hs.2 ⟨⟨by omega, by omega, by simp only [Int.toNat_natCast]; omega⟩, .inl (by omega)⟩)⟩, by rw [Int.toNat_natCast, Int.toNat_natCast]; omega⟩, fun q4 => ?_⟩⟩
    · have := (hs.1 (q.2 i hi)).1.2.2
      simp only [Int.toNat_natCast] at this
      omega
    have hwm : IntKind.i64.wrap ((i : Int) - 1) = ((i - 1 : Nat) : Int) := by rw [wrap_in _ (by omega) (by omega)]; omega
    rw [hwm, lg_cells (by omega)]
    have hb := (stop (i - 1) (by omega)).1 (i2 (i - 1) (by omega))
    generalize Grid.at_ (cellsI l) (i - 1) = b at *
    rw [way_arith (by omega) (by omega) (by omega)]
    have hadj : adjB w a b = true ↔ ((a : Int).tmod w - b.tmod w) * ((a : Int).tmod w - b.tmod w) + ((a : Int).tdiv w - b.tdiv w) * ((a : Int).tdiv w - b.tdiv w) = 1 := by
      unfold adjB; rw [decide_eq_true_eq]
    refine ⟨by omega, by omega, by omega, by omega, by omega, by omega, by omega, by omega, by omega, by omega, by omega, by omega, fun q5 => no (fun q => ?_), fun q5 => ⟨⟨i + 1, rfl, by omega, hnext hi (hs.2 ⟨⟨by omega, by omega, by simp only [Int.toNat_natCast]; omega⟩, .inr (hadj.2 (Classical.not_not.1 q5))⟩)⟩, by rw [Int.toNat_natCast, Int.toNat_natCast]; omega⟩⟩
    rcases (hs.1 (q.2 i hi)).2 with k | k
    · omega
    · exact q5 (hadj.1 k)
  · have hb : isWayL ds = true := hiff.2 ⟨⟨by omega, Classical.not_not.1 h2, Classical.not_not.1 h3⟩, fun j hj => i2 j (by omega)⟩
    rw [hb]
def KGe : Interp where
  fi n l := KGc.fi n l
  fb n l := match n with | 170 => isWayL l | n => KGc.fb n l
  fd n l := KGc.fd n l
theorem KGe_KGcd {ρ : Env} (h : SeesD ρ KGe 5) : SeesD ρ KGc 5 := fun n l hn => by
  rw [h n l (by omega)]
  rfl
theorem KGe_KGc {ρ : Env} (h : Sees ρ KGe 180) : Sees ρ KGc 170 := h.trans (by decide) fun n l hn => by
  refine ⟨?_, ?_⟩
  ·
    rfl
  ·
    simp only [KGe]
    split <;> first | omega | rfl
def cIsWay := ctD [gridS, it, ints, it, it] fun al => match al with
  | .i x (.i y (.i s (.i w (.i h (.x r (.i need (.x l (.i fr (.i to .nil))))))))) => T.obs [.tru (.fn 150 (.i x (.i y (.i s (.i w (.i h (.x r .nil)))))))] (.ret (bV (bF 170 isWayL al)))
  | _ => .stuck "isWay"
theorem cIsWay_ok {ρ : Env} (h : Sees ρ KGe 180) : CtOne Try.prog ρ 12 cIsWay := by
  refine ctD_if gIsWay (fun al v hv => ?_)
  split at hv
  · rename_i x y s w h' r need l fr to
    obtain ⟨ho, hv⟩ := T.res_obs hv
    obtain rfl := res_ret hv
    have o1 := ho _ (List.mem_cons_self ..)
    simp only [Ob.ok, B.ev] at o1
    rw [(h 150 _ (by decide)).2] at o1
    simp only [KGe, KGc, KGb] at o1
    refine ⟨rfl, o1, ?_⟩
    simp only [bV, V.s0, V.val, V2.val, S.val, S0.val, bF_ev (s := 170) (f := isWayL) (fun l => by rw [(h 170 l (by decide)).2]; simp only [KGe])]
  · exact hv.elim
def ctGe : Ct := (12, cIsWay) :: ctGd
theorem ctGe_ok {ρ : Env} (h : Sees ρ KGe 180) (hd : SeesD ρ KGe 5) : CtOk Try.prog ρ ctGe := .cons (cIsWay_ok h) (ctGd_ok (KGe_KGc h) (fun n l hn => (hd n l hn).trans rfl))
end Go.Proofs.Ytcjaembdcfppfaa
/- Chapter 11: the tree of the law GridWays. -/
namespace Go.Proofs.Ytcjaembdcfppfaa
open Go.RowKit
def trWays : TT OpR :=
(.ite (.cmp .leq (.var 3) (.lit 12))
 (.ite (.not (.cmp .leq (.var 4) (.lit 12)))
 (.ret ((.v (.one (.z (.bool (.lit true))))), [], 1))
 (.ite (.cmp .gtr (.len (.var 9)) (.lit 300))
 (.ret ((.v (.one (.z (.bool (.lit true))))), [], 1))
 (.ite (.cmp .eql (.fn 161 (.i (.var 0) (.i (.var 1) (.i (.var 2) (.i (.var 3) (.i (.var 4) (.x (.var 5) (.i (.var 6) (.i (.var 7) (.i (.var 8) .nil)))))))))) (.lit 1))
 (.ret ((.v (.one (.z (.bool (.cmp .eql (.len (.fn 3 (.i (.var 0) (.i (.var 1) (.i (.var 2) (.i (.var 3) (.i (.var 4) (.x (.var 5) (.i (.var 6) (.i (.var 7) (.i (.var 8) .nil))))))))))) (.lit 0)))))), [], 2))
 (.ite (.cmp .eql (.fn 161 (.i (.var 0) (.i (.var 1) (.i (.var 2) (.i (.var 3) (.i (.var 4) (.x (.var 5) (.i (.var 6) (.i (.var 7) (.i (.var 8) .nil)))))))))) (.lit 0))
 (.ob (.tru (.fn 150 (.i (.var 0) (.i (.var 1) (.i (.var 2) (.i (.var 3) (.i (.var 4) (.x (.var 5) .nil))))))))
 (.ob (.tru (.fn 150 (.i (.var 0) (.i (.var 1) (.i (.var 2) (.i (.var 3) (.i (.var 4) (.x (.var 5) .nil))))))))
 (.ite (.not (.fn 170 (.i (.var 0) (.i (.var 1) (.i (.var 2) (.i (.var 3) (.i (.var 4) (.x (.var 5) (.i (.var 6) (.x (.var 9) (.i (.var 7) (.i (.var 8) .nil))))))))))))
 (.ret ((.v (.one (.z (.bool (.fn 170 (.i (.var 0) (.i (.var 1) (.i (.var 2) (.i (.var 3) (.i (.var 4) (.x (.var 5) (.i (.var 6) (.x (.fn 3 (.i (.var 0) (.i (.var 1) (.i (.var 2) (.i (.var 3) (.i (.var 4) (.x (.var 5) (.i (.var 6) (.i (.var 7) (.i (.var 8) .nil)))))))))) (.i (.var 7) (.i (.var 8) .nil))))))))))))))), [], 2))
 (.ite (.cmp .neq (.fn 161 (.i (.var 0) (.i (.var 1) (.i (.var 2) (.i (.var 3) (.i (.var 4) (.x (.var 5) (.i (.var 6) (.i (.var 7) (.i (.var 8) .nil)))))))))) (.lit 0))
 (.ret ((.v (.one (.z (.bool (.lit false))))), [], 2))
 (.ite (.cmp .gtr (.len (.fn 3 (.i (.var 0) (.i (.var 1) (.i (.var 2) (.i (.var 3) (.i (.var 4) (.x (.var 5) (.i (.var 6) (.i (.var 7) (.i (.var 8) .nil))))))))))) (.len (.var 9)))
 (.ret ((.v (.one (.z (.bool (.lit false))))), [], 2))
 (.ite (.cmp .lss (.len (.fn 3 (.i (.var 0) (.i (.var 1) (.i (.var 2) (.i (.var 3) (.i (.var 4) (.x (.var 5) (.i (.var 6) (.i (.var 7) (.i (.var 8) .nil))))))))))) (.len (.var 9)))
 (.ret ((.v (.one (.z (.bool (.fn 170 (.i (.var 0) (.i (.var 1) (.i (.var 2) (.i (.var 3) (.i (.var 4) (.x (.var 5) (.i (.var 6) (.x (.fn 3 (.i (.var 0) (.i (.var 1) (.i (.var 2) (.i (.var 3) (.i (.var 4) (.x (.var 5) (.i (.var 6) (.i (.var 7) (.i (.var 8) .nil)))))))))) (.i (.var 7) (.i (.var 8) .nil))))))))))))))), [], 2))
 (.loop 0 3000 ⟨[(0, (.lit 0))], [], []⟩
 (.ite (.cmp .lss (.var 3000) (.len (.fn 3 (.i (.var 0) (.i (.var 1) (.i (.var 2) (.i (.var 3) (.i (.var 4) (.x (.var 5) (.i (.var 6) (.i (.var 7) (.i (.var 8) .nil))))))))))))
 (.ob (.tru (.cmp .leq (.lit 0) (.var 3000)))
 (.ob (.tru (.cmp .lss (.var 3000) (.len (.fn 3 (.i (.var 0) (.i (.var 1) (.i (.var 2) (.i (.var 3) (.i (.var 4) (.x (.var 5) (.i (.var 6) (.i (.var 7) (.i (.var 8) .nil)))))))))))))
 (.ob (.tru (.cmp .leq (.lit 0) (.var 3000)))
 (.ob (.tru (.cmp .lss (.var 3000) (.len (.var 9))))
 (.ite (.cmp .neq (.rd (.fn 3 (.i (.var 0) (.i (.var 1) (.i (.var 2) (.i (.var 3) (.i (.var 4) (.x (.var 5) (.i (.var 6) (.i (.var 7) (.i (.var 8) .nil)))))))))) (.var 3000) 0) (.rd (.var 9) (.var 3000) 0))
 (.ite (.fn 170 (.i (.var 0) (.i (.var 1) (.i (.var 2) (.i (.var 3) (.i (.var 4) (.x (.var 5) (.i (.var 6) (.x (.fn 3 (.i (.var 0) (.i (.var 1) (.i (.var 2) (.i (.var 3) (.i (.var 4) (.x (.var 5) (.i (.var 6) (.i (.var 7) (.i (.var 8) .nil)))))))))) (.i (.var 7) (.i (.var 8) .nil)))))))))))
 (.ob (.tru (.cmp .leq (.lit 0) (.var 3000)))
 (.ob (.tru (.cmp .lss (.var 3000) (.len (.fn 3 (.i (.var 0) (.i (.var 1) (.i (.var 2) (.i (.var 3) (.i (.var 4) (.x (.var 5) (.i (.var 6) (.i (.var 7) (.i (.var 8) .nil)))))))))))))
 (.ob (.tru (.cmp .leq (.lit 0) (.var 3000)))
 (.ob (.tru (.cmp .lss (.var 3000) (.len (.var 9))))
 (.ret ((.v (.one (.z (.bool (.cmp .lss (.rd (.fn 3 (.i (.var 0) (.i (.var 1) (.i (.var 2) (.i (.var 3) (.i (.var 4) (.x (.var 5) (.i (.var 6) (.i (.var 7) (.i (.var 8) .nil)))))))))) (.var 3000) 0) (.rd (.var 9) (.var 3000) 0)))))), [], 3))))))
 (.ret ((.v (.one (.z (.bool (.lit false))))), [], 3)))
 (.next 0 ⟨[(0, (.ar .add .i64 (.var 3000) (.lit 1)))], [], []⟩))))))
 (.ret ((.v (.one (.z (.bool (.fn 170 (.i (.var 0) (.i (.var 1) (.i (.var 2) (.i (.var 3) (.i (.var 4) (.x (.var 5) (.i (.var 6) (.x (.fn 3 (.i (.var 0) (.i (.var 1) (.i (.var 2) (.i (.var 3) (.i (.var 4) (.x (.var 5) (.i (.var 6) (.i (.var 7) (.i (.var 8) .nil)))))))))) (.i (.var 7) (.i (.var 8) .nil))))))))))))))), [], 3))))))))))
 (.ob (.tru (.fn 150 (.i (.var 0) (.i (.var 1) (.i (.var 2) (.i (.var 3) (.i (.var 4) (.x (.var 5) .nil))))))))
 (.ite (.not (.fn 170 (.i (.var 0) (.i (.var 1) (.i (.var 2) (.i (.var 3) (.i (.var 4) (.x (.var 5) (.i (.var 6) (.x (.var 9) (.i (.var 7) (.i (.var 8) .nil))))))))))))
 (.ret ((.v (.one (.z (.bool (.lit true))))), [], 2))
 (.ite (.cmp .neq (.fn 161 (.i (.var 0) (.i (.var 1) (.i (.var 2) (.i (.var 3) (.i (.var 4) (.x (.var 5) (.i (.var 6) (.i (.var 7) (.i (.var 8) .nil)))))))))) (.lit 0))
 (.ret ((.v (.one (.z (.bool (.lit false))))), [], 2))
 (.ite (.cmp .gtr (.len (.fn 3 (.i (.var 0) (.i (.var 1) (.i (.var 2) (.i (.var 3) (.i (.var 4) (.x (.var 5) (.i (.var 6) (.i (.var 7) (.i (.var 8) .nil))))))))))) (.len (.var 9)))
 (.ret ((.v (.one (.z (.bool (.lit false))))), [], 2))
 (.ite (.cmp .lss (.len (.fn 3 (.i (.var 0) (.i (.var 1) (.i (.var 2) (.i (.var 3) (.i (.var 4) (.x (.var 5) (.i (.var 6) (.i (.var 7) (.i (.var 8) .nil))))))))))) (.len (.var 9)))
 (.ret ((.v (.one (.z (.bool (.lit true))))), [], 2))
 (.loop 0 3000 ⟨[(0, (.lit 0))], [], []⟩
 (.ite (.cmp .lss (.var 3000) (.len (.fn 3 (.i (.var 0) (.i (.var 1) (.i (.var 2) (.i (.var 3) (.i (.var 4) (.x (.var 5) (.i (.var 6) (.i (.var 7) (.i (.var 8) .nil))))))))))))
 (.ob (.tru (.cmp .leq (.lit 0) (.var 3000)))
 (.ob (.tru (.cmp .lss (.var 3000) (.len (.fn 3 (.i (.var 0) (.i (.var 1) (.i (.var 2) (.i (.var 3) (.i (.var 4) (.x (.var 5) (.i (.var 6) (.i (.var 7) (.i (.var 8) .nil)))))))))))))
 (.ob (.tru (.cmp .leq (.lit 0) (.var 3000)))
 (.ob (.tru (.cmp .lss (.var 3000) (.len (.var 9))))
 (.ite (.cmp .neq (.rd (.fn 3 (.i (.var 0) (.i (.var 1) (.i (.var 2) (.i (.var 3) (.i (.var 4) (.x (.var 5) (.i (.var 6) (.i (.var 7) (.i (.var 8) .nil)))))))))) (.var 3000) 0) (.rd (.var 9) (.var 3000) 0))
 (.ob (.tru (.cmp .leq (.lit 0) (.var 3000)))
 (.ob (.tru (.cmp .lss (.var 3000) (.len (.fn 3 (.i (.var 0) (.i (.var 1) (.i (.var 2) (.i (.var 3) (.i (.var 4) (.x (.var 5) (.i (.var 6) (.i (.var 7) (.i (.var 8) .nil)))))))))))))
 (.ob (.tru (.cmp .leq (.lit 0) (.var 3000)))
 (.ob (.tru (.cmp .lss (.var 3000) (.len (.var 9))))
 (.ret ((.v (.one (.z (.bool (.cmp .lss (.rd (.fn 3 (.i (.var 0) (.i (.var 1) (.i (.var 2) (.i (.var 3) (.i (.var 4) (.x (.var 5) (.i (.var 6) (.i (.var 7) (.i (.var 8) .nil)))))))))) (.var 3000) 0) (.rd (.var 9) (.var 3000) 0)))))), [], 3))))))
 (.next 0 ⟨[(0, (.ar .add .i64 (.var 3000) (.lit 1)))], [], []⟩))))))
 (.ret ((.v (.one (.z (.bool (.lit true))))), [], 3)))))))))))))
 (.ret ((.v (.one (.z (.bool (.lit true))))), [], 1)))
def trWays_h : List (Nat × St) := [
(2, ⟨(List.append [(.v (.agg [(.z (.int .i64 (.var 0))), (.z (.int .i64 (.var 1))), (.z (.int .i64 (.var 2))), (.z (.int .i64 (.var 3))), (.z (.int .i64 (.var 4))), (.z (.ext [(.int .i64)] (.var 5) false))])), (.v (.one (.z (.int .i64 (.var 6))))), (.v (.one (.z (.int .i64 (.var 7))))), (.v (.one (.z (.int .i64 (.var 8))))), (.v (.one (.z (.ext [(.int .i64)] (.var 9) false)))), (.v (.one (.z (.ptr 0 0))))] (List.append (List.replicate 4 V.any) (List.append [(.v (.one (.z (.bool (.lit false))))), (.v (.one (.z (.bool (.fn 170 (.i (.var 0) (.i (.var 1) (.i (.var 2) (.i (.var 3) (.i (.var 4) (.x (.var 5) (.i (.var 6) (.x (.fn 3 (.i (.var 0) (.i (.var 1) (.i (.var 2) (.i (.var 3) (.i (.var 4) (.x (.var 5) (.i (.var 6) (.i (.var 7) (.i (.var 8) .nil)))))))))) (.i (.var 7) (.i (.var 8) .nil))))))))))))))), (.v (.one (.z (.own 1 (.lit 0))))), (.v (.one (.z (.int .i64 (.fn 161 (.i (.var 0) (.i (.var 1) (.i (.var 2) (.i (.var 3) (.i (.var 4) (.x (.var 5) (.i (.var 6) (.i (.var 7) (.i (.var 8) .nil)))))))))))))), (.v (.one (.z (.int .i64 (.var 3000))))), (.v (.one (.z (.bool (.lit true))))), (.v (.one (.z (.ptr 0 3)))), (.v (.one (.z (.int .i64 (.var 3))))), (.v (.one (.z (.ptr 0 4)))), (.v (.one (.z (.int .i64 (.var 4))))), (.v (.one (.z (.bool (.cmp .leq (.var 4) (.lit 12)))))), (.v (.one (.z (.bool (.not (.cmp .leq (.var 4) (.lit 12))))))), (.v (.one (.z (.bool (.lit false))))), (.v (.one (.z (.ext [(.int .i64)] (.var 9) false)))), (.v (.one (.z (.int .i64 (.len (.var 9)))))), (.v (.one (.z (.bool (.cmp .gtr (.len (.var 9)) (.lit 300)))))), (.v (.one (.z (.bool (.cmp .gtr (.len (.var 9)) (.lit 300)))))), (.v (.one (.z .any))), (.v (.one (.z .any))), (.v (.agg [(.z (.int .i64 (.var 0))), (.z (.int .i64 (.var 1))), (.z (.int .i64 (.var 2))), (.z (.int .i64 (.var 3))), (.z (.int .i64 (.var 4))), (.z (.ext [(.int .i64)] (.var 5) false))])), (.v (.one (.z (.int .i64 (.var 6))))), (.v (.one (.z (.int .i64 (.var 7))))), (.v (.one (.z (.int .i64 (.var 8))))), (.v (.one (.z .any))), (.v (.one (.z (.own 1 (.lit 0))))), (.v (.one (.z (.int .i64 (.fn 161 (.i (.var 0) (.i (.var 1) (.i (.var 2) (.i (.var 3) (.i (.var 4) (.x (.var 5) (.i (.var 6) (.i (.var 7) (.i (.var 8) .nil)))))))))))))), (.v (.one (.z (.int .i64 (.fn 161 (.i (.var 0) (.i (.var 1) (.i (.var 2) (.i (.var 3) (.i (.var 4) (.x (.var 5) (.i (.var 6) (.i (.var 7) (.i (.var 8) .nil)))))))))))))), (.v (.one (.z (.bool (.cmp .eql (.fn 161 (.i (.var 0) (.i (.var 1) (.i (.var 2) (.i (.var 3) (.i (.var 4) (.x (.var 5) (.i (.var 6) (.i (.var 7) (.i (.var 8) .nil)))))))))) (.lit 1))))))] (List.append (List.replicate 6 V.any) (List.append [(.v (.one (.z (.int .i64 (.fn 161 (.i (.var 0) (.i (.var 1) (.i (.var 2) (.i (.var 3) (.i (.var 4) (.x (.var 5) (.i (.var 6) (.i (.var 7) (.i (.var 8) .nil)))))))))))))), (.v (.one (.z (.bool (.cmp .eql (.fn 161 (.i (.var 0) (.i (.var 1) (.i (.var 2) (.i (.var 3) (.i (.var 4) (.x (.var 5) (.i (.var 6) (.i (.var 7) (.i (.var 8) .nil)))))))))) (.lit 0)))))), (.v (.one (.z (.bool (.lit true))))), (.v (.one (.z (.bool (.lit true))))), (.v (.agg [(.z (.int .i64 (.var 0))), (.z (.int .i64 (.var 1))), (.z (.int .i64 (.var 2))), (.z (.int .i64 (.var 3))), (.z (.int .i64 (.var 4))), (.z (.ext [(.int .i64)] (.var 5) false))])), (.v (.one (.z (.int .i64 (.var 6))))), (.v (.one (.z (.own 1 (.lit 0))))), (.v (.one (.z (.int .i64 (.var 7))))), (.v (.one (.z (.int .i64 (.var 8))))), (.v (.one (.z (.bool (.fn 170 (.i (.var 0) (.i (.var 1) (.i (.var 2) (.i (.var 3) (.i (.var 4) (.x (.var 5) (.i (.var 6) (.x (.fn 3 (.i (.var 0) (.i (.var 1) (.i (.var 2) (.i (.var 3) (.i (.var 4) (.x (.var 5) (.i (.var 6) (.i (.var 7) (.i (.var 8) .nil)))))))))) (.i (.var 7) (.i (.var 8) .nil))))))))))))))), (.v (.one (.z (.bool (.fn 170 (.i (.var 0) (.i (.var 1) (.i (.var 2) (.i (.var 3) (.i (.var 4) (.x (.var 5) (.i (.var 6) (.x (.fn 3 (.i (.var 0) (.i (.var 1) (.i (.var 2) (.i (.var 3) (.i (.var 4) (.x (.var 5) (.i (.var 6) (.i (.var 7) (.i (.var 8) .nil)))))))))) (.i (.var 7) (.i (.var 8) .nil))))))))))))))), (.v (.agg [(.z (.int .i64 (.var 0))), (.z (.int .i64 (.var 1))), (.z (.int .i64 (.var 2))), (.z (.int .i64 (.var 3))), (.z (.int .i64 (.var 4))), (.z (.ext [(.int .i64)] (.var 5) false))])), (.v (.one (.z (.int .i64 (.var 6))))), (.v (.one (.z (.ext [(.int .i64)] (.var 9) false)))), (.v (.one (.z (.int .i64 (.var 7))))), (.v (.one (.z (.int .i64 (.var 8))))), (.v (.one (.z (.bool (.fn 170 (.i (.var 0) (.i (.var 1) (.i (.var 2) (.i (.var 3) (.i (.var 4) (.x (.var 5) (.i (.var 6) (.x (.var 9) (.i (.var 7) (.i (.var 8) .nil))))))))))))))), (.v (.one (.z (.bool (.not (.fn 170 (.i (.var 0) (.i (.var 1) (.i (.var 2) (.i (.var 3) (.i (.var 4) (.x (.var 5) (.i (.var 6) (.x (.var 9) (.i (.var 7) (.i (.var 8) .nil)))))))))))))))), (.v (.one (.z .any))), (.v (.one (.z (.int .i64 (.fn 161 (.i (.var 0) (.i (.var 1) (.i (.var 2) (.i (.var 3) (.i (.var 4) (.x (.var 5) (.i (.var 6) (.i (.var 7) (.i (.var 8) .nil)))))))))))))), (.v (.one (.z (.bool (.cmp .neq (.fn 161 (.i (.var 0) (.i (.var 1) (.i (.var 2) (.i (.var 3) (.i (.var 4) (.x (.var 5) (.i (.var 6) (.i (.var 7) (.i (.var 8) .nil)))))))))) (.lit 0)))))), (.v (.one (.z (.bool (.lit false))))), (.v (.one (.z (.own 1 (.lit 0))))), (.v (.one (.z (.int .i64 (.len (.fn 3 (.i (.var 0) (.i (.var 1) (.i (.var 2) (.i (.var 3) (.i (.var 4) (.x (.var 5) (.i (.var 6) (.i (.var 7) (.i (.var 8) .nil))))))))))))))), (.v (.one (.z (.ext [(.int .i64)] (.var 9) false)))), (.v (.one (.z (.int .i64 (.len (.var 9)))))), (.v (.one (.z (.bool (.cmp .gtr (.len (.fn 3 (.i (.var 0) (.i (.var 1) (.i (.var 2) (.i (.var 3) (.i (.var 4) (.x (.var 5) (.i (.var 6) (.i (.var 7) (.i (.var 8) .nil))))))))))) (.len (.var 9))))))), (.v (.one (.z (.bool (.cmp .gtr (.len (.fn 3 (.i (.var 0) (.i (.var 1) (.i (.var 2) (.i (.var 3) (.i (.var 4) (.x (.var 5) (.i (.var 6) (.i (.var 7) (.i (.var 8) .nil))))))))))) (.len (.var 9))))))), (.v (.one (.z (.own 1 (.lit 0))))), (.v (.one (.z (.int .i64 (.len (.fn 3 (.i (.var 0) (.i (.var 1) (.i (.var 2) (.i (.var 3) (.i (.var 4) (.x (.var 5) (.i (.var 6) (.i (.var 7) (.i (.var 8) .nil))))))))))))))), (.v (.one (.z (.ext [(.int .i64)] (.var 9) false)))), (.v (.one (.z (.int .i64 (.len (.var 9)))))), (.v (.one (.z (.bool (.cmp .lss (.len (.fn 3 (.i (.var 0) (.i (.var 1) (.i (.var 2) (.i (.var 3) (.i (.var 4) (.x (.var 5) (.i (.var 6) (.i (.var 7) (.i (.var 8) .nil))))))))))) (.len (.var 9)))))))] (List.replicate 29 V.any)))))), [(1, (.own 3 [(.int .i64)] (.fn 3 (.i (.var 0) (.i (.var 1) (.i (.var 2) (.i (.var 3) (.i (.var 4) (.x (.var 5) (.i (.var 6) (.i (.var 7) (.i (.var 8) .nil)))))))))) (.lit 0))), (0, (.cells 26 [(.z (.int .i64 (.var 0))), (.z (.int .i64 (.var 1))), (.z (.int .i64 (.var 2))), (.z (.int .i64 (.var 3))), (.z (.int .i64 (.var 4))), (.z (.ext [(.int .i64)] (.var 5) false))]))], 3, []⟩),
(2, ⟨(List.append [(.v (.agg [(.z (.int .i64 (.var 0))), (.z (.int .i64 (.var 1))), (.z (.int .i64 (.var 2))), (.z (.int .i64 (.var 3))), (.z (.int .i64 (.var 4))), (.z (.ext [(.int .i64)] (.var 5) false))])), (.v (.one (.z (.int .i64 (.var 6))))), (.v (.one (.z (.int .i64 (.var 7))))), (.v (.one (.z (.int .i64 (.var 8))))), (.v (.one (.z (.ext [(.int .i64)] (.var 9) false)))), (.v (.one (.z (.ptr 0 0))))] (List.append (List.replicate 4 V.any) (List.append [(.v (.one (.z (.bool (.lit false))))), (.v (.one (.z (.bool (.lit true))))), (.v (.one (.z (.own 1 (.lit 0))))), (.v (.one (.z (.int .i64 (.fn 161 (.i (.var 0) (.i (.var 1) (.i (.var 2) (.i (.var 3) (.i (.var 4) (.x (.var 5) (.i (.var 6) (.i (.var 7) (.i (.var 8) .nil)))))))))))))), (.v (.one (.z (.int .i64 (.var 3000))))), (.v (.one (.z (.bool (.lit true))))), (.v (.one (.z (.ptr 0 3)))), (.v (.one (.z (.int .i64 (.var 3))))), (.v (.one (.z (.ptr 0 4)))), (.v (.one (.z (.int .i64 (.var 4))))), (.v (.one (.z (.bool (.cmp .leq (.var 4) (.lit 12)))))), (.v (.one (.z (.bool (.not (.cmp .leq (.var 4) (.lit 12))))))), (.v (.one (.z (.bool (.lit false))))), (.v (.one (.z (.ext [(.int .i64)] (.var 9) false)))), (.v (.one (.z (.int .i64 (.len (.var 9)))))), (.v (.one (.z (.bool (.cmp .gtr (.len (.var 9)) (.lit 300)))))), (.v (.one (.z (.bool (.cmp .gtr (.len (.var 9)) (.lit 300)))))), (.v (.one (.z .any))), (.v (.one (.z .any))), (.v (.agg [(.z (.int .i64 (.var 0))), (.z (.int .i64 (.var 1))), (.z (.int .i64 (.var 2))), (.z (.int .i64 (.var 3))), (.z (.int .i64 (.var 4))), (.z (.ext [(.int .i64)] (.var 5) false))])), (.v (.one (.z (.int .i64 (.var 6))))), (.v (.one (.z (.int .i64 (.var 7))))), (.v (.one (.z (.int .i64 (.var 8))))), (.v (.one (.z .any))), (.v (.one (.z (.own 1 (.lit 0))))), (.v (.one (.z (.int .i64 (.fn 161 (.i (.var 0) (.i (.var 1) (.i (.var 2) (.i (.var 3) (.i (.var 4) (.x (.var 5) (.i (.var 6) (.i (.var 7) (.i (.var 8) .nil)))))))))))))), (.v (.one (.z (.int .i64 (.fn 161 (.i (.var 0) (.i (.var 1) (.i (.var 2) (.i (.var 3) (.i (.var 4) (.x (.var 5) (.i (.var 6) (.i (.var 7) (.i (.var 8) .nil)))))))))))))), (.v (.one (.z (.bool (.cmp .eql (.fn 161 (.i (.var 0) (.i (.var 1) (.i (.var 2) (.i (.var 3) (.i (.var 4) (.x (.var 5) (.i (.var 6) (.i (.var 7) (.i (.var 8) .nil)))))))))) (.lit 1))))))] (List.append (List.replicate 6 V.any) (List.append [(.v (.one (.z (.int .i64 (.fn 161 (.i (.var 0) (.i (.var 1) (.i (.var 2) (.i (.var 3) (.i (.var 4) (.x (.var 5) (.i (.var 6) (.i (.var 7) (.i (.var 8) .nil)))))))))))))), (.v (.one (.z (.bool (.cmp .eql (.fn 161 (.i (.var 0) (.i (.var 1) (.i (.var 2) (.i (.var 3) (.i (.var 4) (.x (.var 5) (.i (.var 6) (.i (.var 7) (.i (.var 8) .nil)))))))))) (.lit 0))))))] (List.append (List.replicate 9 V.any) (List.append [(.v (.agg [(.z (.int .i64 (.var 0))), (.z (.int .i64 (.var 1))), (.z (.int .i64 (.var 2))), (.z (.int .i64 (.var 3))), (.z (.int .i64 (.var 4))), (.z (.ext [(.int .i64)] (.var 5) false))])), (.v (.one (.z (.int .i64 (.var 6))))), (.v (.one (.z (.ext [(.int .i64)] (.var 9) false)))), (.v (.one (.z (.int .i64 (.var 7))))), (.v (.one (.z (.int .i64 (.var 8))))), (.v (.one (.z (.bool (.fn 170 (.i (.var 0) (.i (.var 1) (.i (.var 2) (.i (.var 3) (.i (.var 4) (.x (.var 5) (.i (.var 6) (.x (.var 9) (.i (.var 7) (.i (.var 8) .nil))))))))))))))), (.v (.one (.z (.bool (.not (.fn 170 (.i (.var 0) (.i (.var 1) (.i (.var 2) (.i (.var 3) (.i (.var 4) (.x (.var 5) (.i (.var 6) (.x (.var 9) (.i (.var 7) (.i (.var 8) .nil)))))))))))))))), (.v (.one (.z .any))), (.v (.one (.z (.int .i64 (.fn 161 (.i (.var 0) (.i (.var 1) (.i (.var 2) (.i (.var 3) (.i (.var 4) (.x (.var 5) (.i (.var 6) (.i (.var 7) (.i (.var 8) .nil)))))))))))))), (.v (.one (.z (.bool (.cmp .neq (.fn 161 (.i (.var 0) (.i (.var 1) (.i (.var 2) (.i (.var 3) (.i (.var 4) (.x (.var 5) (.i (.var 6) (.i (.var 7) (.i (.var 8) .nil)))))))))) (.lit 0)))))), (.v (.one (.z (.bool (.lit false))))), (.v (.one (.z (.own 1 (.lit 0))))), (.v (.one (.z (.int .i64 (.len (.fn 3 (.i (.var 0) (.i (.var 1) (.i (.var 2) (.i (.var 3) (.i (.var 4) (.x (.var 5) (.i (.var 6) (.i (.var 7) (.i (.var 8) .nil))))))))))))))), (.v (.one (.z (.ext [(.int .i64)] (.var 9) false)))), (.v (.one (.z (.int .i64 (.len (.var 9)))))), (.v (.one (.z (.bool (.cmp .gtr (.len (.fn 3 (.i (.var 0) (.i (.var 1) (.i (.var 2) (.i (.var 3) (.i (.var 4) (.x (.var 5) (.i (.var 6) (.i (.var 7) (.i (.var 8) .nil))))))))))) (.len (.var 9))))))), (.v (.one (.z (.bool (.cmp .gtr (.len (.fn 3 (.i (.var 0) (.i (.var 1) (.i (.var 2) (.i (.var 3) (.i (.var 4) (.x (.var 5) (.i (.var 6) (.i (.var 7) (.i (.var 8) .nil))))))))))) (.len (.var 9))))))), (.v (.one (.z (.own 1 (.lit 0))))), (.v (.one (.z (.int .i64 (.len (.fn 3 (.i (.var 0) (.i (.var 1) (.i (.var 2) (.i (.var 3) (.i (.var 4) (.x (.var 5) (.i (.var 6) (.i (.var 7) (.i (.var 8) .nil))))))))))))))), (.v (.one (.z (.ext [(.int .i64)] (.var 9) false)))), (.v (.one (.z (.int .i64 (.len (.var 9)))))), (.v (.one (.z (.bool (.cmp .lss (.len (.fn 3 (.i (.var 0) (.i (.var 1) (.i (.var 2) (.i (.var 3) (.i (.var 4) (.x (.var 5) (.i (.var 6) (.i (.var 7) (.i (.var 8) .nil))))))))))) (.len (.var 9)))))))] (List.replicate 29 V.any)))))))), [(1, (.own 3 [(.int .i64)] (.fn 3 (.i (.var 0) (.i (.var 1) (.i (.var 2) (.i (.var 3) (.i (.var 4) (.x (.var 5) (.i (.var 6) (.i (.var 7) (.i (.var 8) .nil)))))))))) (.lit 0))), (0, (.cells 26 [(.z (.int .i64 (.var 0))), (.z (.int .i64 (.var 1))), (.z (.int .i64 (.var 2))), (.z (.int .i64 (.var 3))), (.z (.int .i64 (.var 4))), (.z (.ext [(.int .i64)] (.var 5) false))]))], 3, []⟩)]
def trWays_j : List (FuncId × Nat × Nat × St) := [
]
set_option maxRecDepth 100000 in
theorem trWays_is : T.norm 0 (call Try.prog ctGe ⟨Lt.un (Lt.of []), trWays_h, trWays_j⟩ 200 4 (symArgs 0 [gridS, it, it, it, ints]) [] 0) TT.ret = trWays := by kernel_rfl
theorem trWays_low : trWays.low 1000 = true := by kernel_rfl
end Go.Proofs.Ytcjaembdcfppfaa
/- Chapter 11: the law GridWays. -/
namespace Go.Proofs.Ytcjaembdcfppfaa
open Go.RowKit
theorem wy_eq (a b c d e f g h : Int) (r : Rows) : pathR [.i a, .i b, .i c, .i d, .i e, .l r, .i f, .i g, .i h] = if pathE [.i a, .i b, .i c, .i d, .i e, .l r, .i f, .i g, .i h] = 0 then rowsI (natI (Grid.wayF d.toNat e.toNat (Grid.stepsF d.toNat e.toNat (cellsI r) f h.toNat) g.toNat)) else [] := rfl
theorem wy_path (a b c d e f g h : Int) (r : Rows) : pathE [.i a, .i b, .i c, .i d, .i e, .l r, .i f, .i g, .i h] = if (gvB a b c d e r && decide (0 ≤ f ∧ f ≤ 100000 ∧ 0 ≤ g ∧ g < (r.length : Nat) ∧ 0 ≤ h ∧ h < (r.length : Nat))) = true then
    (if decide (Grid.at_ (cellsI r) g.toNat < f ∨ Grid.at_ (cellsI r) h.toNat < f ∨ Grid.at_ (Grid.stepsF d.toNat e.toNat (cellsI r) f h.toNat) g.toNat < 0) = true then 4 else 0) else 1 := rfl
theorem wy_is (a b c d e f g h : Int) (r l : Rows) : isWayL [.i a, .i b, .i c, .i d, .i e, .l r, .i f, .l l, .i g, .i h] = wayB d (cellsI r) (cellsI l) f g h := rfl
structure WyL (W H : Nat) (D : List Int) (need : Int) (f t : Nat) (P : Int) (R : List Int) : Prop where
  err : P = 0 ∨ P = 4
  good : P = 0 → wayB W D R need f t = true
  none : P = 4 → ∀ L, wayB W D L need f t = true → False
  least : P = 0 → ∀ L, wayB W D L need f t = true → R.length ≤ L.length
  first : P = 0 → ∀ L, wayB W D L need f t = true → R.length = L.length → ∀ i, i < R.length → (∀ j, j < i → Grid.at_ R j = Grid.at_ L j) → Grid.at_ R i ≠ Grid.at_ L i → Grid.at_ R i < Grid.at_ L i
theorem wyL {W H : Nat} {D : List Int} {need : Int} {f t : Nat} (hw : 0 < W) (hD : D.length = W * H) (hf : f < W * H) (ht : t < W * H) {P : Int} {R : List Int}
    (hP : P = if decide (Grid.at_ D f < need ∨ Grid.at_ D t < need ∨ Grid.at_ (Grid.stepsF W H D need t) f < 0) = true then 4 else 0) (hR : P = 0 → R = natI (Grid.wayF W H (Grid.stepsF W H D need t) f)) : WyL W H D need f t P R := by
  have hs := Grid.stepsF_is (D := D) (need := need) hw ht
  generalize Grid.stepsF W H D need t = sl at *
  have iff : ∀ l : List Nat, wayB W D (natI l) need f t = true ↔ Grid.IsWay W H (Grid.Deep D need) l f t := fun l => way_iff hw hD l f t
  have nat : ∀ L, wayB W D L need f t = true → ∃ l : List Nat, L = natI l ∧ Grid.IsWay W H (Grid.Deep D need) l f t := fun L h => by
    obtain ⟨l, _, _, rfl, _, _⟩ := way_nat h
    exact ⟨l, rfl, (iff l).1 h⟩
  have bad : P = 4 → Grid.at_ D f < need ∨ Grid.at_ D t < need ∨ Grid.at_ sl f < 0 := fun h => by
    rw [h] at hP
    refine Classical.byContradiction fun q => ?_
    rw [if_neg (by rw [decide_eq_true_eq]; exact q)] at hP
    omega
  have ok : P = 0 → need ≤ Grid.at_ D f ∧ need ≤ Grid.at_ D t ∧ 0 ≤ Grid.at_ sl f := fun h => by
    rw [h] at hP
    refine Classical.byContradiction fun q => ?_
    rw [if_pos (by rw [decide_eq_true_eq]; omega)] at hP
    omega
  refine ⟨?_, fun h => ?_, fun h L hL => ?_, fun h L hL => ?_, fun h L hL hl i hi hp hne => ?_⟩
  · rw [hP]; split
    · exact .inr rfl
    · exact .inl rfl
  · rw [hR h, iff]
    obtain ⟨o1, o2, o3⟩ := ok h
    exact Grid.way_is hs hw ht o2 hf o3
  · obtain ⟨l, rfl, hl⟩ := nat L hL
    have h1 := (Grid.way_least hs hw hl).1
    have h2 := (hl.all _ (List.mem_of_getElem? hl.head)).2
    have h3 := (hl.all _ (List.mem_of_getElem? hl.last)).2
    unfold Grid.Deep at h2 h3
    have := bad h
    omega
  · obtain ⟨l, rfl, hl⟩ := nat L hL
    rw [hR h, natI_len, natI_len]
    exact (Grid.way_least hs hw hl).2
  · obtain ⟨l, rfl, hwy⟩ := nat L hL
    have hR := hR h
    subst hR
    rw [natI_len, natI_len] at hl
    rw [natI_len] at hi
    rw [at_natI hi, at_natI (by omega)] at hne ⊢
    have := Grid.way_first hs hw ht hwy hl.symm (i := i) (fun j hj => ?_) (List.getElem?_eq_getElem hi) (List.getElem?_eq_getElem (by omega)) (fun e => hne (by rw [e]))
    · omega
    · have e := hp j hj
      rw [at_natI (by omega), at_natI (by omega)] at e
      rw [List.getElem?_eq_getElem (by omega), List.getElem?_eq_getElem (by omega)]
      congr 1
      omega
theorem KGeb150 (W : World) (ds l : List D) : (envOf KGe W ds).fb 150 l = gvL l := by simp only [envOf, KGe, KGc, KGb]
theorem KGei161 (W : World) (ds l : List D) : (envOf KGe W ds).fi 161 l = pathE l := by simp only [envOf, KGe, KGc]
theorem KGed3 (W : World) (ds l : List D) : (envOf KGe W ds).fd 3 l = pathR l := by simp only [envOf, KGe, KGc]
theorem KGeb170 (W : World) (ds l : List D) : (envOf KGe W ds).fb 170 l = isWayL l := by simp only [envOf, KGe]
set_option maxRecDepth 100000 in
set_option maxHeartbeats 4000000 in
theorem gWaysLaw : Gives Try.prog 4 [gridS, it, it, it, ints] (fun _ => .bool true) := by
  refine GivesIf.all (fn_gives KGe (by kernel_rfl) (fun ρ h => ctGe_ok (Sees.of h 180) (SeesD.of h 5)) (by kernel_rfl) trWays_is trWays_low (by decide) (fun W0 vals ds hr _ => ?_))
  have hwf := (rAt_wf (rep_args hr) (j := 9) rfl).1
  clear hr
  simp only [trWays, TT.sat_ret, TT.sat_ite, TT.sat_ob, TT.sat_next, TT.sat_stuck, put_i, put_b, put_d, put_fi, put_fb, put_fd, Ob.ok, B.ev, E.ev, X.ev, AL.ev, cmp_t, cmp_f, arEv, V.plain, V2.plain, S.plain, S0.plain, V.val, V2.val, S.val, S0.val, bV, iV, List.all_cons, List.all_nil, Bool.and_true, Bool.and_self, envOf_i, envOf_b, envOf_d, List.map_cons, List.map_nil, true_and, Bool.not_eq_true', Bool.not_eq_false', Bool.not_not, Bool.and_eq_true, and_f, cell_lg, cell_lb, cell_lr, cmpP, val_i, val_b, val_d, aget, Nat.reduceBEq, beq_self_eq_true, Bool.false_eq_true, if_true, if_false, Nat.reduceLT, Nat.reduceSub, Nat.sub_self, Nat.lt_irrefl, KGeb150, KGei161, KGed3, KGeb170, gv_six, wy_is]
  generalize e0 : iAt ds 0 = x at *
  generalize e1 : iAt ds 1 = y at *
  generalize e2 : iAt ds 2 = s at *
  generalize e3 : iAt ds 3 = w at *
  generalize e4 : iAt ds 4 = h at *
  generalize e5 : rAt ds 5 = r at *
  generalize e6 : iAt ds 6 = need at *
  generalize e7 : iAt ds 7 = fr at *
  generalize e8 : iAt ds 8 = to at *
  generalize e9 : rAt ds 9 = l at *
  have P1 := wy_path x y s w h need fr to r
  have R1 := wy_eq x y s w h need fr to r
  by_cases k1 : (gvB x y s w h r && decide (0 ≤ need ∧ need ≤ 100000 ∧ 0 ≤ fr ∧ fr < (r.length : Nat) ∧ 0 ≤ to ∧ to < (r.length : Nat))) = true
  · rw [if_pos k1] at P1
    obtain ⟨hg, hnd⟩ := Bool.and_eq_true_iff.1 k1
    rw [decide_eq_true_eq] at hnd
    obtain ⟨hf, hl, _⟩ := gv_facts hg
    unfold frP at hf
    obtain ⟨⟨_, hw, hh⟩, _⟩ := hf
    obtain ⟨W, rfl⟩ := Int.eq_ofNat_of_zero_le (a := w) (by omega)
    obtain ⟨H, rfl⟩ := Int.eq_ofNat_of_zero_le (a := h) (by omega)
    obtain ⟨f, rfl⟩ := Int.eq_ofNat_of_zero_le (a := fr) (by omega)
    obtain ⟨t, rfl⟩ := Int.eq_ofNat_of_zero_le (a := to) (by omega)
    have hW : 0 < W := by omega
    have hn : r.length = W * H := by
      have : (r.length : Int) = ((W * H : Nat) : Int) := by rw [hl]; simp
      omega
    have hWH : W * H ≤ 64 * 64 := Nat.mul_le_mul (by omega) (by omega)
    generalize hP : pathE [.i x, .i y, .i s, .i W, .i H, .l r, .i need, .i f, .i t] = P at *
    have hlaw : ∃ R : List Int, pathR [.i x, .i y, .i s, .i W, .i H, .l r, .i need, .i f, .i t] = rowsI R ∧ WyL W H (cellsI r) need f t P R := by
      by_cases q : P = 0
      · rw [if_pos q] at R1
        exact ⟨_, R1, wyL hW (by rw [cellsI_len, hn]) (by omega) (by omega) P1 (fun _ => rfl)⟩
      · rw [if_neg q] at R1
        exact ⟨[], R1, wyL hW (by rw [cellsI_len, hn]) (by omega) (by omega) P1 (fun k => absurd k q)⟩
    obtain ⟨R, hR, L⟩ := hlaw
    simp only [hR, hg, cells_rows, rowsI_len, true_and]
    have hE := L.err
    refine ⟨fun _ => ⟨fun _ => trivial, fun _ => ⟨fun _ => trivial, fun h300 => ⟨fun q => by omega, fun q1 => ⟨fun q0 => ?_, fun q0 => ⟨fun _ => trivial, fun q2 => absurd (L.none (by omega) _ q2) id⟩⟩⟩⟩⟩, fun _ => trivial⟩
    have hg0 := L.good q0
    refine ⟨fun _ => by rw [hg0], fun q2 => ⟨fun k => absurd q0 k, fun _ => ⟨fun k => ?_, fun k1 => ⟨fun _ => by rw [hg0], fun k2 => ?_⟩⟩⟩⟩
    · have := L.least q0 _ q2
      rw [cellsI_len] at this
      omega
    have hlen : R.length = l.length := by omega
    have hfirst := L.first q0 _ q2 (by rw [cellsI_len]; exact hlen)
    refine TT.sat_loop (fun v => ∃ i : Nat, v.i 0 = i ∧ i ≤ R.length ∧ ∀ j, j < i → Grid.at_ R j = Grid.at_ (cellsI l) j) (fun v => R.length - (v.i 0).toNat)
      ⟨0, by simp [val_i, aget, E.ev], by omega, fun j hj => by omega⟩ (fun v hv => ?_)
    obtain ⟨i, i0, i1, i2⟩ := hv
    simp only [TT.sat_ret, TT.sat_ite, TT.sat_ob, TT.sat_next, TT.sat_stuck, put_i, put_b, put_d, put_fi, put_fb, put_fd, Ob.ok, B.ev, E.ev, X.ev, AL.ev, cmp_t, cmp_f, arEv, V.plain, V2.plain, S.plain, S0.plain, V.val, V2.val, S.val, S0.val, bV, iV, List.all_cons, List.all_nil, Bool.and_true, Bool.and_self, envOf_i, envOf_b, envOf_d, List.map_cons, List.map_nil, true_and, Bool.not_eq_true', Bool.not_eq_false', Bool.not_not, Bool.and_eq_true, and_f, cell_lg, cell_lb, cell_lr, cmpP, val_i, val_b, val_d, aget, Nat.reduceBEq, beq_self_eq_true, Bool.false_eq_true, if_true, if_false, Nat.reduceLT, Nat.reduceSub, Nat.sub_self, Nat.lt_irrefl, i0, e0, e1, e2, e3, e4, e5, e6, e7, e8, e9, KGeb150, KGei161, KGed3, KGeb170, wy_is, hR, hP, cells_rows, rowsI_len, hg0]
    refine ⟨fun hc => ?_, fun hc => ?_⟩
    · have hi : i < R.length := by omega
      have hwi : IntKind.i64.wrap ((i : Int) + 1) = ((i + 1 : Nat) : Int) := by rw [wrap_in _ (by omega) (by omega)]; omega
      rw [lg_rowsI hi, lg_cells (by omega), hwi]
      refine ⟨by omega, by omega, by omega, by omega, fun k => ⟨fun _ => ⟨by omega, by omega, by omega, by omega, ?_⟩, fun k => nomatch k⟩, fun k => ⟨⟨i + 1, rfl, by omega, fun j hj => ?_⟩, by rw [Int.toNat_natCast, Int.toNat_natCast]; omega⟩⟩
      · have := hfirst i hi i2 k
        simp [cmpEv, this]
      · by_cases e : j = i
        · subst e; exact Classical.not_not.1 k
        · exact i2 j (by omega)
    · trivial
  · rw [if_neg k1] at P1
    rw [P1] at R1
    simp [P1, R1, cmpEv]
end Go.Proofs.Ytcjaembdcfppfaa
