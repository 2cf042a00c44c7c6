/- LJoi, merged: TVz, Vz, TYa, Ya, TYb, Yb. -/
import Derived.Test.YtldbejmgalhdaaaGreatLEqu
import Derived.Test.YtldbejmgalhdaaaGreatMZ
import Derived.Test.YtldbejmgalhdaaaGreatLRep
set_option linter.unusedSimpArgs false
set_option linter.unusedVariables false
/- Chapter 09: trees of join (of soundings) and shared. -/
namespace Go.Proofs.YtldbejmgalhdaaaGreat
open Go.RowKit
def agJS : List Ag := [.d snds, .d snds, .f 59, .f 60]
def trJoinS : TT OpR :=
(.ob (.tru (.cmp .leq (.len (.var 0)) (.lit 1000000)))
(.loop 0 2000 ⟨[(0, (.lit 0)), (1, (.lit 0)), (0, (.lit 0))], [], [(2, (.var 0))]⟩
 (.ite (.cmp .lss (.var 2001) (.len (.var 1)))
 (.ob (.tru (.cmp .leq (.lit 0) (.var 2001)))
 (.ob (.tru (.cmp .lss (.var 2001) (.len (.var 1))))
 (.ob (.tru (.fn 136 (.x (.var 2002) .nil)))
 (.ite (.not (.fn 135 (.x (.var 2002) (.i (.rd (.var 1) (.var 2001) 0) .nil))))
 (.ob (.tru (.cmp .leq (.lit 0) (.fn 135 (.x (.var 2002) (.i (.rd (.var 1) (.var 2001) 0) .nil)))))
 (.ob (.tru (.cmp .leq (.fn 135 (.x (.var 2002) (.i (.rd (.var 1) (.var 2001) 0) .nil))) (.len (.var 2002))))
 (.ob (.tru (.cmp .lss (.len (.var 2002)) (.lit 1000000)))
 (.next 0 ⟨[(0, (.plus (.var 2000) (.lit 1))), (1, (.ar .add .i64 (.var 2001) (.lit 1))), (0, (.plus (.var 2000) (.lit 1)))], [], [(2, (.app (.app (.sub (.var 2002) (.lit 0) (.fn 135 (.x (.var 2002) (.i (.rd (.var 1) (.var 2001) 0) .nil)))) (.app (.row (.i (.rd (.var 1) (.var 2001) 0) (.i (.rd (.var 1) (.var 2001) 1) (.i (.rd (.var 1) (.var 2001) 2) (.i (.rd (.var 1) (.var 2001) 3) (.i (.rd (.var 1) (.var 2001) 4) (.i (.rd (.var 1) (.var 2001) 5) (.i (.rd (.var 1) (.var 2001) 6) .nil)))))))) .nil)) (.sub (.var 2002) (.fn 135 (.x (.var 2002) (.i (.rd (.var 1) (.var 2001) 0) .nil))) (.len (.var 2002)))))]⟩))))
 (.ob (.tru (.cmp .leq (.lit 0) (.fn 135 (.x (.var 2002) (.i (.rd (.var 1) (.var 2001) 0) .nil)))))
 (.ob (.tru (.cmp .lss (.fn 135 (.x (.var 2002) (.i (.rd (.var 1) (.var 2001) 0) .nil))) (.len (.var 2002))))
 (.ite (.not (.and (.cmp .eql (.rd (.var 2002) (.fn 135 (.x (.var 2002) (.i (.rd (.var 1) (.var 2001) 0) .nil))) 0) (.rd (.var 1) (.var 2001) 0)) (.and (.and (.cmp .eql (.rd (.var 2002) (.fn 135 (.x (.var 2002) (.i (.rd (.var 1) (.var 2001) 0) .nil))) 1) (.rd (.var 1) (.var 2001) 1)) (.cmp .eql (.rd (.var 2002) (.fn 135 (.x (.var 2002) (.i (.rd (.var 1) (.var 2001) 0) .nil))) 2) (.rd (.var 1) (.var 2001) 2))) (.and (.cmp .eql (.rd (.var 2002) (.fn 135 (.x (.var 2002) (.i (.rd (.var 1) (.var 2001) 0) .nil))) 3) (.rd (.var 1) (.var 2001) 3)) (.and (.and (.cmp .eql (.rd (.var 2002) (.fn 135 (.x (.var 2002) (.i (.rd (.var 1) (.var 2001) 0) .nil))) 4) (.rd (.var 1) (.var 2001) 4)) (.cmp .eql (.rd (.var 2002) (.fn 135 (.x (.var 2002) (.i (.rd (.var 1) (.var 2001) 0) .nil))) 5) (.rd (.var 1) (.var 2001) 5))) (.cmp .eql (.rd (.var 2002) (.fn 135 (.x (.var 2002) (.i (.rd (.var 1) (.var 2001) 0) .nil))) 6) (.rd (.var 1) (.var 2001) 6)))))))
 (.ret ((.tup [(.one (.z (.const (.slice none 0 0)))), (.one (.z (.bool (.lit false))))]), [], 6))
 (.next 0 ⟨[(0, (.var 2000)), (1, (.ar .add .i64 (.var 2001) (.lit 1))), (0, (.var 2000))], [], [(2, (.var 2002))]⟩))))))))
 (.ret ((.tup [(.one (.z (.own 0 (.var 2000)))), (.one (.z (.bool (.lit true))))]), [(0, (.own 53 sndK (.var 2002) (.var 2000))), (0, (.own 53 sndK (.var 0) (.lit 0)))], 6)))))
def trJoinS_h : List (Nat × St) := [
(1, ⟨(List.append [(.v (.one (.z (.ext sndK (.var 0) false)))), (.v (.one (.z (.ext sndK (.var 1) false)))), (.v (.one (.z (.clo 59 [])))), (.v (.one (.z (.clo 60 []))))] (List.append (List.replicate 4 V.any) (List.append [(.v (.one (.z (.const (.slice none 0 0))))), (.v (.one (.z (.bool (.lit false))))), (.v (.one (.z (.own 0 (.var 2000)))))] (List.append (List.replicate 4 V.any) (List.append [(.v (.one (.z (.ext sndK (.var 0) false)))), (.v (.one (.z (.own 0 (.lit 0))))), (.v (.one (.z (.ext sndK (.var 1) false)))), (.v (.one (.z (.int .i64 (.len (.var 1)))))), (.v (.one (.z (.int .i64 (.var 2001)))))] (List.replicate 31 V.any)))))), [(0, (.own 53 sndK (.var 2002) (.var 2000)))], 2, []⟩)]
def trJoinS_j : List (FuncId × Nat × Nat × St) := [
]
set_option maxRecDepth 100000 in
theorem trJoinS_is : T.norm 0 (call Tryz.prog ctV8 ⟨Lt.un (Lt.of []), trJoinS_h, trJoinS_j⟩ 150 58 (agArgs 0 0 agJS) [] 0) TT.ret = trJoinS := by kernel_rfl
theorem trJoinS_low : trJoinS.low 1000 = true := by kernel_rfl
def trShared : TT OpR :=
(.loop 0 2000 ⟨[(0, (.lit 0))], [], []⟩
 (.ite (.cmp .lss (.var 2000) (.len (.var 0)))
 (.ob (.tru (.cmp .leq (.lit 0) (.var 2000)))
 (.ob (.tru (.cmp .lss (.var 2000) (.len (.var 0))))
 (.ob (.tru (.fn 136 (.x (.var 1) .nil)))
 (.ite (.fn 135 (.x (.var 1) (.i (.rd (.var 0) (.var 2000) 0) .nil)))
 (.ret ((.v (.one (.z (.bool (.cmp .geq (.var 2000) (.lit 0)))))), [], 3))
 (.next 0 ⟨[(0, (.ar .add .i64 (.var 2000) (.lit 1)))], [], []⟩)))))
 (.ret ((.v (.one (.z (.bool (.lit false))))), [], 3))))
def trShared_h : List (Nat × St) := [
(1, ⟨(List.append [(.v (.one (.z (.ext sndK (.var 0) false)))), (.v (.one (.z (.clo 92 [(0, 0)])))), (.v (.one (.z .any))), (.v (.one (.z .any))), (.v (.one (.z (.int .i64 (.lit 0))))), (.v (.one (.z .any))), (.v (.one (.z (.ext sndK (.var 0) false)))), (.v (.one (.z (.int .i64 (.len (.var 0)))))), (.v (.one (.z (.int .i64 (.var 2000)))))] (List.replicate 10 V.any)), [(0, (.cells 23 [(.z (.ext featK (.var 1) false))]))], 2, []⟩)]
def trShared_j : List (FuncId × Nat × Nat × St) := [
]
set_option maxRecDepth 100000 in
theorem trShared_is : T.norm 0 (call Tryz.prog ctV8 ⟨Lt.un (Lt.of []), trShared_h, trShared_j⟩ 150 62 (symArgs 0 [snds, feats]) [] 0) TT.ret = trShared := by kernel_rfl
theorem trShared_low : trShared.low 1000 = true := by kernel_rfl
end Go.Proofs.YtldbejmgalhdaaaGreat
/- Chapter 09: join of soundings, shared. -/
namespace Go.Proofs.YtldbejmgalhdaaaGreat
open Go.RowKit
/-! ### What is joined -/
def getK (r : Rows) (n : Int) : List D := (r[lowR r n]?).getD []
theorem getK_mem {r : Rows} (hr : RisP r) {x : List D} (hx : x ∈ r) : getK r (cI x 0) = x := by
  obtain ⟨k, hk, rfl⟩ := List.getElem_of_mem hx
  have : k = lowR r (cI r[k] 0) := low_uniq (by omega) (fun j hj => by
    have := ris_lt (risP_iff.2 hr) hj hk
    rw [lg_cI hk] at this; exact this) (fun _ => by rw [lg_cI hk]; omega)
  unfold getK
  rw [← this, List.getElem?_eq_getElem hk]; rfl
theorem isB_low {r : Rows} {n : Int} (h : isB r n = true) : lowR r n < r.length := by
  unfold isB at h
  rw [decide_eq_true_eq] at h
  exact h.1
theorem lg_getK {r : Rows} {n : Int} (h : isB r n = true) (c : Nat) : lg r (lowR r n : Nat) c = cI (getK r n) c := by
  have hl := isB_low h
  rw [lg_cI hl]
  unfold getK
  rw [List.getElem?_eq_getElem hl]; rfl
theorem lr_getK {r : Rows} {n : Int} (h : isB r n = true) (c : Nat) : lr r (lowR r n : Nat) c = cR (getK r n) c := by
  have hl := isB_low h
  rw [lr_cR hl]
  unfold getK
  rw [List.getElem?_eq_getElem hl]; rfl
def newJ (a b : Rows) : Rows := b.filter fun x => !isB a (cI x 0)
def okJ (p : List D → List D → Bool) (a b : Rows) : Bool := b.all fun x => !isB a (cI x 0) || p (getK a (cI x 0)) x
def jnR (a b : Rows) : Rows := insL a (newJ a b)
theorem newJ_mem {a b : Rows} (ha : RisP a) {x : List D} : x ∈ newJ a b ↔ x ∈ b ∧ ∀ y ∈ a, cI y 0 ≠ cI x 0 := by
  unfold newJ
  rw [List.mem_filter, Bool.not_eq_true', ← Bool.not_eq_true, isB_mem ha]
  constructor
  · rintro ⟨h1, h2⟩; exact ⟨h1, fun y hy e => h2 ⟨y, hy, e⟩⟩
  · rintro ⟨h1, h2⟩; exact ⟨h1, fun ⟨y, hy, e⟩ => h2 y hy e⟩
theorem jnR_mem {a b : Rows} (ha : RisP a) {x : List D} : x ∈ jnR a b ↔ x ∈ a ∨ (x ∈ b ∧ ∀ y ∈ a, cI y 0 ≠ cI x 0) := by
  unfold jnR
  rw [mem_insL, newJ_mem ha]
theorem jnR_ris {a b : Rows} (ha : RisP a) (hb : RisP b) : RisP (jnR a b) :=
  ris_insL _ a ha (hb.sublist List.filter_sublist) (fun y hy x hx => ((newJ_mem ha).1 hx).2 y hy)
theorem newJ_take {a b : Rows} {j : Nat} (hj : j < b.length) : newJ a (b.take (j + 1)) = newJ a (b.take j) ++ if isB a (cI b[j] 0) = true then [] else [b[j]] := by
  unfold newJ
  rw [List.take_succ_eq_append_getElem hj, List.filter_append]
  congr 1
  by_cases h : isB a (cI b[j] 0) = true
  · rw [if_pos h]; simp [h]
  · rw [if_neg h]; simp [h]
theorem join_step {a b : Rows} (ha : RisP a) (hb : RisP b) {j : Nat} (hj : j < b.length) {out : Rows} (ho : out = jnR a (b.take j)) :
    RisP out ∧ out.length ≤ a.length + b.length ∧ isB out (cI b[j] 0) = isB a (cI b[j] 0) ∧ (isB a (cI b[j] 0) = true → getK out (cI b[j] 0) = getK a (cI b[j] 0) ∧ out = jnR a (b.take (j + 1))) ∧ (isB a (cI b[j] 0) = false → insF out b[j] = jnR a (b.take (j + 1))) := by
  subst ho
  have hbt : RisP (b.take j) := hb.sublist (List.take_sublist _ _)
  have hro := jnR_ris ha hbt
  have hlt : ∀ x ∈ b.take j, cI x 0 < cI b[j] 0 := fun x hx => by
    obtain ⟨k, hk, rfl⟩ := List.getElem_of_mem hx
    rw [List.length_take] at hk
    rw [List.getElem_take]
    exact List.pairwise_iff_getElem.mp hb k j (by omega) hj (by omega)
  have his : isB (jnR a (b.take j)) (cI b[j] 0) = isB a (cI b[j] 0) := by
    rw [Bool.eq_iff_iff, isB_mem hro, isB_mem ha]
    constructor
    · rintro ⟨x, hx, e⟩
      rcases (jnR_mem ha).1 hx with h | ⟨h, _⟩
      · exact ⟨x, h, e⟩
      · have := hlt x h; omega
    · rintro ⟨x, hx, e⟩
      exact ⟨x, (jnR_mem ha).2 (.inl hx), e⟩
  have hnt := newJ_take (a := a) hj
  refine ⟨hro, ?_, his, fun h => ⟨?_, ?_⟩, fun h => ?_⟩
  · unfold jnR
    rw [len_insL]
    have h1 : (newJ a (b.take j)).length ≤ (b.take j).length := List.length_filter_le _ _
    rw [List.length_take] at h1
    omega
  · obtain ⟨y, hy, e⟩ := (isB_mem ha).1 h
    rw [← e, getK_mem ha hy, getK_mem hro ((jnR_mem ha).2 (.inl hy))]
  · unfold jnR
    rw [hnt, if_pos h, List.append_nil]
  · unfold jnR
    rw [hnt, if_neg (by rw [h]; decide), insL_snoc]
theorem okJ_false {p : List D → List D → Bool} {a b : Rows} {j : Nat} (hj : j < b.length) (h : isB a (cI b[j] 0) = true) (hp : p (getK a (cI b[j] 0)) b[j] = false) : okJ p a b = false := by
  unfold okJ
  rw [List.all_eq_false]
  exact ⟨b[j], List.getElem_mem hj, by rw [h, hp]; decide⟩
theorem okJ_true {p : List D → List D → Bool} {a b : Rows} (h : ∀ (k : Nat) (hk : k < b.length), isB a (cI b[k] 0) = true → p (getK a (cI b[k] 0)) b[k] = true) : okJ p a b = true := by
  unfold okJ
  rw [List.all_eq_true]
  intro x hx
  obtain ⟨k, hk, rfl⟩ := List.getElem_of_mem hx
  cases q : isB a (cI b[k] 0) with
  | false => rfl
  | true => rw [h k hk q]; rfl
/-! ### join of soundings -/
def eqS7 (y x : List D) : Bool := decide (cI y 0 = cI x 0 ∧ (cI y 1 = cI x 1 ∧ cI y 2 = cI x 2) ∧ cI y 3 = cI x 3 ∧ (cI y 4 = cI x 4 ∧ cI y 5 = cI x 5) ∧ cI y 6 = cI x 6)
def jsO (ds : List D) : Bool := (risB (rAt ds 0) && risB (rAt ds 1)) && decide ((rAt ds 0).length + (rAt ds 1).length ≤ 1000)
def jsK (ds : List D) : Bool := okJ eqS7 (rAt ds 0) (rAt ds 1)
def jsR (ds : List D) : Rows := if jsK ds = true then jnR (rAt ds 0) (rAt ds 1) else []
def nlJS : NL := { e := 53, ks := sndK, s := 4, rows := jsR }
theorem two_denb {ρ : Env} {σ : As} {s : S0} {e : B} {u : Value} (h : V.den ρ σ (.tup [.one (.z s), .one (.z (.bool e))]) u) : ∃ v, S0.den ρ σ s v ∧ u = .tuple #[v, .bool (e.ev ρ)] := by
  obtain ⟨vs, h1, rfl⟩ := h
  obtain ⟨v1, vs1, rfl, p1, h2⟩ := DL.cons_inv h1
  obtain ⟨v2, vs2, rfl, p2, h3⟩ := DL.cons_inv h2
  obtain rfl := DL.nil_inv h3
  have p2 : v2 = .bool (e.ev ρ) := p2
  subst p2
  exact ⟨v1, p1, rfl⟩
theorem leaf_twob {ρ : Env} {m : Mem} {s : S0} {e : B} {l : NL} {ds : List D} {w0 : World} {x : X} {E : Bool} (h1 : lrowsP m l.e l.ks s = some x) (h2 : x.ev ρ = l.rows ds) (h3 : e.ev ρ = E) :
    ∃ s' x, lrowsP m l.e l.ks s' = some x ∧ x.ev ρ = l.rows ds ∧ ∀ (σ : As) u, ρ.w = w0 → (V.tup [.one (.z s), .one (.z (.bool e))]).den ρ σ u → ∃ v, s'.den ρ σ v ∧ u = .tuple #[v, .bool E] :=
  ⟨s, x, h1, h2, fun σ u _ hu => by
    obtain ⟨v, g1, rfl⟩ := two_denb hu
    exact ⟨v, g1, by rw [h3]⟩⟩
theorem snd_list_rows {w : World} {v : Value} {r : Rows} (h : CK.rep w (.sl sndK) v (.l r)) : ∀ row ∈ r, row7 row := by
  rw [rep_sl] at h
  obtain ⟨r', e, a, n, c, _, hs, _⟩ := h
  cases e
  intro row hrow
  obtain ⟨i, hi, rfl⟩ := List.getElem_of_mem hrow
  obtain ⟨b, hb⟩ := Option.isSome_iff_exists.1 (hs.there (by have := hs.len; have : i < r.length := hi; omega))
  obtain ⟨vs, g1, _⟩ := hs.cell b hb i r[i] (List.getElem?_eq_getElem hi)
  exact reps_row7 g1
theorem KVfb135 (W : World) (ds l : List D) : (envOf KVf W ds).fb 135 l = isL l := by simp only [envOf, KVf, KVe, KVd, KVc, KVb, KVa]
set_option maxHeartbeats 1000000 in
theorem gJoinS : GivesNG Tryz.prog 58 agJS [nlJS] (fun ds => jsO ds = true) (fun _ ds vs u => ∃ v, vs = [v] ∧ u = .tuple #[v, .bool (jsK ds)]) := by
  refine fn_givesNG1 KVf (by kernel_rfl) (fun ρ h => ctV8_ok (Sees.of h 200) (SeesD.of h 4)) (by kernel_rfl) rfl trJoinS_is trJoinS_low (by decide) (fun w0 vals ds hr hok => ?_)
  have h7 : ∀ row ∈ rAt ds 1, row7 row := by
    obtain ⟨v0, vs0, d0, ds0, rfl, rfl, ⟨x0, rfl, g0⟩, v1, vs1, d1, ds1, rfl, rfl, ⟨x1, rfl, g1⟩, _⟩ := hr
    have g1' := g1
    rw [rep_sl] at g1'
    obtain ⟨r, rfl, _⟩ := g1'
    exact snd_list_rows g1
  simp only [trJoinS, TT.sat_ret, TT.sat_ite, TT.sat_ob, TT.sat_next, TT.sat_stuck, put_i, put_b, put_d, put_fi, put_fb, put_fd, Ob.ok, B.ev, E.ev, X.ev, AL.ev, cmp_t, cmp_f, arEv, V.plain, V2.plain, S.plain, S0.plain, V.val, V2.val, S.val, S0.val, bV, iV, List.all_cons, List.all_nil, Bool.and_true, Bool.and_self, envOf_i, envOf_b, envOf_d, List.map_cons, List.map_nil, true_and, Bool.not_eq_true', Bool.not_eq_false', Bool.not_not, Bool.and_eq_true, and_f, cell_lg, cell_lb, cell_lr, cmpP, val_i, val_b, val_d, aget, Nat.reduceBEq, beq_self_eq_true, Bool.false_eq_true, if_true, if_false, Nat.reduceLT, Nat.reduceSub, Nat.sub_self, Nat.lt_irrefl]
  have hR : nlJS.rows ds = if okJ eqS7 (rAt ds 0) (rAt ds 1) = true then jnR (rAt ds 0) (rAt ds 1) else [] := rfl
  have hK : jsK ds = okJ eqS7 (rAt ds 0) (rAt ds 1) := rfl
  rw [hK]
  simp only [jsO, Bool.and_eq_true, decide_eq_true_eq, risP_iff] at hok
  obtain ⟨⟨ha, hb⟩, hl⟩ := hok
  clear hr hK
  generalize e0 : rAt ds 0 = a at *
  generalize e1 : rAt ds 1 = b at *
  refine ⟨by omega, ?_⟩
  refine TT.sat_loop (fun v => ∃ j : Nat, v.i 1 = j ∧ j ≤ b.length ∧ v.d 2 = jnR a (b.take j) ∧ ∀ (k : Nat) (hk : k < b.length), k < j → isB a (cI b[k] 0) = true → eqS7 (getK a (cI b[k] 0)) b[k] = true) (fun v => b.length - (v.i 1).toNat)
    ⟨0, by simp [val_i, aget, E.ev], by omega, by simp [val_d, aget, X.ev, envOf_d, e0, jnR, newJ, insL], fun k hk h => by omega⟩ (fun v hv => ?_)
  obtain ⟨j, j0, j1, j2, j3⟩ := hv
  simp only [TT.sat_ret, TT.sat_ite, TT.sat_ob, TT.sat_next, TT.sat_stuck, put_i, put_b, put_d, put_fi, put_fb, put_fd, Ob.ok, B.ev, E.ev, X.ev, AL.ev, cmp_t, cmp_f, arEv, V.plain, V2.plain, S.plain, S0.plain, V.val, V2.val, S.val, S0.val, bV, iV, List.all_cons, List.all_nil, Bool.and_true, Bool.and_self, envOf_i, envOf_b, envOf_d, List.map_cons, List.map_nil, true_and, Bool.not_eq_true', Bool.not_eq_false', Bool.not_not, Bool.and_eq_true, and_f, cell_lg, cell_lb, cell_lr, cmpP, val_i, val_b, val_d, aget, Nat.reduceBEq, beq_self_eq_true, Bool.false_eq_true, if_true, if_false, Nat.reduceLT, Nat.reduceSub, Nat.sub_self, Nat.lt_irrefl, j0, e0, e1, KVfb136, KVfb135, KVfi135, low_two, ris_one, is_two]
  refine ⟨fun hc => ?_, fun hc => ?_⟩
  · have hj : j < b.length := by omega
    obtain ⟨s1, s2, s3, s4, s5⟩ := join_step ha hb hj j2
    have hw1 : IntKind.i64.wrap ((j : Int) + 1) = ((j + 1 : Nat) : Int) := by rw [wrap_in _ (by omega) (by omega)]; rfl
    have hm : b.length - (((j + 1 : Nat) : Int)).toNat < b.length - (j : Int).toNat := by omega
    have hlo := (lowR_spec (v.d 2) (cI b[j] 0)).1
    have hins := insF_sub (v.d 2) b[j]
    have h7j := h7 _ (List.getElem_mem hj)
    simp only [hw1, lg_cI hj, s3]
    have NX : ∀ (h : isB a (cI b[j] 0) = true → eqS7 (getK a (cI b[j] 0)) b[j] = true), ∀ (k : Nat) (hk : k < b.length), k < j + 1 → isB a (cI b[k] 0) = true → eqS7 (getK a (cI b[k] 0)) b[k] = true := fun h k hk hkj => by
      by_cases e : k = j
      · subst e; exact h
      · exact j3 k hk (by omega)
    refine ⟨by omega, by omega, risP_iff.2 s1, fun hB => ⟨by omega, by omega, by omega, ⟨j + 1, rfl, by omega, ?_, NX (fun h => by rw [hB] at h; cases h)⟩, hm⟩, fun hB => ?_⟩
    · rw [← s5 hB, ← hins]
      congr 2
      rw [List.append_nil, List.append_nil]
      congr 1
      exact h7j.symm
    · have hBo : isB (v.d 2) (cI b[j] 0) = true := by rw [s3]; exact hB
      have hlt := isB_low hBo
      obtain ⟨s6, s7⟩ := s4 hB
      simp only [lg_getK hBo, s6]
      have hEq : eqS7 (getK a (cI b[j] 0)) b[j] = decide (cI (getK a (cI b[j] 0)) 0 = cI b[j] 0 ∧ (cI (getK a (cI b[j] 0)) 1 = cI b[j] 1 ∧ cI (getK a (cI b[j] 0)) 2 = cI b[j] 2) ∧ cI (getK a (cI b[j] 0)) 3 = cI b[j] 3 ∧ (cI (getK a (cI b[j] 0)) 4 = cI b[j] 4 ∧ cI (getK a (cI b[j] 0)) 5 = cI b[j] 5) ∧ cI (getK a (cI b[j] 0)) 6 = cI b[j] 6) := rfl
      refine ⟨by omega, by omega, fun hne => ?_, fun he => ⟨⟨j + 1, rfl, by omega, s7, NX (fun _ => ?_)⟩, hm⟩⟩
      · have hf : okJ eqS7 a b = false := okJ_false hj hB (by rw [hEq, decide_eq_false]; simpa using hne)
        rw [hf] at hR
        exact leaf_twob (x := .nil) (by kernel_rfl) (by rw [hR]; simp [X.ev]) (by rw [hf]; simp [B.ev])
      · rw [hEq, decide_eq_true]; simpa using he
  · have hj : j = b.length := by omega
    have ht : okJ eqS7 a b = true := okJ_true (fun k hk => j3 k hk (by omega))
    rw [ht, if_pos rfl] at hR
    refine leaf_twob (x := .var 2002) (by kernel_rfl) ?_ (by rw [ht]; simp [B.ev])
    rw [hR]
    simp only [X.ev, put_d, Nat.reduceLT, if_false, Nat.reduceSub, j2, hj, List.take_length]
/-! ### shared -/
def shdB (s F : Rows) : Bool := s.any fun x => isB F (cI x 0)
def shdL (ds : List D) : Bool := shdB (rAt ds 0) (rAt ds 1)
theorem gShared : GivesIf Tryz.prog 62 [snds, feats] (fun ds => risB (rAt ds 1) = true) (fun ds => .bool (shdL ds)) := by
  refine fn_gives KVf (by kernel_rfl) (fun ρ h => ctV8_ok (Sees.of h 200) (SeesD.of h 4)) (by kernel_rfl) trShared_is trShared_low (by decide) (fun W vals ds hr hok => ?_)
  have hl := one_len hr
  simp only [trShared, TT.sat_ret, TT.sat_ite, TT.sat_ob, TT.sat_next, TT.sat_stuck, put_i, put_b, put_d, put_fi, put_fb, put_fd, Ob.ok, B.ev, E.ev, X.ev, AL.ev, cmp_t, cmp_f, arEv, V.plain, V2.plain, S.plain, S0.plain, V.val, V2.val, S.val, S0.val, bV, iV, List.all_cons, List.all_nil, Bool.and_true, Bool.and_self, envOf_i, envOf_b, envOf_d, List.map_cons, List.map_nil, true_and, Bool.not_eq_true', Bool.not_eq_false', Bool.not_not, Bool.and_eq_true, and_f, cell_lg, cell_lb, cell_lr, cmpP, val_i, val_b, val_d, aget, Nat.reduceBEq, beq_self_eq_true, Bool.false_eq_true, if_true, if_false, Nat.reduceLT, Nat.reduceSub, Nat.sub_self, Nat.lt_irrefl]
  have hK : shdL ds = shdB (rAt ds 0) (rAt ds 1) := rfl
  rw [hK]
  clear hr hK
  generalize e0 : rAt ds 0 = a at *
  generalize e1 : rAt ds 1 = b at *
  refine TT.sat_loop (fun v => ∃ i : Nat, v.i 0 = i ∧ i ≤ a.length ∧ ∀ (k : Nat) (hk : k < a.length), k < i → isB b (cI a[k] 0) = false) (fun v => a.length - (v.i 0).toNat) ⟨0, by simp [val_i, aget, E.ev], by omega, fun k hk h => by omega⟩ (fun v hv => ?_)
  obtain ⟨i, i0, i1, i2⟩ := hv
  simp only [TT.sat_ret, TT.sat_ite, TT.sat_ob, TT.sat_next, TT.sat_stuck, put_i, put_b, put_d, put_fi, put_fb, put_fd, Ob.ok, B.ev, E.ev, X.ev, AL.ev, cmp_t, cmp_f, arEv, V.plain, V2.plain, S.plain, S0.plain, V.val, V2.val, S.val, S0.val, bV, iV, List.all_cons, List.all_nil, Bool.and_true, Bool.and_self, envOf_i, envOf_b, envOf_d, List.map_cons, List.map_nil, true_and, Bool.not_eq_true', Bool.not_eq_false', Bool.not_not, Bool.and_eq_true, and_f, cell_lg, cell_lb, cell_lr, cmpP, val_i, val_b, val_d, aget, Nat.reduceBEq, beq_self_eq_true, Bool.false_eq_true, if_true, if_false, Nat.reduceLT, Nat.reduceSub, Nat.sub_self, Nat.lt_irrefl, i0, e0, e1, KVfb136, KVfb135, ris_one, is_two]
  refine ⟨fun hc => ?_, fun hc => ?_⟩
  · have hi : i < a.length := by omega
    rw [wrap_in ((i : Int) + 1) (by omega) (by omega), lg_cI hi]
    refine ⟨by omega, by omega, hok, fun h => ?_, fun h => ⟨⟨i + 1, rfl, by omega, fun k hk hki => ?_⟩, by omega⟩⟩
    · have : shdB a b = true := by
        unfold shdB
        rw [List.any_eq_true]
        exact ⟨_, List.getElem_mem hi, h⟩
      rw [this]
      simp [cmpEv]
    · by_cases e : k = i
      · subst e; exact h
      · exact i2 k hk (by omega)
  · have : shdB a b = false := by
      unfold shdB
      rw [List.any_eq_false]
      intro x hx
      obtain ⟨k, hk, rfl⟩ := List.getElem_of_mem hx
      rw [i2 k hk (by omega)]; decide
    rw [this]
/-! Contracts -/
def KVg : Interp where
  fi n l := KVf.fi n l
  fb n l := match n with | 200 => jsK l | 201 => shdL l | n => KVf.fb n l
  fd n l := match n with | 4 => jsR l | n => KVf.fd n l
theorem KVg_KVfd {ρ : Env} (h : SeesD ρ KVg 5) : SeesD ρ KVf 4 := fun n l hn => by
  rw [h n l (by omega)]
  simp only [KVg]
  split <;> first | omega | rfl
theorem KVg_KVf {ρ : Env} (h : Sees ρ KVg 210) : Sees ρ KVf 200 := h.trans (by decide) fun n l hn => by
  refine ⟨?_, ?_⟩
  ·
    rfl
  ·
    simp only [KVg]
    split <;> first | omega | rfl
def obsJS (al : AL) : List Ob := match al with
  | .x a (.x b .nil) => [.tru (.fn 136 (.x a .nil)), .tru (.fn 136 (.x b .nil)), .tru (.cmp .leq (.plus (.len a) (.len b)) (.lit 1000))]
  | _ => [.tru (.lit false)]
def cJoinS := cNewTG agJS nlJS obsJS fun al nx => .tup [.one (.z (.own nx (.lit 0))), .one (.z (.bool (.fn 200 al)))]
theorem ris_sym {ρ : Env} (h : Sees ρ KVg 210) (a : X) : (B.fn 136 (.x a .nil)).ev ρ = risB (a.ev ρ) := by
  simp only [B.ev, AL.ev]
  rw [(h 136 _ (by decide)).2]
  simp only [KVg, KVf, KVe, KVd, KVc, KVb, KVa]
  rfl
theorem cJoinS_ok {ρ : Env} (h : Sees ρ KVg 210) (hd : SeesD ρ KVg 5) : CtOne Tryz.prog ρ 58 cJoinS := by
  refine cNewTG_ok gJoinS (by decide) (fun al ho => ?_) (fun a => ?_) (fun al nx σ' v hv => ?_)
  · unfold obsJS at ho
    split at ho
    · rename_i a b
      have o1 := ho _ (List.mem_cons_self ..)
      have o2 := ho _ (List.mem_cons_of_mem _ (List.mem_cons_self ..))
      have o3 := ho _ (List.mem_cons_of_mem _ (List.mem_cons_of_mem _ (List.mem_cons_self ..)))
      simp only [Ob.ok, ris_sym h] at o1 o2
      simp only [Ob.ok, B.ev, E.ev, cmp_t, cmpP] at o3
      have e : jsO ((AL.x a (.x b .nil)).ev ρ) = ((risB (a.ev ρ) && risB (b.ev ρ)) && decide ((a.ev ρ).length + (b.ev ρ).length ≤ 1000)) := rfl
      rw [e, o1, o2, decide_eq_true (by omega)]; rfl
    · have := ho _ (List.mem_singleton.2 rfl)
      simp [Ob.ok, B.ev] at this
  · show ρ.fd 4 a = jsR a
    rw [hd 4 _ (by decide)]; simp only [KVg]
  · refine ⟨[v, .bool (jsK (al.ev ρ))], ⟨hv, ?_, trivial⟩, rfl⟩
    show Value.bool (jsK (al.ev ρ)) = .bool ((B.fn 200 al).ev ρ)
    simp only [B.ev]
    rw [(h 200 _ (by decide)).2]; simp only [KVg]
def outSh (al : AL) : T V := match al with
  | .x a (.x b .nil) => .ob (.tru (.fn 136 (.x b .nil))) (.ret (bV (.fn 201 (.x a (.x b .nil)))))
  | _ => .stuck "shared"
def cShared := ctD [snds, feats] outSh
theorem cShared_ok {ρ : Env} (h : Sees ρ KVg 210) : CtOne Tryz.prog ρ 62 cShared := by
  refine ctD_if gShared (fun al v hv => ?_)
  unfold outSh at hv
  split at hv
  · rename_i a b
    obtain ⟨ho, hv⟩ := hv
    obtain rfl := res_ret hv
    simp only [Ob.ok, ris_sym h] at ho
    refine ⟨rfl, ho, ?_⟩
    show Value.bool ((B.fn 201 (.x a (.x b .nil))).ev ρ) = _
    simp only [B.ev]
    rw [(h 201 _ (by decide)).2]; simp only [KVg]
  · exact hv.elim
def ctV9 : Ct := (58, cJoinS) :: (62, cShared) :: ctV8
theorem ctV9_ok {ρ : Env} (h : Sees ρ KVg 210) (hd : SeesD ρ KVg 5) : CtOk Tryz.prog ρ ctV9 := .cons (cJoinS_ok h hd) <| .cons (cShared_ok h) <| ctV8_ok (KVg_KVf h) (KVg_KVfd hd)
end Go.Proofs.YtldbejmgalhdaaaGreat
/- Chapter 09: the tree of survey.Merge. -/
namespace Go.Proofs.YtldbejmgalhdaaaGreat
open Go.RowKit
def trMerge : TT OpR :=
(.ite (.not (.fn 150 (.x (.var 0) (.x (.var 1) .nil))))
 (.ret ((.tup [(.agg [(.z (.const (.slice none 0 0))), (.z (.const (.slice none 0 0)))]), (.one (.z (.int .i64 (.lit 1))))]), [], 3))
 (.ite (.not (.fn 150 (.x (.var 2) (.x (.var 3) .nil))))
 (.ret ((.tup [(.agg [(.z (.const (.slice none 0 0))), (.z (.const (.slice none 0 0)))]), (.one (.z (.int .i64 (.lit 1))))]), [], 3))
 (.ob (.tru (.fn 136 (.x (.var 0) .nil)))
 (.ob (.tru (.fn 136 (.x (.var 2) .nil)))
 (.ob (.tru (.cmp .leq (.plus (.len (.var 0)) (.len (.var 2))) (.lit 1000)))
 (.ob (.tru (.cmp .leq (.len (.var 1)) (.lit 1000000)))
 (.loop 0 6000 ⟨[(0, (.lit 0)), (1, (.lit 0)), (0, (.lit 0))], [], [(2, (.var 1))]⟩
 (.ite (.cmp .lss (.var 6001) (.len (.var 3)))
 (.ob (.tru (.cmp .leq (.lit 0) (.var 6001)))
 (.ob (.tru (.cmp .lss (.var 6001) (.len (.var 3))))
 (.ob (.tru (.fn 136 (.x (.var 6002) .nil)))
 (.ite (.not (.fn 135 (.x (.var 6002) (.i (.rd (.var 3) (.var 6001) 0) .nil))))
 (.ob (.tru (.cmp .leq (.lit 0) (.fn 135 (.x (.var 6002) (.i (.rd (.var 3) (.var 6001) 0) .nil)))))
 (.ob (.tru (.cmp .leq (.fn 135 (.x (.var 6002) (.i (.rd (.var 3) (.var 6001) 0) .nil))) (.len (.var 6002))))
 (.ob (.tru (.cmp .lss (.len (.var 6002)) (.lit 1000000)))
 (.next 0 ⟨[(0, (.plus (.var 6000) (.lit 1))), (1, (.ar .add .i64 (.var 6001) (.lit 1))), (0, (.plus (.var 6000) (.lit 1)))], [], [(2, (.app (.app (.sub (.var 6002) (.lit 0) (.fn 135 (.x (.var 6002) (.i (.rd (.var 3) (.var 6001) 0) .nil)))) (.app (.row (.i (.rd (.var 3) (.var 6001) 0) (.i (.rd (.var 3) (.var 6001) 1) (.i (.rd (.var 3) (.var 6001) 2) (.i (.rd (.var 3) (.var 6001) 3) (.i (.rd (.var 3) (.var 6001) 4) (.x (.rd (.var 3) (.var 6001) 5) (.i (.rd (.var 3) (.var 6001) 6) (.i (.rd (.var 3) (.var 6001) 7) (.x (.rd (.var 3) (.var 6001) 8) .nil)))))))))) .nil)) (.sub (.var 6002) (.fn 135 (.x (.var 6002) (.i (.rd (.var 3) (.var 6001) 0) .nil))) (.len (.var 6002)))))]⟩))))
 (.ob (.tru (.cmp .leq (.lit 0) (.fn 135 (.x (.var 6002) (.i (.rd (.var 3) (.var 6001) 0) .nil)))))
 (.ob (.tru (.cmp .lss (.fn 135 (.x (.var 6002) (.i (.rd (.var 3) (.var 6001) 0) .nil))) (.len (.var 6002))))
 (.ite (.not (.fn 129 (.i (.rd (.var 6002) (.fn 135 (.x (.var 6002) (.i (.rd (.var 3) (.var 6001) 0) .nil))) 0) (.i (.rd (.var 6002) (.fn 135 (.x (.var 6002) (.i (.rd (.var 3) (.var 6001) 0) .nil))) 1) (.i (.rd (.var 6002) (.fn 135 (.x (.var 6002) (.i (.rd (.var 3) (.var 6001) 0) .nil))) 2) (.i (.rd (.var 6002) (.fn 135 (.x (.var 6002) (.i (.rd (.var 3) (.var 6001) 0) .nil))) 3) (.i (.rd (.var 6002) (.fn 135 (.x (.var 6002) (.i (.rd (.var 3) (.var 6001) 0) .nil))) 4) (.x (.rd (.var 6002) (.fn 135 (.x (.var 6002) (.i (.rd (.var 3) (.var 6001) 0) .nil))) 5) (.i (.rd (.var 6002) (.fn 135 (.x (.var 6002) (.i (.rd (.var 3) (.var 6001) 0) .nil))) 6) (.i (.rd (.var 6002) (.fn 135 (.x (.var 6002) (.i (.rd (.var 3) (.var 6001) 0) .nil))) 7) (.x (.rd (.var 6002) (.fn 135 (.x (.var 6002) (.i (.rd (.var 3) (.var 6001) 0) .nil))) 8) (.i (.rd (.var 3) (.var 6001) 0) (.i (.rd (.var 3) (.var 6001) 1) (.i (.rd (.var 3) (.var 6001) 2) (.i (.rd (.var 3) (.var 6001) 3) (.i (.rd (.var 3) (.var 6001) 4) (.x (.rd (.var 3) (.var 6001) 5) (.i (.rd (.var 3) (.var 6001) 6) (.i (.rd (.var 3) (.var 6001) 7) (.x (.rd (.var 3) (.var 6001) 8) .nil))))))))))))))))))))
 (.ite (.not (.fn 200 (.x (.var 0) (.x (.var 2) .nil))))
 (.ret ((.tup [(.agg [(.z (.const (.slice none 0 0))), (.z (.const (.slice none 0 0)))]), (.one (.z (.int .i64 (.lit 18))))]), [], 9))
 (.ret ((.tup [(.agg [(.z (.const (.slice none 0 0))), (.z (.const (.slice none 0 0)))]), (.one (.z (.int .i64 (.lit 18))))]), [], 9)))
 (.next 0 ⟨[(0, (.var 6000)), (1, (.ar .add .i64 (.var 6001) (.lit 1))), (0, (.var 6000))], [], [(2, (.var 6002))]⟩))))))))
 (.ite (.not (.fn 200 (.x (.var 0) (.x (.var 2) .nil))))
 (.ret ((.tup [(.agg [(.z (.const (.slice none 0 0))), (.z (.const (.slice none 0 0)))]), (.one (.z (.int .i64 (.lit 18))))]), [], 9))
 (.ob (.tru (.fn 136 (.x (.var 3) .nil)))
 (.ite (.fn 201 (.x (.var 0) (.x (.var 3) .nil)))
 (.ret ((.tup [(.agg [(.z (.const (.slice none 0 0))), (.z (.const (.slice none 0 0)))]), (.one (.z (.int .i64 (.lit 18))))]), [], 9))
 (.ob (.tru (.fn 136 (.x (.var 1) .nil)))
 (.ite (.fn 201 (.x (.var 2) (.x (.var 1) .nil)))
 (.ret ((.tup [(.agg [(.z (.const (.slice none 0 0))), (.z (.const (.slice none 0 0)))]), (.one (.z (.int .i64 (.lit 18))))]), [], 9))
 (.ite (.cmp .gtr (.ar .add .i64 (.len (.fn 4 (.x (.var 0) (.x (.var 2) .nil)))) (.len (.var 6002))) (.lit 300))
 (.ret ((.tup [(.agg [(.z (.const (.slice none 0 0))), (.z (.const (.slice none 0 0)))]), (.one (.z (.int .i64 (.lit 2))))]), [], 9))
 (.ret ((.tup [(.agg [(.z (.own 3 (.lit 0))), (.z (.own 4 (.var 6000)))]), (.one (.z (.int .i64 (.lit 0))))]), [(4, (.own 59 featK (.var 6002) (.var 6000))), (3, (.own 53 sndK (.fn 4 (.x (.var 0) (.x (.var 2) .nil))) (.lit 0))), (4, (.own 59 featK (.var 1) (.lit 0))), (3, (.own 53 sndK (.fn 4 (.x (.var 0) (.x (.var 2) .nil))) (.lit 0)))], 9))))))))))))))))
def trMerge_h : List (Nat × St) := [
(5, ⟨(List.append [(.v (.one (.z (.ext featK (.var 1) false)))), (.v (.one (.z (.ext featK (.var 3) false)))), (.v (.one (.z (.clo 43 [])))), (.v (.one (.z (.clo 35 []))))] (List.append (List.replicate 4 V.any) (List.append [(.v (.one (.z (.const (.slice none 0 0))))), (.v (.one (.z (.bool (.lit false))))), (.v (.one (.z (.own 4 (.var 6000)))))] (List.append (List.replicate 4 V.any) (List.append [(.v (.one (.z (.ext featK (.var 1) false)))), (.v (.one (.z (.own 4 (.lit 0))))), (.v (.one (.z (.ext featK (.var 3) false)))), (.v (.one (.z (.int .i64 (.len (.var 3)))))), (.v (.one (.z (.int .i64 (.var 6001)))))] (List.replicate 31 V.any)))))), [(4, (.own 59 featK (.var 6002) (.var 6000))), (3, (.own 53 sndK (.fn 4 (.x (.var 0) (.x (.var 2) .nil))) (.lit 0))), (2, (.cells 25 [(.z (.const (.slice none 0 0))), (.z (.const (.slice none 0 0)))])), (1, (.cells 25 [(.z (.ext sndK (.var 2) false)), (.z (.ext featK (.var 3) false))])), (0, (.cells 25 [(.z (.ext sndK (.var 0) false)), (.z (.ext featK (.var 1) false))]))], 6, []⟩)]
def trMerge_j : List (FuncId × Nat × Nat × St) := [
]
set_option maxRecDepth 100000 in
theorem trMerge_is : T.norm 0 (call Tryz.prog ctV9 ⟨Lt.un (Lt.of []), trMerge_h, trMerge_j⟩ 150 28 (symArgs 0 [suv, suv]) [] 0) TT.ret = trMerge := by kernel_rfl
theorem trMerge_low : trMerge.low 1000 = true := by kernel_rfl
end Go.Proofs.YtldbejmgalhdaaaGreat
/- Chapter 09: survey.Merge. -/
namespace Go.Proofs.YtldbejmgalhdaaaGreat
open Go.RowKit
/-! The rows of a second survey -/
theorem suv2_rows {W : World} {vals : List Value} {ds : List D} {sh : List Sh} (h : repSh W (suv :: suv :: sh) vals ds) : (∀ row ∈ rAt ds 0, row7 row) ∧ (∀ row ∈ rAt ds 1, row9 row) ∧ (∀ row ∈ rAt ds 2, row7 row) ∧ ∀ row ∈ rAt ds 3, row9 row := by
  refine ⟨suv_rows h, suv_feats h, ?_⟩
  obtain ⟨v, vs', d, ds', rfl, rfl, ⟨us, rfl, h0⟩, h⟩ := h
  have e1 : d.length = 2 := (reps_len h0).2
  have e : ∀ k, rAt (d ++ ds') (k + 2) = rAt ds' k := fun k => by
    unfold rAt
    rw [List.getD_eq_getElem?_getD, List.getD_eq_getElem?_getD, List.getElem?_append_right (by omega), e1, Nat.add_sub_cancel]
  rw [e 0, e 1]
  exact ⟨suv_rows h, suv_feats h⟩
def lieB (s F t G : Rows) : Bool := !(okJ eqS7 s t && (okJ sameR9 F G && (!shdB s G && !shdB t F)))
def mgE4 (s F t G : Rows) : Int := if (surB s F && surB t G) = true then (if lieB s F t G = true then 18 else if ((jnR s t).length : Int) + (jnR F G).length > 300 then 2 else 0) else 1
def mgE (ds : List D) : Int := mgE4 (rAt ds 0) (rAt ds 1) (rAt ds 2) (rAt ds 3)
def mgS (ds : List D) : Rows := if mgE ds = 0 then jnR (rAt ds 0) (rAt ds 2) else []
def mgF (ds : List D) : Rows := if mgE ds = 0 then jnR (rAt ds 1) (rAt ds 3) else []
def nlMS : NL := { e := 53, ks := sndK, s := 5, rows := mgS }
def nlMF : NL := { e := 59, ks := featK, s := 6, rows := mgF }
theorem lsAre_two9 {ρ : Env} {q : OpR} {l1 l2 : NL} {ds : List D} {s1 s2 : S0} {x1 x2 : X} (h1 : lrows q.2.1 l1.e l1.ks s1 = some x1) (e1 : x1.ev ρ = l1.rows ds) (h2 : lrows q.2.1 l2.e l2.ks s2 = some x2) (e2 : x2.ev ρ = l2.rows ds)
    (hne : ∀ id v v', s1 = .own id v → s2 = .own id v' → False) : LsAre ρ q [l1, l2] ds [s1, s2] := by
  refine ⟨rfl, fun k l s hk hs => ?_, fun i j id v v' hi hj => ?_⟩
  · match k, hk, hs with
    | 0, hk, hs =>
      simp only [List.getElem?_cons_zero, Option.some.injEq] at hk hs
      subst hk hs
      exact ⟨x1, h1, e1⟩
    | 1, hk, hs =>
      simp only [List.getElem?_cons_succ, List.getElem?_cons_zero, Option.some.injEq] at hk hs
      subst hk hs
      exact ⟨x2, h2, e2⟩
    | k + 2, hk, hs => simp at hk
  · match i, j, hi, hj with
    | 0, 0, _, _ => rfl
    | 1, 1, _, _ => rfl
    | 0, 1, hi, hj =>
      simp only [List.getElem?_cons_succ, List.getElem?_cons_zero, Option.some.injEq] at hi hj
      exact (hne id v v' hi hj).elim
    | 1, 0, hi, hj =>
      simp only [List.getElem?_cons_succ, List.getElem?_cons_zero, Option.some.injEq] at hi hj
      exact (hne id v' v hj hi).elim
    | i + 2, _, hi, _ => simp at hi
    | 0, j + 2, _, hj => simp at hj
    | 1, j + 2, _, hj => simp at hj
def mgRes (_w0 : World) (ds : List D) (vs : List Value) (u : Value) : Prop := ∃ a b, vs = [a, b] ∧ u = .tuple #[.agg #[a, b], .int .i64 (mgE ds)]
theorem mg_den {ρ : Env} {σ : As} {s1 s2 : S0} {e : E} {u : Value} (h : V.den ρ σ (.tup [.agg [.z s1, .z s2], .one (.z (.int .i64 e))]) u) : ∃ v1 v2, S0.den ρ σ s1 v1 ∧ S0.den ρ σ s2 v2 ∧ u = .tuple #[.agg #[v1, v2], .int .i64 (e.ev ρ)] := by
  obtain ⟨vs, h, rfl⟩ := h
  obtain ⟨w1, vs, rfl, h1, h⟩ := DL.cons_inv h
  obtain ⟨w4, vs, rfl, h4, h⟩ := DL.cons_inv h
  obtain rfl := DL.nil_inv h
  obtain rfl : w4 = .int .i64 (e.ev ρ) := h4
  obtain ⟨us, h1, rfl⟩ := h1
  obtain ⟨v1, us, rfl, g1, h1⟩ := DL.cons_inv h1
  obtain ⟨v2, us, rfl, g2, h1⟩ := DL.cons_inv h1
  obtain rfl := DL.nil_inv h1
  exact ⟨v1, v2, g1, g2, rfl⟩
theorem mg_end {ρ : Env} {w0 : World} {ds : List D} {s1 s2 : S0} {e : E} {m : Mem} {n : Nat} {x1 x2 : X} (h1 : lrows m 53 sndK s1 = some x1) (e1 : x1.ev ρ = mgS ds) (h2 : lrows m 59 featK s2 = some x2) (e2 : x2.ev ρ = mgF ds)
    (hne : ∀ id v v', s1 = .own id v → s2 = .own id v' → False) (he : e.ev ρ = mgE ds) :
    ∃ ss, LsAre ρ ((.tup [.agg [.z s1, .z s2], .one (.z (.int .i64 e))]), m, n) [nlMS, nlMF] ds ss ∧ ∀ (σ : As) u, ρ.w = w0 → V.den ρ σ (.tup [.agg [.z s1, .z s2], .one (.z (.int .i64 e))]) u → ∃ vs, DL (S0.den ρ σ) ss vs ∧ mgRes w0 ds vs u := by
  refine ⟨[s1, s2], lsAre_two9 (l1 := nlMS) (l2 := nlMF) h1 e1 h2 e2 hne, fun σ u _ hu => ?_⟩
  obtain ⟨v1, v2, g1, g2, rfl⟩ := mg_den hu
  rw [he]
  exact ⟨[v1, v2], ⟨g1, g2, trivial⟩, v1, v2, rfl, rfl⟩
theorem mg_nil {ρ : Env} {w0 : World} {ds : List D} {e : E} {n : Nat} {E0 : Int} (hE : mgE ds = E0) (h0 : E0 ≠ 0) (he : e.ev ρ = E0) :
    ∃ ss, LsAre ρ ((.tup [.agg [.z (.const (.slice none 0 0)), .z (.const (.slice none 0 0))], .one (.z (.int .i64 e))]), [], n) [nlMS, nlMF] ds ss ∧ ∀ (σ : As) u, ρ.w = w0 → V.den ρ σ (.tup [.agg [.z (.const (.slice none 0 0)), .z (.const (.slice none 0 0))], .one (.z (.int .i64 e))]) u → ∃ vs, DL (S0.den ρ σ) ss vs ∧ mgRes w0 ds vs u :=
  mg_end (x1 := .nil) (x2 := .nil) rfl (by unfold mgS; rw [hE, if_neg h0]; rfl) rfl (by unfold mgF; rw [hE, if_neg h0]; rfl) (fun id v v' h => by cases h) (by rw [he, hE])
theorem jsk_two (a b : Rows) : jsK [.l a, .l b] = okJ eqS7 a b := rfl
theorem shd_two (a b : Rows) : shdL [.l a, .l b] = shdB a b := rfl
theorem jsr_two (a b : Rows) : jsR [.l a, .l b] = if okJ eqS7 a b = true then jnR a b else [] := rfl
theorem jnR_len {a b : Rows} : (jnR a b).length ≤ a.length + b.length := by
  unfold jnR
  rw [len_insL]
  have h1 : (newJ a b).length ≤ b.length := List.length_filter_le _ _
  omega
theorem KVgb150 (W : World) (ds l : List D) : (envOf KVg W ds).fb 150 l = surL l := by simp only [envOf, KVg, KVf, KVe, KVd, KVc, KVb]
theorem KVgb136 (W : World) (ds l : List D) : (envOf KVg W ds).fb 136 l = risL l := by simp only [envOf, KVg, KVf, KVe, KVd, KVc, KVb, KVa]
theorem KVgi135 (W : World) (ds l : List D) : (envOf KVg W ds).fi 135 l = lowL l := by simp only [envOf, KVg, KVf, KVe, KVd, KVc, KVb, KVa]
theorem KVgb135 (W : World) (ds l : List D) : (envOf KVg W ds).fb 135 l = isL l := by simp only [envOf, KVg, KVf, KVe, KVd, KVc, KVb, KVa]
theorem KVgb129 (W : World) (ds l : List D) : (envOf KVg W ds).fb 129 l = sameL l := by simp only [envOf, KVg, KVf, KVe, KVd, KVc, KVb, KVa, K80, K79]
theorem KVgb200 (W : World) (ds l : List D) : (envOf KVg W ds).fb 200 l = jsK l := by simp only [envOf, KVg]
theorem KVgb201 (W : World) (ds l : List D) : (envOf KVg W ds).fb 201 l = shdL l := by simp only [envOf, KVg]
theorem KVgd4 (W : World) (ds l : List D) : (envOf KVg W ds).fd 4 l = jsR l := by simp only [envOf, KVg]
set_option maxHeartbeats 2000000 in
theorem gMerge : GivesN Tryz.prog 28 [suv, suv] [nlMS, nlMF] (fun _ => True) mgRes := by
  refine fn_givesN KVg (by kernel_rfl) (fun ρ h => ctV9_ok (Sees.of h 210) (SeesD.of h 5)) (by kernel_rfl) trMerge_is trMerge_low (by decide) (fun w0 vals ds hr _ => ?_)
  obtain ⟨_, _, _, h9⟩ := suv2_rows hr
  simp only [trMerge, TT.sat_ret, TT.sat_ite, TT.sat_ob, TT.sat_next, TT.sat_stuck, put_i, put_b, put_d, put_fi, put_fb, put_fd, Ob.ok, B.ev, E.ev, X.ev, AL.ev, cmp_t, cmp_f, arEv, V.plain, V2.plain, S.plain, S0.plain, V.val, V2.val, S.val, S0.val, bV, iV, List.all_cons, List.all_nil, Bool.and_true, Bool.and_self, envOf_i, envOf_b, envOf_d, List.map_cons, List.map_nil, true_and, Bool.not_eq_true', Bool.not_eq_false', Bool.not_not, Bool.and_eq_true, and_f, cell_lg, cell_lb, cell_lr, cmpP, val_i, val_b, val_d, aget, Nat.reduceBEq, beq_self_eq_true, Bool.false_eq_true, if_true, if_false, Nat.reduceLT, Nat.reduceSub, Nat.sub_self, Nat.lt_irrefl, KVgb150, sur_two]
  have hE : mgE ds = mgE4 (rAt ds 0) (rAt ds 1) (rAt ds 2) (rAt ds 3) := rfl
  have hS : mgS ds = if mgE ds = 0 then jnR (rAt ds 0) (rAt ds 2) else [] := rfl
  have hF : mgF ds = if mgE ds = 0 then jnR (rAt ds 1) (rAt ds 3) else [] := rfl
  clear hr
  generalize e0 : rAt ds 0 = s at *
  generalize e1 : rAt ds 1 = F at *
  generalize e2 : rAt ds 2 = t at *
  generalize e3 : rAt ds 3 = G at *
  unfold mgE4 at hE
  refine ⟨fun h1 => mg_nil (E0 := 1) (by rw [hE, h1]; rfl) (by decide) (by simp [E.ev]), fun h1 => ⟨fun h2 => mg_nil (E0 := 1) (by rw [hE, h1, h2]; rfl) (by decide) (by simp [E.ev]), fun h2 => ?_⟩⟩
  rw [h1, h2, Bool.true_and, if_pos rfl] at hE
  obtain ⟨⟨f1, f2⟩, f3, f4, f5⟩ := sur_iff.1 h1
  obtain ⟨⟨g1, g2⟩, g3, g4, g5⟩ := sur_iff.1 h2
  have hFr := (list_iff.1 f1).2.1
  have hGr := (list_iff.1 g1).2.1
  refine ⟨?_, ?_, by omega, by omega, ?_⟩
  · rw [KVgb136, ris_one]; exact risP_iff.2 f4
  · rw [KVgb136, ris_one]; exact risP_iff.2 g4
  have LIE : lieB s F t G = true → mgE ds = 18 := fun h => by rw [hE, if_pos h]
  refine TT.sat_loop (fun v => ∃ j : Nat, v.i 1 = j ∧ j ≤ G.length ∧ v.d 2 = jnR F (G.take j) ∧ ∀ (k : Nat) (hk : k < G.length), k < j → isB F (cI G[k] 0) = true → sameR9 (getK F (cI G[k] 0)) G[k] = true) (fun v => G.length - (v.i 1).toNat)
    ⟨0, by simp [val_i, aget, E.ev], by omega, by simp [val_d, aget, X.ev, envOf_d, e1, jnR, newJ, insL], fun k hk h => by omega⟩ (fun v hv => ?_)
  obtain ⟨j, j0, j1, j2, j3⟩ := hv
  simp only [TT.sat_ret, TT.sat_ite, TT.sat_ob, TT.sat_next, TT.sat_stuck, put_i, put_b, put_d, put_fi, put_fb, put_fd, Ob.ok, B.ev, E.ev, X.ev, AL.ev, cmp_t, cmp_f, arEv, V.plain, V2.plain, S.plain, S0.plain, V.val, V2.val, S.val, S0.val, bV, iV, List.all_cons, List.all_nil, Bool.and_true, Bool.and_self, envOf_i, envOf_b, envOf_d, List.map_cons, List.map_nil, true_and, Bool.not_eq_true', Bool.not_eq_false', Bool.not_not, Bool.and_eq_true, and_f, cell_lg, cell_lb, cell_lr, cmpP, val_i, val_b, val_d, aget, Nat.reduceBEq, beq_self_eq_true, Bool.false_eq_true, if_true, if_false, Nat.reduceLT, Nat.reduceSub, Nat.sub_self, Nat.lt_irrefl, j0, e0, e1, e2, e3, KVgb136, KVgb135, KVgi135, KVgb129, KVgb200, KVgb201, KVgd4, low_two, ris_one, is_two, same_18, jsk_two, shd_two, jsr_two]
  refine ⟨fun hc => ?_, fun hc => ?_⟩
  · have hj : j < G.length := by omega
    obtain ⟨s1, s2, s3, s4, s5⟩ := join_step hFr hGr hj j2
    have hw1 : IntKind.i64.wrap ((j : Int) + 1) = ((j + 1 : Nat) : Int) := by rw [wrap_in _ (by omega) (by omega)]; rfl
    have hm : G.length - (((j + 1 : Nat) : Int)).toNat < G.length - (j : Int).toNat := by omega
    have hlo := (lowR_spec (v.d 2) (cI G[j] 0)).1
    have hins := insF_sub (v.d 2) G[j]
    have h9j := h9 _ (List.getElem_mem hj)
    simp only [hw1, lg_cI hj, lr_cR hj, s3]
    have NX : ∀ (h : isB F (cI G[j] 0) = true → sameR9 (getK F (cI G[j] 0)) G[j] = true), ∀ (k : Nat) (hk : k < G.length), k < j + 1 → isB F (cI G[k] 0) = true → sameR9 (getK F (cI G[k] 0)) G[k] = true := fun h k hk hkj => by
      by_cases e : k = j
      · subst e; exact h
      · exact j3 k hk (by omega)
    refine ⟨by omega, by omega, risP_iff.2 s1, fun hB => ⟨by omega, by omega, by omega, ⟨j + 1, rfl, by omega, ?_, NX (fun h => by rw [hB] at h; cases h)⟩, hm⟩, fun hB => ?_⟩
    · rw [← s5 hB, ← hins]
      congr 2
      rw [List.append_nil, List.append_nil]
      congr 1
      exact h9j.symm
    · have hBo : isB (v.d 2) (cI G[j] 0) = true := by rw [s3]; exact hB
      have hlt := isB_low hBo
      obtain ⟨s6, s7⟩ := s4 hB
      simp only [lg_getK hBo, lr_getK hBo, s6]
      have hEq : sameR9 (getK F (cI G[j] 0)) G[j] = sameB (cI (getK F (cI G[j] 0)) 0) (cI (getK F (cI G[j] 0)) 1) (cI (getK F (cI G[j] 0)) 2) (cI (getK F (cI G[j] 0)) 3) (cI (getK F (cI G[j] 0)) 4) (cR (getK F (cI G[j] 0)) 5) (cI (getK F (cI G[j] 0)) 6) (cI (getK F (cI G[j] 0)) 7) (cR (getK F (cI G[j] 0)) 8) (cI G[j] 0) (cI G[j] 1) (cI G[j] 2) (cI G[j] 3) (cI G[j] 4) (cR G[j] 5) (cI G[j] 6) (cI G[j] 7) (cR G[j] 8) := rfl
      generalize sameB _ _ _ _ _ _ _ _ _ _ _ _ _ _ _ _ _ _ = Q at *
      refine ⟨by omega, by omega, fun hne => ?_, fun he => ⟨⟨j + 1, rfl, by omega, s7, NX (fun _ => by rw [hEq]; exact he)⟩, hm⟩⟩
      have hf : okJ sameR9 F G = false := okJ_false hj hB (by rw [hEq]; exact hne)
      have hl : mgE ds = 18 := LIE (by unfold lieB; rw [hf]; simp)
      exact ⟨fun _ => mg_nil hl (by decide) (by simp [E.ev]), fun _ => mg_nil hl (by decide) (by simp [E.ev])⟩
  · have hj : j = G.length := by omega
    have ht : okJ sameR9 F G = true := okJ_true (fun k hk => j3 k hk (by omega))
    have j2' : v.d 2 = jnR F G := by rw [j2, hj, List.take_length]
    have hl1 := @jnR_len s t
    have hl2 := @jnR_len F G
    simp only [j2']
    refine ⟨fun hk => mg_nil (LIE (by unfold lieB; rw [hk]; rfl)) (by decide) (by simp [E.ev]), fun hk => ⟨risP_iff.2 hGr, fun h3 => mg_nil (LIE (by unfold lieB; rw [h3]; simp)) (by decide) (by simp [E.ev]), fun h3 => ⟨risP_iff.2 hFr, fun h4 => mg_nil (LIE (by unfold lieB; rw [h4]; simp)) (by decide) (by simp [E.ev]), fun h4 => ?_⟩⟩⟩
    have hL : lieB s F t G = false := by unfold lieB; rw [hk, ht, h3, h4]; rfl
    rw [hL, if_neg (by decide)] at hE
    rw [hk, if_pos rfl, wrap_in (((jnR s t).length : Int) + ((jnR F G).length : Nat)) (by omega) (by omega)]
    refine ⟨fun hb => mg_nil (E0 := 2) (by rw [hE, if_pos hb]) (by decide) (by simp [E.ev]), fun hb => ?_⟩
    rw [if_neg hb] at hE
    rw [hE, if_pos rfl] at hS hF
    refine mg_end (x1 := .fn 4 (.x (.var 0) (.x (.var 2) .nil))) (x2 := .var 6002) (by kernel_rfl) ?_ (by kernel_rfl) ?_ (fun id v v' h1 h2 => by cases h1; cases h2) (by rw [hE]; simp [E.ev])
    · rw [hS]
      simp only [X.ev, AL.ev, put_d, put_fd, envOf_d, Nat.reduceLT, if_true, e0, e2, KVgd4, jsr_two, hk]
    · rw [hF]
      simp only [X.ev, put_d, Nat.reduceLT, if_false, Nat.reduceSub, j2']
set_option maxHeartbeats 2000000 in
theorem gMergeBad : GivesIf Tryz.prog 28 [suv, suv] (fun ds => mgE ds ≠ 0) (fun ds => .tuple #[.agg #[.slice none 0 0, .slice none 0 0], .int .i64 (mgE ds)]) := by
  refine fn_gives KVg (by kernel_rfl) (fun ρ h => ctV9_ok (Sees.of h 210) (SeesD.of h 5)) (by kernel_rfl) trMerge_is trMerge_low (by decide) (fun w0 vals ds hr hbad => ?_)
  obtain ⟨_, _, _, h9⟩ := suv2_rows hr
  simp only [trMerge, TT.sat_ret, TT.sat_ite, TT.sat_ob, TT.sat_next, TT.sat_stuck, put_i, put_b, put_d, put_fi, put_fb, put_fd, Ob.ok, B.ev, E.ev, X.ev, AL.ev, cmp_t, cmp_f, arEv, V.plain, V2.plain, S.plain, S0.plain, V.val, V2.val, S.val, S0.val, bV, iV, List.all_cons, List.all_nil, Bool.and_true, Bool.and_self, envOf_i, envOf_b, envOf_d, List.map_cons, List.map_nil, true_and, Bool.not_eq_true', Bool.not_eq_false', Bool.not_not, Bool.and_eq_true, and_f, cell_lg, cell_lb, cell_lr, cmpP, val_i, val_b, val_d, aget, Nat.reduceBEq, beq_self_eq_true, Bool.false_eq_true, if_true, if_false, Nat.reduceLT, Nat.reduceSub, Nat.sub_self, Nat.lt_irrefl, KVgb150, sur_two]
  have hE : mgE ds = mgE4 (rAt ds 0) (rAt ds 1) (rAt ds 2) (rAt ds 3) := rfl
  have BAD : ∀ E0, mgE ds = E0 → Value.tuple #[.agg #[.slice none 0 0, .slice none 0 0], .int .i64 E0] = Value.tuple #[.agg #[.slice none 0 0, .slice none 0 0], .int .i64 (mgE ds)] := fun E0 h => by rw [h]
  clear hr
  generalize e0 : rAt ds 0 = s at *
  generalize e1 : rAt ds 1 = F at *
  generalize e2 : rAt ds 2 = t at *
  generalize e3 : rAt ds 3 = G at *
  unfold mgE4 at hE
  refine ⟨fun h1 => BAD 1 (by rw [hE, h1]; rfl), fun h1 => ⟨fun h2 => BAD 1 (by rw [hE, h1, h2]; rfl), fun h2 => ?_⟩⟩
  rw [h1, h2, Bool.true_and, if_pos rfl] at hE
  obtain ⟨⟨f1, f2⟩, f3, f4, f5⟩ := sur_iff.1 h1
  obtain ⟨⟨g1, g2⟩, g3, g4, g5⟩ := sur_iff.1 h2
  have hFr := (list_iff.1 f1).2.1
  have hGr := (list_iff.1 g1).2.1
  refine ⟨?_, ?_, by omega, by omega, ?_⟩
  · rw [KVgb136, ris_one]; exact risP_iff.2 f4
  · rw [KVgb136, ris_one]; exact risP_iff.2 g4
  have LIE : lieB s F t G = true → mgE ds = 18 := fun h => by rw [hE, if_pos h]
  refine TT.sat_loop (fun v => ∃ j : Nat, v.i 1 = j ∧ j ≤ G.length ∧ v.d 2 = jnR F (G.take j) ∧ ∀ (k : Nat) (hk : k < G.length), k < j → isB F (cI G[k] 0) = true → sameR9 (getK F (cI G[k] 0)) G[k] = true) (fun v => G.length - (v.i 1).toNat)
    ⟨0, by simp [val_i, aget, E.ev], by omega, by simp [val_d, aget, X.ev, envOf_d, e1, jnR, newJ, insL], fun k hk h => by omega⟩ (fun v hv => ?_)
  obtain ⟨j, j0, j1, j2, j3⟩ := hv
  simp only [TT.sat_ret, TT.sat_ite, TT.sat_ob, TT.sat_next, TT.sat_stuck, put_i, put_b, put_d, put_fi, put_fb, put_fd, Ob.ok, B.ev, E.ev, X.ev, AL.ev, cmp_t, cmp_f, arEv, V.plain, V2.plain, S.plain, S0.plain, V.val, V2.val, S.val, S0.val, bV, iV, List.all_cons, List.all_nil, Bool.and_true, Bool.and_self, envOf_i, envOf_b, envOf_d, List.map_cons, List.map_nil, true_and, Bool.not_eq_true', Bool.not_eq_false', Bool.not_not, Bool.and_eq_true, and_f, cell_lg, cell_lb, cell_lr, cmpP, val_i, val_b, val_d, aget, Nat.reduceBEq, beq_self_eq_true, Bool.false_eq_true, if_true, if_false, Nat.reduceLT, Nat.reduceSub, Nat.sub_self, Nat.lt_irrefl, j0, e0, e1, e2, e3, KVgb136, KVgb135, KVgi135, KVgb129, KVgb200, KVgb201, KVgd4, low_two, ris_one, is_two, same_18, jsk_two, shd_two, jsr_two]
  refine ⟨fun hc => ?_, fun hc => ?_⟩
  · have hj : j < G.length := by omega
    obtain ⟨s1, s2, s3, s4, s5⟩ := join_step hFr hGr hj j2
    have hw1 : IntKind.i64.wrap ((j : Int) + 1) = ((j + 1 : Nat) : Int) := by rw [wrap_in _ (by omega) (by omega)]; rfl
    have hm : G.length - (((j + 1 : Nat) : Int)).toNat < G.length - (j : Int).toNat := by omega
    have hlo := (lowR_spec (v.d 2) (cI G[j] 0)).1
    have hins := insF_sub (v.d 2) G[j]
    have h9j := h9 _ (List.getElem_mem hj)
    simp only [hw1, lg_cI hj, lr_cR hj, s3]
    have NX : ∀ (h : isB F (cI G[j] 0) = true → sameR9 (getK F (cI G[j] 0)) G[j] = true), ∀ (k : Nat) (hk : k < G.length), k < j + 1 → isB F (cI G[k] 0) = true → sameR9 (getK F (cI G[k] 0)) G[k] = true := fun h k hk hkj => by
      by_cases e : k = j
      · subst e; exact h
      · exact j3 k hk (by omega)
    refine ⟨by omega, by omega, risP_iff.2 s1, fun hB => ⟨by omega, by omega, by omega, ⟨j + 1, rfl, by omega, ?_, NX (fun h => by rw [hB] at h; cases h)⟩, hm⟩, fun hB => ?_⟩
    · rw [← s5 hB, ← hins]
      congr 2
      rw [List.append_nil, List.append_nil]
      congr 1
      exact h9j.symm
    · have hBo : isB (v.d 2) (cI G[j] 0) = true := by rw [s3]; exact hB
      have hlt := isB_low hBo
      obtain ⟨s6, s7⟩ := s4 hB
      simp only [lg_getK hBo, lr_getK hBo, s6]
      have hEq : sameR9 (getK F (cI G[j] 0)) G[j] = sameB (cI (getK F (cI G[j] 0)) 0) (cI (getK F (cI G[j] 0)) 1) (cI (getK F (cI G[j] 0)) 2) (cI (getK F (cI G[j] 0)) 3) (cI (getK F (cI G[j] 0)) 4) (cR (getK F (cI G[j] 0)) 5) (cI (getK F (cI G[j] 0)) 6) (cI (getK F (cI G[j] 0)) 7) (cR (getK F (cI G[j] 0)) 8) (cI G[j] 0) (cI G[j] 1) (cI G[j] 2) (cI G[j] 3) (cI G[j] 4) (cR G[j] 5) (cI G[j] 6) (cI G[j] 7) (cR G[j] 8) := rfl
      generalize sameB _ _ _ _ _ _ _ _ _ _ _ _ _ _ _ _ _ _ = Q at *
      refine ⟨by omega, by omega, fun hne => ?_, fun he => ⟨⟨j + 1, rfl, by omega, s7, NX (fun _ => by rw [hEq]; exact he)⟩, hm⟩⟩
      have hf : okJ sameR9 F G = false := okJ_false hj hB (by rw [hEq]; exact hne)
      have hl : mgE ds = 18 := LIE (by unfold lieB; rw [hf]; simp)
      exact ⟨fun _ => BAD 18 hl, fun _ => BAD 18 hl⟩
  · have hj : j = G.length := by omega
    have ht : okJ sameR9 F G = true := okJ_true (fun k hk => j3 k hk (by omega))
    have j2' : v.d 2 = jnR F G := by rw [j2, hj, List.take_length]
    have hl1 := @jnR_len s t
    have hl2 := @jnR_len F G
    simp only [j2']
    refine ⟨fun hk => BAD 18 (LIE (by unfold lieB; rw [hk]; rfl)), fun hk => ⟨risP_iff.2 hGr, fun h3 => BAD 18 (LIE (by unfold lieB; rw [h3]; simp)), fun h3 => ⟨risP_iff.2 hFr, fun h4 => BAD 18 (LIE (by unfold lieB; rw [h4]; simp)), fun h4 => ?_⟩⟩⟩
    have hL : lieB s F t G = false := by unfold lieB; rw [hk, ht, h3, h4]; rfl
    rw [hL, if_neg (by decide)] at hE
    rw [hk, if_pos rfl, wrap_in (((jnR s t).length : Int) + ((jnR F G).length : Nat)) (by omega) (by omega)]
    refine ⟨fun hb => BAD 2 (by rw [hE, if_pos hb]), fun hb => ?_⟩
    rw [if_neg hb] at hE
    exact absurd hE hbad
end Go.Proofs.YtldbejmgalhdaaaGreat
/- Chapter 09: the tree of the reference's Same. -/
namespace Go.Proofs.YtldbejmgalhdaaaGreat
open Go.RowKit
def trR9Same : TT OpR :=
(.ite (.cmp .neq (.len (.var 0)) (.len (.var 2)))
 (.ret ((.v (.one (.z (.bool (.lit false))))), [], 2))
 (.ob (.tru (.fn 190 (.x (.var 1) (.x (.var 3) .nil))))
 (.loop 0 3000 ⟨[(0, (.lit 0))], [], []⟩
 (.ite (.cmp .lss (.var 3000) (.len (.var 0)))
 (.ob (.tru (.cmp .leq (.lit 0) (.var 3000)))
 (.ob (.tru (.cmp .lss (.var 3000) (.len (.var 0))))
 (.ob (.tru (.cmp .leq (.lit 0) (.var 3000)))
 (.ob (.tru (.cmp .lss (.var 3000) (.len (.var 2))))
 (.ite (.not (.and (.cmp .eql (.rd (.var 0) (.var 3000) 0) (.rd (.var 2) (.var 3000) 0)) (.and (.and (.cmp .eql (.rd (.var 0) (.var 3000) 1) (.rd (.var 2) (.var 3000) 1)) (.cmp .eql (.rd (.var 0) (.var 3000) 2) (.rd (.var 2) (.var 3000) 2))) (.and (.cmp .eql (.rd (.var 0) (.var 3000) 3) (.rd (.var 2) (.var 3000) 3)) (.and (.and (.cmp .eql (.rd (.var 0) (.var 3000) 4) (.rd (.var 2) (.var 3000) 4)) (.cmp .eql (.rd (.var 0) (.var 3000) 5) (.rd (.var 2) (.var 3000) 5))) (.cmp .eql (.rd (.var 0) (.var 3000) 6) (.rd (.var 2) (.var 3000) 6)))))))
 (.ret ((.v (.one (.z (.bool (.lit false))))), [], 3))
 (.next 0 ⟨[(0, (.ar .add .i64 (.var 3000) (.lit 1)))], [], []⟩))))))
 (.ret ((.v (.one (.z (.bool (.lit true))))), [], 3))))))
set_option maxRecDepth 100000 in
theorem trR9Same_is : T.norm 0 (call Tryz.prog ctV9 (Lt.of []) 150 30 (symArgs 0 [suv, suv]) [] 0) TT.ret = trR9Same := by kernel_rfl
theorem trR9Same_low : trR9Same.low 1000 = true := by kernel_rfl
end Go.Proofs.YtldbejmgalhdaaaGreat
/- Chapter 09: contracts of survey.Merge and of the reference's Same of equal surveys. -/
namespace Go.Proofs.YtldbejmgalhdaaaGreat
open Go.RowKit
def eq4 (ds : List D) : Bool := rowsEqb (rAt ds 0) (rAt ds 2) && rowsEqb (rAt ds 1) (rAt ds 3)
theorem eq4_four (s F t G : Rows) : eq4 [.l s, .l F, .l t, .l G] = (rowsEqb s t && rowsEqb F G) := rfl
theorem KVgb190 (W : World) (ds l : List D) : (envOf KVg W ds).fb 190 l = eqLL l := by simp only [envOf, KVg, KVf]
theorem gR9Same : GivesIf Tryz.prog 30 [suv, suv] (fun ds => eq4 ds = true) (fun _ => .bool true) := by
  refine fn_gives KVg (by kernel_rfl) (fun ρ h => ctV9_ok (Sees.of h 210) (SeesD.of h 5)) (by kernel_rfl) trR9Same_is trR9Same_low (by decide) (fun W vals ds hr hok => ?_)
  have hl := (suv_len hr).1
  unfold eq4 at hok
  rw [Bool.and_eq_true] at hok
  have e1 := rowsEqb_eq _ _ hok.1
  have e2 := rowsEqb_eq _ _ hok.2
  simp only [trR9Same, TT.sat_ret, TT.sat_ite, TT.sat_ob, TT.sat_next, TT.sat_stuck, put_i, put_b, put_d, put_fi, put_fb, put_fd, Ob.ok, B.ev, E.ev, X.ev, AL.ev, cmp_t, cmp_f, arEv, V.plain, V2.plain, S.plain, S0.plain, V.val, V2.val, S.val, S0.val, bV, iV, List.all_cons, List.all_nil, Bool.and_true, Bool.and_self, envOf_i, envOf_b, envOf_d, List.map_cons, List.map_nil, true_and, Bool.not_eq_true', Bool.not_eq_false', Bool.not_not, Bool.and_eq_true, and_f, cell_lg, cell_lb, cell_lr, cmpP, val_i, val_b, val_d, aget, Nat.reduceBEq, beq_self_eq_true, Bool.false_eq_true, if_true, if_false, Nat.reduceLT, Nat.reduceSub, Nat.sub_self, Nat.lt_irrefl, ← e1, ← e2, KVgb190, eqLL_two, rowsEqb_self]
  clear hr hok
  generalize e0 : rAt ds 0 = r at *
  refine ⟨fun h => absurd rfl h, fun _ => ?_⟩
  refine TT.sat_loop (fun v => ∃ i : Nat, v.i 0 = i ∧ i ≤ r.length) (fun v => r.length - (v.i 0).toNat) ⟨0, by simp [val_i, aget, E.ev], by omega⟩ (fun v hv => ?_)
  obtain ⟨i, i0, i1⟩ := hv
  simp only [TT.sat_ret, TT.sat_ite, TT.sat_ob, TT.sat_next, TT.sat_stuck, put_i, put_b, put_d, put_fi, put_fb, put_fd, Ob.ok, B.ev, E.ev, X.ev, AL.ev, cmp_t, cmp_f, arEv, V.plain, V2.plain, S.plain, S0.plain, V.val, V2.val, S.val, S0.val, bV, iV, List.all_cons, List.all_nil, Bool.and_true, Bool.and_self, envOf_i, envOf_b, envOf_d, List.map_cons, List.map_nil, true_and, Bool.not_eq_true', Bool.not_eq_false', Bool.not_not, Bool.and_eq_true, and_f, cell_lg, cell_lb, cell_lr, cmpP, val_i, val_b, val_d, aget, Nat.reduceBEq, beq_self_eq_true, Bool.false_eq_true, if_true, if_false, Nat.reduceLT, Nat.reduceSub, Nat.sub_self, Nat.lt_irrefl, i0, e0, ← e1]
  refine ⟨fun hc => ?_, fun _ => trivial⟩
  rw [wrap_in ((i : Int) + 1) (by omega) (by omega)]
  refine ⟨by omega, by omega, by omega, by omega, fun h => ?_, fun _ => ⟨⟨i + 1, rfl, by omega⟩, by omega⟩⟩
  simp at h
def KVh : Interp where
  fi n l := match n with | 210 => mgE l | n => KVg.fi n l
  fb n l := match n with | 210 => eq4 l | n => KVg.fb n l
  fd n l := match n with | 5 => mgS l | 6 => mgF l | n => KVg.fd n l
theorem KVh_KVgd {ρ : Env} (h : SeesD ρ KVh 7) : SeesD ρ KVg 5 := fun n l hn => by
  rw [h n l (by omega)]
  simp only [KVh]
  split <;> first | omega | rfl
theorem KVh_KVg {ρ : Env} (h : Sees ρ KVh 220) : Sees ρ KVg 210 := h.trans (by decide) fun n l hn => by
  refine ⟨?_, ?_⟩
  ·
    simp only [KVh]
    split <;> first | omega | rfl
  ·
    simp only [KVh]
    split <;> first | omega | rfl
def cR9Same := ctD [suv, suv] fun al => .ob (.tru (.fn 210 al)) (.ret (bV (.lit true)))
theorem cR9Same_ok {ρ : Env} (h : Sees ρ KVh 220) : CtOne Tryz.prog ρ 30 cR9Same := by
  refine ctD_if gR9Same (fun al v hv => ?_)
  obtain ⟨ho, hv⟩ := hv
  obtain rfl := res_ret hv
  refine ⟨rfl, ?_, rfl⟩
  have h1 : (B.fn 210 al).ev ρ = true := ho
  simp only [B.ev] at h1
  rw [(h 210 _ (by decide)).2] at h1
  simp only [KVh] at h1
  exact h1
def keepOk (q : OpR) : T OpR := match q.1 with
  | .tup [.agg _, .one (.z (.int _ (.lit 0)))] => .ret q
  | _ => .stuck "not possible"
theorem keepOk_res {ρ : Env} {q q' : OpR} (h : (keepOk q).res ρ q') : q' = q := by
  unfold keepOk at h
  split at h
  · exact res_ret h
  · exact h.elim
def nilSv (e : E) : V := .tup [.agg [.z (.const (.slice none 0 0)), .z (.const (.slice none 0 0))], .one (.z (.int .i64 e))]
def cMergeX (P : Program) (args : List V) (mem : Mem) (nx : Nat) : T OpR := match argsE [suv, suv] args with
  | some al => ctN [nlMS, nlMF] [] (.tup [.agg [.z (.own nx (.lit 0)), .z (.own (nx + 1) (.lit 0))], .one (.z (.int .i64 (.fn 210 al)))]) al nx
  | none => match argsA mem [suv, suv] args with
    | some al => .ite (.cmp .eql (.fn 210 al) (.lit 0)) ((call P ctV9 (Lt.of []) 150 28 args mem nx).bind keepOk) (.ret (nilSv (.fn 210 al), [], nx))
    | none => .stuck "Merge"
theorem Sees.agree {ρ ρ' : Env} {I : Interp} {c : Nat} (h : Sees ρ I c) (ha : Agree 0 ρ ρ') : Sees ρ' I c := fun n l hn => by
  have := h n l hn
  rw [ha.fi, ha.fb] at this
  exact this
theorem SeesD.agree {ρ ρ' : Env} {I : Interp} {c : Nat} (h : SeesD ρ I c) (ha : Agree 0 ρ ρ') : SeesD ρ' I c := fun n l hn => by
  have := h n l hn
  rw [ha.fd] at this
  exact this
theorem cMergeX_ok {ρ : Env} (h : Sees ρ KVh 220) (hd : SeesD ρ KVh 7) : CtOne Tryz.prog ρ 28 (cMergeX Tryz.prog) := by
  intro args mem nx q hq hle σ W vals hr hfr hdl
  unfold cMergeX at hq
  split at hq
  · rename_i al ha
    refine ctN_ok gMerge ha (fun _ => trivial) (fun l hl a => ?_) hq (fun σ' vs u hv hl hres => ?_) hr hfr hdl
    · rcases List.mem_cons.1 hl with rfl | hl
      · show ρ.fd 5 a = mgS a
        rw [hd 5 _ (by decide)]; simp only [KVh]
      · obtain rfl := List.mem_singleton.1 hl
        show ρ.fd 6 a = mgF a
        rw [hd 6 _ (by decide)]; simp only [KVh]
    · obtain ⟨a, b, rfl, rfl⟩ := hres
      obtain ⟨a1, a2, a3, a4, a5⟩ := hv 0 a rfl
      obtain ⟨b1, b2, b3, b4, b5⟩ := hv 1 b rfl
      have e0 : Value.int .i64 (mgE (al.ev ρ)) = .int .i64 ((E.fn 210 al).ev ρ) := by simp only [E.ev]; rw [(h 210 _ (by decide)).1]; simp only [KVh]
      exact ⟨[_, _], ⟨⟨[a, b], ⟨⟨⟨a2, a3, a4, a5⟩, a1⟩, ⟨⟨b2, b3, b4, b5⟩, b1⟩, trivial⟩, rfl⟩, e0, trivial⟩, rfl⟩
  · split at hq
    · rename_i al ha
      simp only [T.res] at hq
      split at hq
      · obtain ⟨q0, h1, h2⟩ := T.res_bind hq
        obtain rfl := keepOk_res h2
        exact ct_inline (by kernel_rfl) (by kernel_rfl) (fun ρ' ha => ctV9_ok ((KVh_KVg h).agree ha) ((KVh_KVgd hd).agree ha)) args mem nx q h1 hle σ W vals hr hfr hdl
      · rename_i hne
        obtain rfl : q = _ := hq
        have e0 : (E.fn 210 al).ev ρ = mgE (al.ev ρ) := by simp only [E.ev]; rw [(h 210 _ (by decide)).1]; simp only [KVh]
        have hne : mgE (al.ev ρ) ≠ 0 := fun h0 => hne (by simp only [B.ev, E.ev, cmp_t, cmpP]; rw [← e0] at h0; simpa only [E.ev] using h0)
        have hc := gMergeBad W vals (al.ev ρ) (argsA_ok hr [suv, suv] args al ha vals hdl) hne
        have hw : CallsIn Fence.wide 0 Tryz.prog 28 vals.toArray W _ := callsIn_wide.2 hc
        refine CallsIn.mono (F := FR none) hw ?_
        rintro en W' ⟨rfl, hb⟩
        have e1 : Value.int .i64 (mgE (al.ev ρ)) = .int .i64 ((E.fn 210 al).ev ρ) := by rw [e0]
        refine ⟨_, σ, rfl, ?_, Step.below hb, fun i hi => .inl hi⟩
        exact ⟨[.agg #[.slice none 0 0, .slice none 0 0], .int .i64 (mgE (al.ev ρ))], ⟨⟨[.slice none 0 0, .slice none 0 0], ⟨rfl, rfl, trivial⟩, rfl⟩, e1, trivial⟩, rfl⟩
    · exact hq.elim
def ctVA (P : Program) : Ct := (30, cR9Same) :: (28, cMergeX P) :: ctV9
theorem ctVA_ok {ρ : Env} (h : Sees ρ KVh 220) (hd : SeesD ρ KVh 7) : CtOk Tryz.prog ρ (ctVA Tryz.prog) := .cons (cR9Same_ok h) <| .cons (cMergeX_ok h hd) <| ctV9_ok (KVh_KVg h) (KVh_KVgd hd)
end Go.Proofs.YtldbejmgalhdaaaGreat
