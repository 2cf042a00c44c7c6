/- LNew, merged: TVt, Vt. -/
import Derived.Test.YtldbejmgalhdaaaGreatHJ
import Derived.Test.YtldbejmgalhdaaaGreatLCla
set_option linter.unusedSimpArgs false
set_option linter.unusedVariables false
/- Chapter 09: the tree of the law SurveyNew. -/
namespace Go.Proofs.YtldbejmgalhdaaaGreat
open Go.RowKit
def trLawNew : TT OpR :=
(.ite (.cmp .leq (.len (.var 0)) (.lit 16))
 (.ite (.not (.cmp .leq (.len (.var 1)) (.lit 12)))
 (.ret ((.v (.one (.z (.bool (.lit true))))), [], 4))
 (.ite (.cmp .neq (.fn 160 (.x (.var 0) (.x (.var 1) .nil))) (.lit 0))
 (.ret ((.v (.one (.z (.bool (.lit true))))), [], 4))
 (.ite (.cmp .lss (.var 2) (.lit 1))
 (.ret ((.v (.one (.z (.bool (.lit true))))), [], 8))
 (.ite (.cmp .gtr (.var 2) (.lit 100000))
 (.ret ((.v (.one (.z (.bool (.lit true))))), [], 8))
 (.ite (.cmp .lss (.var 6) (.lit 0))
 (.ret ((.v (.one (.z (.bool (.lit true))))), [], 8))
 (.ite (.cmp .gtr (.var 6) (.lit 100000))
 (.ret ((.v (.one (.z (.bool (.lit true))))), [], 8))
 (.ite (.cmp .lss (.var 5) (.lit 0))
 (.ret ((.v (.one (.z (.bool (.lit true))))), [], 8))
 (.ite (.cmp .gtr (.var 5) (.lit 100000))
 (.ret ((.v (.one (.z (.bool (.lit true))))), [], 8))
 (.ite (.cmp .geq (.var 3) (.lit (-1000000)))
 (.ite (.cmp .leq (.var 3) (.lit 1000000))
 (.ite (.cmp .geq (.var 4) (.lit (-1000000)))
 (.ite (.cmp .leq (.var 4) (.lit 1000000))
 (.ite (.cmp .geq (.ar .sub .i64 (.var 3) (.var 5)) (.lit (-1000000)))
 (.ite (.cmp .leq (.ar .add .i64 (.var 3) (.var 5)) (.lit 1000000))
 (.ite (.cmp .geq (.ar .sub .i64 (.var 4) (.var 5)) (.lit (-1000000)))
 (.ite (.cmp .leq (.ar .add .i64 (.var 4) (.var 5)) (.lit 1000000))
 (.ite (.cmp .leq (.var 6) (.var 7))
 (.ite (.cmp .leq (.var 7) (.lit 100000))
 (.ite (.cmp .geq (.var 8) (.lit 0))
 (.ite (.not (.cmp .leq (.var 8) (.lit 10000000)))
 (.ret ((.v (.one (.z (.bool (.lit true))))), [], 9))
 (.loop 0 10000 ⟨[(0, (.lit 0))], [], []⟩
 (.ite (.cmp .lss (.var 10000) (.len (.var 0)))
 (.ob (.tru (.cmp .leq (.lit 0) (.var 10000)))
 (.ob (.tru (.cmp .lss (.var 10000) (.len (.var 0))))
 (.ite (.cmp .geq (.rd (.var 0) (.var 10000) 0) (.var 2))
 (.ret ((.v (.one (.z (.bool (.lit true))))), [], 11))
 (.ite (.cmp .gtr (.rd (.var 0) (.var 10000) 6) (.var 8))
 (.ret ((.v (.one (.z (.bool (.lit true))))), [], 11))
 (.next 0 ⟨[(0, (.ar .add .i64 (.var 10000) (.lit 1)))], [], []⟩)))))
 (.ob (.tru (.cmp .leq (.len (.var 0)) (.lit 1000000)))
 (.ob (.tru (.cmp .leq (.len (.app (.var 0) (.app (.row (.i (.var 2) (.i (.var 3) (.i (.var 4) (.i (.var 5) (.i (.var 6) (.i (.var 7) (.i (.var 8) .nil)))))))) .nil))) (.lit 1000000)))
 (.ite (.not (.fn 150 (.x (.app (.var 0) (.app (.row (.i (.var 2) (.i (.var 3) (.i (.var 4) (.i (.var 5) (.i (.var 6) (.i (.var 7) (.i (.var 8) .nil)))))))) .nil)) (.x (.var 1) .nil))))
 (.ret ((.v (.one (.z (.bool (.cmp .eql (.fn 160 (.x (.app (.var 0) (.app (.row (.i (.var 2) (.i (.var 3) (.i (.var 4) (.i (.var 5) (.i (.var 6) (.i (.var 7) (.i (.var 8) .nil)))))))) .nil)) (.x (.var 1) .nil))) (.lit 1)))))), [], 16))
 (.loop 1 17000 ⟨[(1, (.lit 0))], [(0, (.lit true))], []⟩
 (.ite (.cmp .lss (.var 17001) (.len (.var 0)))
 (.ob (.tru (.cmp .leq (.lit 0) (.var 17001)))
 (.ob (.tru (.cmp .lss (.var 17001) (.len (.var 0))))
 (.ite (.var 17000)
 (.ite (.cmp .eql (.fn 119 (.i (.var 2) (.i (.lit 1) (.i (.var 3) (.i (.var 4) (.i (.var 5) (.x .nil (.i (.var 6) (.i (.lit 0) (.x .nil (.i (.rd (.var 0) (.var 17001) 0) (.i (.lit 1) (.i (.rd (.var 0) (.var 17001) 1) (.i (.rd (.var 0) (.var 17001) 2) (.i (.rd (.var 0) (.var 17001) 3) (.x .nil (.i (.rd (.var 0) (.var 17001) 4) (.i (.lit 0) (.x .nil .nil))))))))))))))))))) (.lit 0))
 (.ite (.fn 160 (.x (.fn 1 (.x (.var 0) (.x (.var 1) .nil))) (.i (.rd (.var 0) (.var 17001) 0) .nil)))
 (.next 1 ⟨[(1, (.ar .add .i64 (.var 17001) (.lit 1)))], [(0, (.eqb (.fn 160 (.x (.fn 1 (.x (.app (.var 0) (.app (.row (.i (.var 2) (.i (.var 3) (.i (.var 4) (.i (.var 5) (.i (.var 6) (.i (.var 7) (.i (.var 8) .nil)))))))) .nil)) (.x (.var 1) .nil))) (.i (.rd (.var 0) (.var 17001) 0) .nil))) (.not (.fn 119 (.i (.var 2) (.i (.lit 1) (.i (.var 3) (.i (.var 4) (.i (.var 5) (.x .nil (.i (.var 6) (.i (.lit 0) (.x .nil (.i (.rd (.var 0) (.var 17001) 0) (.i (.lit 1) (.i (.rd (.var 0) (.var 17001) 1) (.i (.rd (.var 0) (.var 17001) 2) (.i (.rd (.var 0) (.var 17001) 3) (.x .nil (.i (.rd (.var 0) (.var 17001) 4) (.i (.lit 0) (.x .nil .nil))))))))))))))))))))))], []⟩)
 (.next 1 ⟨[(1, (.ar .add .i64 (.var 17001) (.lit 1)))], [(0, (.not (.fn 160 (.x (.fn 1 (.x (.app (.var 0) (.app (.row (.i (.var 2) (.i (.var 3) (.i (.var 4) (.i (.var 5) (.i (.var 6) (.i (.var 7) (.i (.var 8) .nil)))))))) .nil)) (.x (.var 1) .nil))) (.i (.rd (.var 0) (.var 17001) 0) .nil)))))], []⟩))
 (.next 1 ⟨[(1, (.ar .add .i64 (.var 17001) (.lit 1)))], [(0, (.lit false))], []⟩))
 (.next 1 ⟨[(1, (.ar .add .i64 (.var 17001) (.lit 1)))], [(0, (.lit false))], []⟩))))
 (.ite (.var 17000)
 (.ite (.cmp .eql (.fn 160 (.x (.app (.var 0) (.app (.row (.i (.var 2) (.i (.var 3) (.i (.var 4) (.i (.var 5) (.i (.var 6) (.i (.var 7) (.i (.var 8) .nil)))))))) .nil)) (.x (.var 1) .nil))) (.lit 0))
 (.ret ((.v (.one (.z (.bool (.fn 160 (.x (.fn 1 (.x (.app (.var 0) (.app (.row (.i (.var 2) (.i (.var 3) (.i (.var 4) (.i (.var 5) (.i (.var 6) (.i (.var 7) (.i (.var 8) .nil)))))))) .nil)) (.x (.var 1) .nil))) (.i (.var 2) .nil))))))), [], 22))
 (.ret ((.v (.one (.z (.bool (.lit false))))), [], 22)))
 (.ret ((.v (.one (.z (.bool (.lit false))))), [], 22)))))))))))
 (.ret ((.v (.one (.z (.bool (.lit true))))), [], 9)))
 (.ret ((.v (.one (.z (.bool (.lit true))))), [], 9)))
 (.ret ((.v (.one (.z (.bool (.lit true))))), [], 9)))
 (.ret ((.v (.one (.z (.bool (.lit true))))), [], 9)))
 (.ret ((.v (.one (.z (.bool (.lit true))))), [], 9)))
 (.ret ((.v (.one (.z (.bool (.lit true))))), [], 9)))
 (.ret ((.v (.one (.z (.bool (.lit true))))), [], 9)))
 (.ret ((.v (.one (.z (.bool (.lit true))))), [], 9)))
 (.ret ((.v (.one (.z (.bool (.lit true))))), [], 9)))
 (.ret ((.v (.one (.z (.bool (.lit true))))), [], 9)))
 (.ret ((.v (.one (.z (.bool (.lit true))))), [], 9)))))))))))
 (.ret ((.v (.one (.z (.bool (.lit true))))), [], 4)))
set_option maxRecDepth 100000 in
theorem trLawNew_is : T.norm 0 (call Tryz.prog ctV4 (Lt.of []) 150 10 (symArgs 0 [suv, snd]) [] 0) TT.ret = trLawNew := by kernel_rfl
theorem trLawNew_low : trLawNew.low 1000 = true := by kernel_rfl
end Go.Proofs.YtldbejmgalhdaaaGreat
/- Chapter 09: the law SurveyNew. -/
namespace Go.Proofs.YtldbejmgalhdaaaGreat
open Go.RowKit
theorem cur_new {s : Rows} {x y : List D} (hx : ∀ z ∈ s, latB x z = true) (hy : y ∈ s) : y ∈ curR (s ++ [x]) ↔ y ∈ curR s ∧ byB x y = false := by
  rw [cur_mem, cur_mem, repl_not, repl_not]
  constructor
  · rintro ⟨_, h⟩
    exact ⟨⟨hy, fun z hz => h z (List.mem_append_left _ hz)⟩, h x (by simp)⟩
  · rintro ⟨⟨_, h1⟩, h2⟩
    refine ⟨List.mem_append_left _ hy, fun z hz => ?_⟩
    rcases List.mem_append.1 hz with h | h
    · exact h1 z h
    · rw [List.mem_singleton.1 h]; exact h2
theorem cur_last {s : Rows} {x : List D} (hx : ∀ z ∈ s, latB x z = true) : x ∈ curR (s ++ [x]) := by
  rw [cur_mem, repl_not]
  refine ⟨by simp, fun z hz => ?_⟩
  cases q : byB z x with
  | false => rfl
  | true =>
    have h1 := by_lat q
    rcases List.mem_append.1 hz with h | h
    · have := lat_trans h1 (hx z h)
      rw [lat_self] at this; cases this
    · rw [List.mem_singleton.1 h, lat_self] at h1; cases h1
theorem KVdb150 (W : World) (ds l : List D) : (envOf KVd W ds).fb 150 l = surL l := by simp only [envOf, KVd, KVc, KVb]
theorem KVdb119 (W : World) (ds l : List D) : (envOf KVd W ds).fb 119 l = feHoR l := by simp only [envOf, KVd, KVc, KVb, KVa, K80, K79, K78, K77, K76]
set_option maxHeartbeats 2000000 in
theorem gLawNew : Gives Tryz.prog 10 [suv, snd] (fun _ => .bool true) := by
  refine GivesIf.all (fn_gives KVd (by kernel_rfl) (fun ρ h => ctV4_ok (Sees.of h 180) (SeesD.of h 4)) (by kernel_rfl) trLawNew_is trLawNew_low (by decide) (fun W vals ds hr _ => ?_))
  simp only [trLawNew, TT.sat_ret, TT.sat_ite, TT.sat_ob, TT.sat_next, TT.sat_stuck, put_i, put_b, put_d, put_fi, put_fb, put_fd, Ob.ok, B.ev, E.ev, X.ev, AL.ev, cmp_t, cmp_f, arEv, V.plain, V2.plain, S.plain, S0.plain, V.val, V2.val, S.val, S0.val, bV, iV, List.all_cons, List.all_nil, Bool.and_true, Bool.and_self, envOf_i, envOf_b, envOf_d, List.map_cons, List.map_nil, true_and, Bool.not_eq_true', Bool.not_eq_false', Bool.not_not, Bool.and_eq_true, and_f, cell_lg, cell_lb, cell_lr, cmpP, val_i, val_b, val_d, aget, Nat.reduceBEq, beq_self_eq_true, Bool.false_eq_true, if_true, if_false, Nat.reduceLT, Nat.reduceSub, Nat.sub_self, Nat.lt_irrefl, KVdi160, KVdd1, sce_two, ids_two]
  have hw := suv_rows hr
  have hd : ∀ j, 2 ≤ j → j < 9 → True := fun _ _ _ => trivial
  clear hr
  generalize e0 : rAt ds 0 = s at *
  generalize e1 : rAt ds 1 = F at *
  refine ⟨fun h16 => ⟨fun _ => trivial, fun h12 => ⟨fun _ => trivial, fun hE => ?_⟩⟩, fun _ => trivial⟩
  have hv : surB s F = true := by
    by_cases q : surB s F = true
    · exact q
    · rw [if_neg q] at hE; omega
  clear hE
  obtain ⟨⟨f1, f2⟩, f3, f4, f5⟩ := sur_iff.1 hv
  have hsnd : ∀ x ∈ s, sndR9 x = true := fun x hx => (f3 x hx).1
  (repeat' (first | with_reducible exact trivial | with_reducible apply And.intro | with_reducible intro _))
  refine TT.sat_loop (fun v => ∃ i : Nat, v.i 0 = i ∧ i ≤ s.length ∧ ∀ (k : Nat) (hk : k < s.length), k < i → cI s[k] 0 < iAt ds 2 ∧ cI s[k] 6 ≤ iAt ds 8) (fun v => s.length - (v.i 0).toNat)
    ⟨0, by simp [val_i, aget, E.ev], by omega, fun k hk h => by omega⟩ (fun v hv0 => ?_)
  obtain ⟨i, i0, i1, i2⟩ := hv0
  obtain ⟨x, hx⟩ : ∃ x : List D, x = [.i (iAt ds 2), .i (iAt ds 3), .i (iAt ds 4), .i (iAt ds 5), .i (iAt ds 6), .i (iAt ds 7), .i (iAt ds 8)] := ⟨_, rfl⟩
  simp only [TT.sat_ret, TT.sat_ite, TT.sat_ob, TT.sat_next, TT.sat_stuck, put_i, put_b, put_d, put_fi, put_fb, put_fd, Ob.ok, B.ev, E.ev, X.ev, AL.ev, cmp_t, cmp_f, arEv, V.plain, V2.plain, S.plain, S0.plain, V.val, V2.val, S.val, S0.val, bV, iV, List.all_cons, List.all_nil, Bool.and_true, Bool.and_self, envOf_i, envOf_b, envOf_d, List.map_cons, List.map_nil, true_and, Bool.not_eq_true', Bool.not_eq_false', Bool.not_not, Bool.and_eq_true, and_f, cell_lg, cell_lb, cell_lr, cmpP, val_i, val_b, val_d, aget, Nat.reduceBEq, beq_self_eq_true, Bool.false_eq_true, if_true, if_false, Nat.reduceLT, Nat.reduceSub, Nat.sub_self, Nat.lt_irrefl, i0, e0, e1, KVdb150, sur_two, KVdi160, sce_two, ← hx, List.append_nil]
  have x0 : cI x 0 = iAt ds 2 := by rw [hx]; rfl
  have x1 : cI x 1 = iAt ds 3 := by rw [hx]; rfl
  have x2 : cI x 2 = iAt ds 4 := by rw [hx]; rfl
  have x3 : cI x 3 = iAt ds 5 := by rw [hx]; rfl
  have x4 : cI x 4 = iAt ds 6 := by rw [hx]; rfl
  have x6 : cI x 6 = iAt ds 8 := by rw [hx]; rfl
  simp only [← x0, ← x1, ← x2, ← x3, ← x4, ← x6] at i2 ⊢
  refine ⟨fun hc => ?_, fun hc => ?_⟩
  · have hi : i < s.length := by omega
    rw [wrap_in ((i : Int) + 1) (by omega) (by omega), lg_cI hi, lg_cI hi]
    refine ⟨by omega, by omega, fun _ => trivial, fun a => ⟨fun _ => trivial, fun b => ⟨⟨i + 1, rfl, by omega, fun k hk h => ?_⟩, by omega⟩⟩⟩
    by_cases e : k = i
    · subst e; omega
    · exact i2 k hk (by omega)
  · have hlen : (s ++ [x]).length = s.length + 1 := by simp
    rw [hlen]
    refine ⟨by omega, by omega, fun h => ?_, fun h => ?_⟩
    · rw [h]; simp only [Bool.false_eq_true, if_false]; rfl
    obtain ⟨⟨g1, g2⟩, g3, g4, g5⟩ := sur_iff.1 h
    have hlat : ∀ z ∈ s, latB x z = true := fun z hz => by
      obtain ⟨k, hk, rfl⟩ := List.getElem_of_mem hz
      have := i2 k hk (by omega)
      rw [lat_iff]; omega
    have hxs : sndR9 x = true := (g3 x (by simp)).1
    refine TT.sat_loop (fun v => ∃ i : Nat, v.i 1 = i ∧ i ≤ s.length ∧ v.b 0 = true) (fun v => s.length - (v.i 1).toNat)
      ⟨0, by simp [val_i, aget, E.ev], by omega, by simp [val_b, aget, B.ev]⟩ (fun t ht => ?_)
    obtain ⟨j, j0, j1, j2⟩ := ht
    simp only [TT.sat_ret, TT.sat_ite, TT.sat_ob, TT.sat_next, TT.sat_stuck, put_i, put_b, put_d, put_fi, put_fb, put_fd, Ob.ok, B.ev, E.ev, X.ev, AL.ev, cmp_t, cmp_f, arEv, V.plain, V2.plain, S.plain, S0.plain, V.val, V2.val, S.val, S0.val, bV, iV, List.all_cons, List.all_nil, Bool.and_true, Bool.and_self, envOf_i, envOf_b, envOf_d, List.map_cons, List.map_nil, true_and, Bool.not_eq_true', Bool.not_eq_false', Bool.not_not, Bool.and_eq_true, and_f, cell_lg, cell_lb, cell_lr, cmpP, val_i, val_b, val_d, aget, Nat.reduceBEq, beq_self_eq_true, Bool.false_eq_true, if_true, if_false, Nat.reduceLT, Nat.reduceSub, Nat.sub_self, Nat.lt_irrefl, j0, j2, e0, e1, KVdi160, sce_two, KVdb160, KVdd1, ids_two, has_two, KVdi119, KVdb119, ← hx, List.append_nil, hv, h]
    simp only [← x0, ← x1, ← x2, ← x3, ← x4, ← x6]
    refine ⟨fun hcj => ?_, fun hcj => ?_⟩
    · have hj : j < s.length := by omega
      have hjm := List.getElem_mem hj
      have hjm' : s[j] ∈ s ++ [x] := List.mem_append_left _ hjm
      rw [wrap_in ((j : Int) + 1) (by omega) (by omega)]
      have GOOD : ∀ p : Prop, p → (∃ i : Nat, (j : Int) + 1 = i ∧ i ≤ s.length ∧ p) ∧ s.length - ((j : Int) + 1).toNat < s.length - (j : Int).toNat := fun p hp => ⟨⟨j + 1, rfl, by omega, hp⟩, by omega⟩
      simp only [lg_cI hj, fe_snd hxs (hsnd _ hjm)]
      have hB : byB x s[j] = feHoR [.i (cI x 0), .i 1, .i (cI x 1), .i (cI x 2), .i (cI x 3), .l [], .i (cI x 4), .i 0, .l [], .i (cI s[j] 0), .i 1, .i (cI s[j] 1), .i (cI s[j] 2), .i (cI s[j] 3), .l [], .i (cI s[j] 4), .i 0, .l []] := ((by_of rfl).1 (lat_iff.1 (hlat _ hjm)))
      generalize feHoR _ = H at *
      have hN := has_ids g4 hjm'
      have hO := has_ids f4 hjm
      rw [cur_new hlat hjm, hB, ← hO] at hN
      generalize hasB9 (idsS (s ++ [x])) (cI s[j] 0) = P at *
      generalize hasB9 (idsS s) (cI s[j] 0) = Q at *
      cases H <;> cases P <;> cases Q <;> simp at hN <;> simp <;> exact ⟨hj, ⟨j + 1, rfl, by omega⟩, by omega⟩
    · have hlast : hasB9 (idsS (s ++ [x])) (cI x 0) = true := (has_ids g4 (by simp)).2 (cur_last hlat)
      simp [hlast]
end Go.Proofs.YtldbejmgalhdaaaGreat
