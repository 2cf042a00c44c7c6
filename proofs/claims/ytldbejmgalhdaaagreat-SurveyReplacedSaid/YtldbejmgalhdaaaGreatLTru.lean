/- LTru, merged: TVv, Vv. -/
import Derived.Test.YtldbejmgalhdaaaGreatLLea
set_option linter.unusedSimpArgs false
set_option linter.unusedVariables false
/- Chapter 09: the tree of the law SurveyTrue. -/
namespace Go.Proofs.YtldbejmgalhdaaaGreat
open Go.RowKit
def trLawTru : TT OpR :=
(.ite (.cmp .leq (.len (.var 0)) (.lit 16))
 (.ite (.not (.cmp .leq (.len (.var 1)) (.lit 12)))
 (.ret ((.v (.one (.z (.bool (.lit true))))), [], 3))
 (.ite (.cmp .neq (.fn 170 (.x (.var 0) (.x (.var 1) (.i (.var 2) (.i (.var 3) (.i (.var 4) .nil)))))) (.lit 0))
 (.ret ((.v (.one (.z (.bool (.cmp .eql (.fn 170 (.x (.var 0) (.x (.var 1) (.i (.var 2) (.i (.var 3) (.i (.var 4) .nil)))))) (.fn 181 (.x (.var 0) (.x (.var 1) (.i (.var 2) (.i (.var 3) .nil)))))))))), [], 4))
 (.ite (.not (.fn 170 (.x (.var 0) (.x (.var 1) (.i (.var 2) (.i (.var 3) (.i (.var 4) .nil)))))))
 (.ret ((.v (.one (.z (.bool (.cmp .eql (.fn 170 (.x (.var 0) (.x (.var 1) (.i (.var 2) (.i (.var 3) (.i (.var 4) .nil)))))) (.fn 181 (.x (.var 0) (.x (.var 1) (.i (.var 2) (.i (.var 3) .nil)))))))))), [], 4))
 (.loop 0 5000 ⟨[(1, (.lit 0))], [(2, (.lit true)), (0, (.lit false))], []⟩
 (.ite (.cmp .lss (.var 5001) (.len (.fn 2 (.x (.var 0) (.x (.var 1) .nil)))))
 (.ob (.tru (.cmp .leq (.lit 0) (.var 5001)))
 (.ob (.tru (.cmp .lss (.var 5001) (.len (.fn 2 (.x (.var 0) (.x (.var 1) .nil))))))
 (.ite (.var 5002)
 (.ite (.cmp .eql (.fn 78 (.i (.rd (.fn 2 (.x (.var 0) (.x (.var 1) .nil))) (.var 5001) 0) (.i (.rd (.fn 2 (.x (.var 0) (.x (.var 1) .nil))) (.var 5001) 1) (.i (.rd (.fn 2 (.x (.var 0) (.x (.var 1) .nil))) (.var 5001) 2) (.i (.rd (.fn 2 (.x (.var 0) (.x (.var 1) .nil))) (.var 5001) 3) (.i (.rd (.fn 2 (.x (.var 0) (.x (.var 1) .nil))) (.var 5001) 4) (.x (.rd (.fn 2 (.x (.var 0) (.x (.var 1) .nil))) (.var 5001) 5) (.i (.rd (.fn 2 (.x (.var 0) (.x (.var 1) .nil))) (.var 5001) 6) (.i (.rd (.fn 2 (.x (.var 0) (.x (.var 1) .nil))) (.var 5001) 7) (.x (.rd (.fn 2 (.x (.var 0) (.x (.var 1) .nil))) (.var 5001) 8) (.i (.var 2) (.i (.var 3) .nil)))))))))))) (.lit 0))
 (.ite (.not (.fn 78 (.i (.rd (.fn 2 (.x (.var 0) (.x (.var 1) .nil))) (.var 5001) 0) (.i (.rd (.fn 2 (.x (.var 0) (.x (.var 1) .nil))) (.var 5001) 1) (.i (.rd (.fn 2 (.x (.var 0) (.x (.var 1) .nil))) (.var 5001) 2) (.i (.rd (.fn 2 (.x (.var 0) (.x (.var 1) .nil))) (.var 5001) 3) (.i (.rd (.fn 2 (.x (.var 0) (.x (.var 1) .nil))) (.var 5001) 4) (.x (.rd (.fn 2 (.x (.var 0) (.x (.var 1) .nil))) (.var 5001) 5) (.i (.rd (.fn 2 (.x (.var 0) (.x (.var 1) .nil))) (.var 5001) 6) (.i (.rd (.fn 2 (.x (.var 0) (.x (.var 1) .nil))) (.var 5001) 7) (.x (.rd (.fn 2 (.x (.var 0) (.x (.var 1) .nil))) (.var 5001) 8) (.i (.var 2) (.i (.var 3) .nil)))))))))))))
 (.ite (.var 5000)
 (.next 0 ⟨[(1, (.ar .add .i64 (.var 5001) (.lit 1)))], [(2, (.lit true)), (0, (.lit true))], []⟩)
 (.next 0 ⟨[(1, (.ar .add .i64 (.var 5001) (.lit 1)))], [(2, (.lit true)), (0, (.fn 78 (.i (.rd (.fn 2 (.x (.var 0) (.x (.var 1) .nil))) (.var 5001) 0) (.i (.rd (.fn 2 (.x (.var 0) (.x (.var 1) .nil))) (.var 5001) 1) (.i (.rd (.fn 2 (.x (.var 0) (.x (.var 1) .nil))) (.var 5001) 2) (.i (.rd (.fn 2 (.x (.var 0) (.x (.var 1) .nil))) (.var 5001) 3) (.i (.rd (.fn 2 (.x (.var 0) (.x (.var 1) .nil))) (.var 5001) 4) (.x (.rd (.fn 2 (.x (.var 0) (.x (.var 1) .nil))) (.var 5001) 5) (.i (.rd (.fn 2 (.x (.var 0) (.x (.var 1) .nil))) (.var 5001) 6) (.i (.rd (.fn 2 (.x (.var 0) (.x (.var 1) .nil))) (.var 5001) 7) (.x (.rd (.fn 2 (.x (.var 0) (.x (.var 1) .nil))) (.var 5001) 8) (.i (.var 2) (.i (.var 3) .nil)))))))))))))], []⟩))
 (.ite (.var 5000)
 (.next 0 ⟨[(1, (.ar .add .i64 (.var 5001) (.lit 1)))], [(2, (.cmp .leq (.rd (.fn 2 (.x (.var 0) (.x (.var 1) .nil))) (.var 5001) 6) (.var 4))), (0, (.lit true))], []⟩)
 (.next 0 ⟨[(1, (.ar .add .i64 (.var 5001) (.lit 1)))], [(2, (.cmp .leq (.rd (.fn 2 (.x (.var 0) (.x (.var 1) .nil))) (.var 5001) 6) (.var 4))), (0, (.fn 78 (.i (.rd (.fn 2 (.x (.var 0) (.x (.var 1) .nil))) (.var 5001) 0) (.i (.rd (.fn 2 (.x (.var 0) (.x (.var 1) .nil))) (.var 5001) 1) (.i (.rd (.fn 2 (.x (.var 0) (.x (.var 1) .nil))) (.var 5001) 2) (.i (.rd (.fn 2 (.x (.var 0) (.x (.var 1) .nil))) (.var 5001) 3) (.i (.rd (.fn 2 (.x (.var 0) (.x (.var 1) .nil))) (.var 5001) 4) (.x (.rd (.fn 2 (.x (.var 0) (.x (.var 1) .nil))) (.var 5001) 5) (.i (.rd (.fn 2 (.x (.var 0) (.x (.var 1) .nil))) (.var 5001) 6) (.i (.rd (.fn 2 (.x (.var 0) (.x (.var 1) .nil))) (.var 5001) 7) (.x (.rd (.fn 2 (.x (.var 0) (.x (.var 1) .nil))) (.var 5001) 8) (.i (.var 2) (.i (.var 3) .nil)))))))))))))], []⟩)))
 (.ite (.var 5000)
 (.next 0 ⟨[(1, (.ar .add .i64 (.var 5001) (.lit 1)))], [(2, (.lit false)), (0, (.lit true))], []⟩)
 (.next 0 ⟨[(1, (.ar .add .i64 (.var 5001) (.lit 1)))], [(2, (.lit false)), (0, (.fn 78 (.i (.rd (.fn 2 (.x (.var 0) (.x (.var 1) .nil))) (.var 5001) 0) (.i (.rd (.fn 2 (.x (.var 0) (.x (.var 1) .nil))) (.var 5001) 1) (.i (.rd (.fn 2 (.x (.var 0) (.x (.var 1) .nil))) (.var 5001) 2) (.i (.rd (.fn 2 (.x (.var 0) (.x (.var 1) .nil))) (.var 5001) 3) (.i (.rd (.fn 2 (.x (.var 0) (.x (.var 1) .nil))) (.var 5001) 4) (.x (.rd (.fn 2 (.x (.var 0) (.x (.var 1) .nil))) (.var 5001) 5) (.i (.rd (.fn 2 (.x (.var 0) (.x (.var 1) .nil))) (.var 5001) 6) (.i (.rd (.fn 2 (.x (.var 0) (.x (.var 1) .nil))) (.var 5001) 7) (.x (.rd (.fn 2 (.x (.var 0) (.x (.var 1) .nil))) (.var 5001) 8) (.i (.var 2) (.i (.var 3) .nil)))))))))))))], []⟩)))
 (.ite (.var 5000)
 (.next 0 ⟨[(1, (.ar .add .i64 (.var 5001) (.lit 1)))], [(2, (.lit false)), (0, (.lit true))], []⟩)
 (.next 0 ⟨[(1, (.ar .add .i64 (.var 5001) (.lit 1)))], [(2, (.lit false)), (0, (.fn 78 (.i (.rd (.fn 2 (.x (.var 0) (.x (.var 1) .nil))) (.var 5001) 0) (.i (.rd (.fn 2 (.x (.var 0) (.x (.var 1) .nil))) (.var 5001) 1) (.i (.rd (.fn 2 (.x (.var 0) (.x (.var 1) .nil))) (.var 5001) 2) (.i (.rd (.fn 2 (.x (.var 0) (.x (.var 1) .nil))) (.var 5001) 3) (.i (.rd (.fn 2 (.x (.var 0) (.x (.var 1) .nil))) (.var 5001) 4) (.x (.rd (.fn 2 (.x (.var 0) (.x (.var 1) .nil))) (.var 5001) 5) (.i (.rd (.fn 2 (.x (.var 0) (.x (.var 1) .nil))) (.var 5001) 6) (.i (.rd (.fn 2 (.x (.var 0) (.x (.var 1) .nil))) (.var 5001) 7) (.x (.rd (.fn 2 (.x (.var 0) (.x (.var 1) .nil))) (.var 5001) 8) (.i (.var 2) (.i (.var 3) .nil)))))))))))))], []⟩)))))
 (.ite (.var 5002)
 (.ite (.cmp .eql (.fn 181 (.x (.var 0) (.x (.var 1) (.i (.var 2) (.i (.var 3) .nil))))) (.lit 0))
 (.ite (.cmp .eql (.fn 160 (.x (.var 0) (.x (.var 1) .nil))) (.lit 0))
 (.ite (.var 5000)
 (.ite (.cmp .leq (.fn 180 (.x (.var 0) (.x (.var 1) (.i (.var 2) (.i (.var 3) .nil))))) (.var 4))
 (.ite (.cmp .geq (.var 4) (.lit 0))
 (.ret ((.v (.one (.z (.bool (.cmp .leq (.var 4) (.lit 100000)))))), [], 6))
 (.ret ((.v (.one (.z (.bool (.lit false))))), [], 6)))
 (.ite (.not (.var 5000))
 (.ite (.cmp .eql (.fn 180 (.x (.var 0) (.x (.var 1) (.i (.var 2) (.i (.var 3) .nil))))) (.lit 100000))
 (.ite (.cmp .geq (.var 4) (.lit 0))
 (.ret ((.v (.one (.z (.bool (.cmp .leq (.var 4) (.lit 100000)))))), [], 6))
 (.ret ((.v (.one (.z (.bool (.lit false))))), [], 6)))
 (.ret ((.v (.one (.z (.bool (.lit false))))), [], 6)))
 (.ret ((.v (.one (.z (.bool (.lit false))))), [], 6))))
 (.ite (.not (.var 5000))
 (.ite (.cmp .eql (.fn 180 (.x (.var 0) (.x (.var 1) (.i (.var 2) (.i (.var 3) .nil))))) (.lit 100000))
 (.ite (.cmp .geq (.var 4) (.lit 0))
 (.ret ((.v (.one (.z (.bool (.cmp .leq (.var 4) (.lit 100000)))))), [], 6))
 (.ret ((.v (.one (.z (.bool (.lit false))))), [], 6)))
 (.ret ((.v (.one (.z (.bool (.lit false))))), [], 6)))
 (.ret ((.v (.one (.z (.bool (.lit false))))), [], 6))))
 (.ret ((.v (.one (.z (.bool (.lit false))))), [], 6)))
 (.ret ((.v (.one (.z (.bool (.lit false))))), [], 6)))
 (.ret ((.v (.one (.z (.bool (.lit false))))), [], 6))))))))
 (.ret ((.v (.one (.z (.bool (.lit true))))), [], 3)))
def trLawTru_h : List (Nat × St) := [
(4, ⟨(List.append [(.v (.agg [(.z (.ext sndK (.var 0) false)), (.z (.ext featK (.var 1) false))])), (.v (.agg [(.z (.int .i64 (.var 2))), (.z (.int .i64 (.var 3)))])), (.v (.one (.z (.int .i64 (.var 4))))), (.v (.one (.z (.ptr 0 0)))), (.v (.one (.z (.ptr 1 0)))), (.v (.one (.z .any))), (.v (.one (.z (.bool (.lit false))))), (.v (.one (.z (.bool (.var 5002))))), (.v (.one (.z (.bool (.fn 170 (.x (.var 0) (.x (.var 1) (.i (.var 2) (.i (.var 3) (.i (.var 4) .nil)))))))))), (.v (.one (.z (.int .i64 (.fn 170 (.x (.var 0) (.x (.var 1) (.i (.var 2) (.i (.var 3) (.i (.var 4) .nil)))))))))), (.v (.one (.z (.int .i64 (.fn 180 (.x (.var 0) (.x (.var 1) (.i (.var 2) (.i (.var 3) .nil))))))))), (.v (.one (.z (.int .i64 (.fn 181 (.x (.var 0) (.x (.var 1) (.i (.var 2) (.i (.var 3) .nil))))))))), (.v (.one (.z (.own 3 (.lit 0))))), (.v (.one (.z (.int .i64 (.fn 160 (.x (.var 0) (.x (.var 1) .nil))))))), (.v (.one (.z (.bool (.var 5000)))))] (List.append (List.replicate 4 V.any) (List.append [(.v (.one (.z (.bool (.lit true))))), (.v (.agg [(.z (.ext sndK (.var 0) false)), (.z (.ext featK (.var 1) false))])), (.v (.one (.z (.bool (.cmp .leq (.len (.var 1)) (.lit 12)))))), (.v (.one (.z (.bool (.not (.cmp .leq (.len (.var 1)) (.lit 12))))))), (.v (.one (.z .any))), (.v (.one (.z .any))), (.v (.agg [(.z (.ext sndK (.var 0) false)), (.z (.ext featK (.var 1) false))])), (.v (.agg [(.z (.int .i64 (.var 2))), (.z (.int .i64 (.var 3)))])), (.v (.one (.z (.int .i64 (.var 4))))), (.v (.one (.z .any))), (.v (.one (.z (.bool (.fn 170 (.x (.var 0) (.x (.var 1) (.i (.var 2) (.i (.var 3) (.i (.var 4) .nil)))))))))), (.v (.one (.z (.int .i64 (.fn 170 (.x (.var 0) (.x (.var 1) (.i (.var 2) (.i (.var 3) (.i (.var 4) .nil)))))))))), (.v (.one (.z .any))), (.v (.agg [(.z (.ext sndK (.var 0) false)), (.z (.ext featK (.var 1) false))])), (.v (.agg [(.z (.int .i64 (.var 2))), (.z (.int .i64 (.var 3)))])), (.v (.one (.z .any))), (.v (.one (.z (.int .i64 (.fn 180 (.x (.var 0) (.x (.var 1) (.i (.var 2) (.i (.var 3) .nil))))))))), (.v (.one (.z (.int .i64 (.fn 181 (.x (.var 0) (.x (.var 1) (.i (.var 2) (.i (.var 3) .nil))))))))), (.v (.one (.z .any))), (.v (.agg [(.z (.ext sndK (.var 0) false)), (.z (.ext featK (.var 1) false))])), (.v (.one (.z .any))), (.v (.one (.z (.own 3 (.lit 0))))), (.v (.one (.z (.int .i64 (.fn 160 (.x (.var 0) (.x (.var 1) .nil))))))), (.v (.one (.z (.int .i64 (.fn 170 (.x (.var 0) (.x (.var 1) (.i (.var 2) (.i (.var 3) (.i (.var 4) .nil)))))))))), (.v (.one (.z (.bool (.cmp .neq (.fn 170 (.x (.var 0) (.x (.var 1) (.i (.var 2) (.i (.var 3) (.i (.var 4) .nil)))))) (.lit 0)))))), (.v (.one (.z (.bool (.lit false))))), (.v (.one (.z (.bool (.fn 170 (.x (.var 0) (.x (.var 1) (.i (.var 2) (.i (.var 3) (.i (.var 4) .nil)))))))))), (.v (.one (.z (.bool (.not (.fn 170 (.x (.var 0) (.x (.var 1) (.i (.var 2) (.i (.var 3) (.i (.var 4) .nil))))))))))), (.v (.one (.z (.bool (.not (.fn 170 (.x (.var 0) (.x (.var 1) (.i (.var 2) (.i (.var 3) (.i (.var 4) .nil)))))))))))] (List.append (List.replicate 6 V.any) (List.append [(.v (.one (.z (.own 3 (.lit 0))))), (.v (.one (.z (.int .i64 (.len (.fn 2 (.x (.var 0) (.x (.var 1) .nil)))))))), (.v (.one (.z (.int .i64 (.var 5001)))))] (List.replicate 62 V.any)))))), [(3, (.own 59 featK (.fn 2 (.x (.var 0) (.x (.var 1) .nil))) (.lit 0))), (1, (.cells 27 [(.z (.int .i64 (.var 2))), (.z (.int .i64 (.var 3)))])), (0, (.cells 25 [(.z (.ext sndK (.var 0) false)), (.z (.ext featK (.var 1) false))]))], 5, []⟩)]
def trLawTru_j : List (FuncId × Nat × Nat × St) := [
]
set_option maxRecDepth 100000 in
theorem trLawTru_is : T.norm 0 (call Tryz.prog ctV5 ⟨Lt.un (Lt.of [(6, 3000000)]), trLawTru_h, trLawTru_j⟩ 150 6 (symArgs 0 [suv, pt, it]) [] 0) TT.ret = trLawTru := by kernel_rfl
theorem trLawTru_low : trLawTru.low 1000 = true := by kernel_rfl
end Go.Proofs.YtldbejmgalhdaaaGreat
/- Chapter 09: the law SurveyTrue. -/
namespace Go.Proofs.YtldbejmgalhdaaaGreat
open Go.RowKit
theorem sho_spec9 {r : Rows} {px py : Int} : ∀ (f i : Nat) (m : Int), shoN r px py f i m ≤ m ∧ (∀ k : Nat, i ≤ k → k < i + f → covRow r k px py = true → shoN r px py f i m ≤ lg r k 6) ∧ ((∀ k : Nat, i ≤ k → k < i + f → covRow r k px py = false) → shoN r px py f i m = m)
  | 0, i, m => ⟨Int.le_refl _, fun k h1 h2 => by omega, fun _ => rfl⟩
  | f + 1, i, m => by
    obtain ⟨a, b, c⟩ := sho_spec9 (r := r) (px := px) (py := py) f (i + 1) (if lg r i 6 < m ∧ covRow r i px py = true then lg r i 6 else m)
    rw [shoN]
    refine ⟨?_, fun k h1 h2 h3 => ?_, fun h => ?_⟩
    · split at a <;> rename_i q
      · rw [if_pos q] at *; omega
      · rw [if_neg q] at *; omega
    · by_cases e : k = i
      · subst e
        by_cases q : lg r k 6 < m
        · rw [if_pos ⟨q, h3⟩] at a ⊢; exact a
        · rw [if_neg (fun x => q x.1)] at a ⊢; omega
      · exact b k (by omega) (by omega) h3
    · rw [if_neg (fun x => by rw [h i (Nat.le_refl _) (by omega)] at x; cases x.2)] at c ⊢
      exact c (fun k h1 h2 => h k (by omega) (by omega))
theorem cov_row9 {r : Rows} {k : Nat} (hk : k < r.length) {px py : Int} (hf : featR9 r[k] = true) (hp : placeB px py = true) (h9 : row9 r[k]) : covRow r k px py = covR9 r[k] px py := by
  have e : covR9 r[k] px py = ((featR9 r[k] && placeB px py) && covX (cI r[k] 1) (cI r[k] 2) (cI r[k] 3) (cI r[k] 4) (cR r[k] 5) px py) := by
    rw [← cov_row h9]; rfl
  rw [e, hf, hp]
  unfold covRow
  simp only [lg_cI hk, lr_cR hk]
  rfl
theorem ftr_row9 (x : List D) : row9 (ftr x) := rfl
theorem lst_four (s F : Rows) (x y : Int) : lstR [.l s, .l F, .i x, .i y] = if surB s F = true then shownR [.l (mdS s F), .i x, .i y] else 0 := rfl
theorem lste_four (s F : Rows) (x y : Int) : lstE [.l s, .l F, .i x, .i y] = if surB s F = true then shownE [.l (mdS s F), .i x, .i y] else 1 := rfl
theorem shown_three (r : Rows) (x y : Int) : shownR [.l r, .i x, .i y] = if (listB r && placeB x y) = true then shoN r x y r.length 0 100000 else 0 := rfl
theorem showe_three (r : Rows) (x y : Int) : shownE [.l r, .i x, .i y] = if (listB r && placeB x y) = true then 0 else 1 := rfl
theorem lst_alw (s F : Rows) (x y d : Int) : lstE [.l s, .l F, .i x, .i y] = alwE [.l s, .l F, .i x, .i y, .i d] := by
  rw [lste_four, alwe_five, showe_three]
  cases q : surB s F
  · rfl
  · rw [mdS_list q]; rfl
theorem alw_model {s F : Rows} {px py d : Int} (h : alwS s F px py d = true) {g : List D} (hg : g ∈ mdS s F) (hc : covR9 g px py = true) : cI g 6 ≤ d := by
  unfold alwS at h
  rw [Bool.and_eq_true, List.all_eq_true, List.all_eq_true] at h
  rcases mdS_mem.1 hg with hF | ⟨x, hx, rfl⟩
  · have := h.2 g hF
    unfold offF at this
    rw [hc] at this
    simp only [Bool.true_and, Bool.not_eq_true', decide_eq_false_iff_not] at this
    omega
  · have := h.1 x hx
    unfold offB at this
    rw [hc] at this
    simp only [Bool.true_and, Bool.not_eq_true', Bool.or_eq_false_iff, decide_eq_false_iff_not] at this
    have e : cI (ftr x) 6 = cI x 4 := rfl
    omega
theorem KVei160 (W : World) (ds l : List D) : (envOf KVe W ds).fi 160 l = scE l := by simp only [envOf, KVe, KVd, KVc]
theorem KVei170 (W : World) (ds l : List D) : (envOf KVe W ds).fi 170 l = alwE l := by simp only [envOf, KVe, KVd]
theorem KVeb170 (W : World) (ds l : List D) : (envOf KVe W ds).fb 170 l = alwR l := by simp only [envOf, KVe, KVd]
theorem KVei180 (W : World) (ds l : List D) : (envOf KVe W ds).fi 180 l = lstR l := by simp only [envOf, KVe]
theorem KVei181 (W : World) (ds l : List D) : (envOf KVe W ds).fi 181 l = lstE l := by simp only [envOf, KVe]
theorem KVed2 (W : World) (ds l : List D) : (envOf KVe W ds).fd 2 l = mdR l := by simp only [envOf, KVe, KVd]
theorem KVeb78 (W : World) (ds l : List D) : (envOf KVe W ds).fb 78 l = covR l := by simp only [envOf, KVe, KVd, KVc, KVb, KVa, K80, K79, K78, K77, K76, K75, K74, K73, K72, K71, KI, KH, KG]
theorem KVei78 (W : World) (ds l : List D) : (envOf KVe W ds).fi 78 l = covE l := by simp only [envOf, KVe, KVd, KVc, KVb, KVa, K80, K79, K78, K77, K76, K75, K74, K73, K72, K71, KI, KH, KG]
set_option maxHeartbeats 2000000 in
theorem gLawTru : Gives Tryz.prog 6 [suv, pt, it] (fun _ => .bool true) := by
  refine GivesIf.all (fn_gives KVe (by kernel_rfl) (fun ρ h => ctV5_ok (Sees.of h 190) (SeesD.of h 4)) (by kernel_rfl) trLawTru_is trLawTru_low (by decide) (fun W vals ds hr _ => ?_))
  have h9 := suv_feats hr
  simp only [trLawTru, TT.sat_ret, TT.sat_ite, TT.sat_ob, TT.sat_next, TT.sat_stuck, put_i, put_b, put_d, put_fi, put_fb, put_fd, Ob.ok, B.ev, E.ev, X.ev, AL.ev, cmp_t, cmp_f, arEv, V.plain, V2.plain, S.plain, S0.plain, V.val, V2.val, S.val, S0.val, bV, iV, List.all_cons, List.all_nil, Bool.and_true, Bool.and_self, envOf_i, envOf_b, envOf_d, List.map_cons, List.map_nil, true_and, Bool.not_eq_true', Bool.not_eq_false', Bool.not_not, Bool.and_eq_true, and_f, cell_lg, cell_lb, cell_lr, cmpP, val_i, val_b, val_d, aget, Nat.reduceBEq, beq_self_eq_true, Bool.false_eq_true, if_true, if_false, Nat.reduceLT, Nat.reduceSub, Nat.sub_self, Nat.lt_irrefl, KVei160, KVei170, KVeb170, KVei180, KVei181, sce_two, lst_alw _ _ _ _ (iAt ds 4)]
  clear hr
  generalize e0 : rAt ds 0 = s at *
  generalize e1 : rAt ds 1 = F at *
  generalize e2 : iAt ds 2 = px at *
  generalize e3 : iAt ds 3 = py at *
  generalize e4 : iAt ds 4 = d at *
  refine ⟨fun h16 => ⟨fun _ => trivial, fun h12 => ⟨fun hE => by simp [cmpEv], fun hE => ⟨fun hA => by simp [cmpEv], fun hA => ?_⟩⟩⟩, fun _ => trivial⟩
  rw [alw_five] at hA
  simp only [Bool.and_eq_true, decide_eq_true_eq] at hA
  obtain ⟨⟨hv, hp⟩, hd, hA⟩ := hA
  have hEE : alwE [.l s, .l F, .i px, .i py, .i d] = 0 := by rw [alwe_five, hv, hp]; rfl
  have hM := mdS_len s F
  have hl := cur_len s
  have hLi := mdS_list hv
  have hsp := sho_spec9 (r := mdS s F) (px := px) (py := py) (mdS s F).length 0 100000
  have hR : lstR [.l s, .l F, .i px, .i py] = shoN (mdS s F) px py (mdS s F).length 0 100000 := by
    rw [lst_four, if_pos hv, shown_three, hLi, hp]; rfl
  have hft : ∀ g ∈ mdS s F, featR9 g = true := fun g hg => ((list_iff.1 hLi).1 g hg).1
  have hr9 : ∀ g ∈ mdS s F, row9 g := fun g hg => by
    rcases mdS_mem.1 hg with h | ⟨x, hx, rfl⟩
    · exact h9 g h
    · exact ftr_row9 x
  refine TT.sat_loop (fun v => ∃ i : Nat, v.i 1 = i ∧ i ≤ (mdS s F).length ∧ v.b 2 = true ∧ (v.b 0 = true ↔ ∃ (k : Nat) (hk : k < (mdS s F).length), k < i ∧ covR9 (mdS s F)[k] px py = true)) (fun v => (mdS s F).length - (v.i 1).toNat)
    ⟨0, by simp [val_i, aget, E.ev], by omega, by simp [val_b, aget, B.ev], by simp [val_b, aget, B.ev]⟩ (fun v hv0 => ?_)
  obtain ⟨i, i0, i1, i2, i3⟩ := hv0
  simp only [TT.sat_ret, TT.sat_ite, TT.sat_ob, TT.sat_next, TT.sat_stuck, put_i, put_b, put_d, put_fi, put_fb, put_fd, Ob.ok, B.ev, E.ev, X.ev, AL.ev, cmp_t, cmp_f, arEv, V.plain, V2.plain, S.plain, S0.plain, V.val, V2.val, S.val, S0.val, bV, iV, List.all_cons, List.all_nil, Bool.and_true, Bool.and_self, envOf_i, envOf_b, envOf_d, List.map_cons, List.map_nil, true_and, Bool.not_eq_true', Bool.not_eq_false', Bool.not_not, Bool.and_eq_true, and_f, cell_lg, cell_lb, cell_lr, cmpP, val_i, val_b, val_d, aget, Nat.reduceBEq, beq_self_eq_true, Bool.false_eq_true, if_true, if_false, Nat.reduceLT, Nat.reduceSub, Nat.sub_self, Nat.lt_irrefl, i0, i2, e0, e1, e2, e3, e4, KVed2, KVeb78, KVei78, KVei180, KVei181, KVei160, mdr_two, hv, sce_two, lst_alw _ _ _ _ d, hEE, hR]
  refine ⟨fun hc => ?_, fun hc => ?_⟩
  · have hi : i < (mdS s F).length := by omega
    have hm1 := List.getElem_mem hi
    have hw1 : IntKind.i64.wrap ((i : Int) + 1) = ((i + 1 : Nat) : Int) := by rw [wrap_in _ (by omega) (by omega)]; rfl
    have hm : (mdS s F).length - (((i + 1 : Nat) : Int)).toNat < (mdS s F).length - (i : Int).toNat := by omega
    simp only [hw1, lg_cI hi, lr_cR hi, cov_row (hr9 _ hm1)]
    have hce : covE [.i (cI (mdS s F)[i] 0), .i (cI (mdS s F)[i] 1), .i (cI (mdS s F)[i] 2), .i (cI (mdS s F)[i] 3), .i (cI (mdS s F)[i] 4), .l (cR (mdS s F)[i] 5), .i (cI (mdS s F)[i] 6), .i (cI (mdS s F)[i] 7), .l (cR (mdS s F)[i] 8), .i px, .i py] = 0 := by
      show (if (featR9 (mdS s F)[i] && placeB px py) = true then (0 : Int) else 1) = 0
      rw [hft _ hm1, hp]; rfl
    have hmod := fun h => alw_model (px := px) (py := py) hA hm1 h
    simp only [hce]
    have NX : ∀ p : Prop, (p ↔ (v.b 0 = true ∨ covR9 (mdS s F)[i] px py = true)) → (p ↔ ∃ (k : Nat) (hk : k < (mdS s F).length), k < i + 1 ∧ covR9 (mdS s F)[k] px py = true) := fun p hp => by
      rw [hp, i3]
      constructor
      · rintro (⟨k, hk, h1, h2⟩ | h)
        · exact ⟨k, hk, by omega, h2⟩
        · exact ⟨i, hi, by omega, h⟩
      · rintro ⟨k, hk, h1, h2⟩
        by_cases e : k = i
        · subst e; exact .inr h2
        · exact .inl ⟨k, hk, by omega, h2⟩
    have NT : v.b 0 = true → (True ↔ ∃ (k : Nat) (hk : k < (mdS s F).length), k < i + 1 ∧ covR9 (mdS s F)[k] px py = true) := fun h => NX _ (by simp [h])
    have NC : v.b 0 = false → (covR9 (mdS s F)[i] px py = true ↔ ∃ (k : Nat) (hk : k < (mdS s F).length), k < i + 1 ∧ covR9 (mdS s F)[k] px py = true) := fun h => NX _ (by simp [h])
    clear NX hsp hft hr9 h9 i3
    (repeat' (first | with_reducible apply And.intro | with_reducible intro _))
    all_goals first
      | omega
      | contradiction
      | (refine ⟨i + 1, rfl, by omega, NT ?_⟩; assumption)
      | (refine ⟨i + 1, rfl, by omega, NC ?_⟩; assumption)
      | (refine ⟨i + 1, rfl, by omega, hmod ?_, NT ?_⟩ <;> assumption)
      | (refine ⟨i + 1, rfl, by omega, hmod ?_, NC ?_⟩ <;> assumption)
  · have hi : i = (mdS s F).length := by omega
    have hcov : v.b 0 = true → shoN (mdS s F) px py (mdS s F).length 0 100000 ≤ d := fun h => by
      obtain ⟨k, hk, _, hk2⟩ := i3.1 h
      have h1 := hsp.2.1 k (by omega) (by omega) (by rw [cov_row9 hk (hft _ (List.getElem_mem hk)) hp (hr9 _ (List.getElem_mem hk))]; exact hk2)
      have h2 := alw_model hA (List.getElem_mem hk) hk2
      rw [lg_cI hk] at h1
      omega
    have hnot : v.b 0 = false → shoN (mdS s F) px py (mdS s F).length 0 100000 = 100000 := fun h => hsp.2.2 (fun k _ hk => by
      have hk : k < (mdS s F).length := by omega
      rw [cov_row9 hk (hft _ (List.getElem_mem hk)) hp (hr9 _ (List.getElem_mem hk))]
      cases q : covR9 (mdS s F)[k] px py with
      | false => rfl
      | true => rw [i3.2 ⟨k, hk, by omega, q⟩] at h; cases h)
    clear hsp hft hr9 h9 i3
    generalize shoN _ _ _ _ _ _ = M at *
    cases q : v.b 0 with
    | true =>
      have := hcov q
      simp [this, hd, cmpEv]
    | false =>
      have := hnot q
      simp [this, hd, cmpEv]
end Go.Proofs.YtldbejmgalhdaaaGreat
