/- ME, merged: THd, He, TLa, Lt. -/
import Derived.Test.YtinfmmofcadjgaaMD
set_option linter.unusedSimpArgs false
set_option linter.unusedVariables false
/- Chapter 38: the tree of the law's head: the examples of the chapter. -/
namespace Go.Proofs.Ytinfmmofcadjgaa
open Go.RowKit
-- term trHead: call Try.prog ct7 [(36, 0)] 100 10 [] [] 0
def trHead : TT OpR :=
(.ret ((.v (.one (.z (.bool (.lit true))))), [], 28))
-- end trHead
set_option maxRecDepth 100000 in
theorem trHead_is : T.norm 0 (call Try.prog ct7 [(36, 0)] 100 10 [] [] 0) TT.ret = trHead := by kernel_rfl
theorem trHead_low : trHead.low 1000 = true := by kernel_rfl
end Go.Proofs.Ytinfmmofcadjgaa
/- Chapter 38: the law's head is true. -/
namespace Go.Proofs.Ytinfmmofcadjgaa
open Go.RowKit
theorem gHead : Gives Try.prog 10 [] (fun _ => .bool true) := by
  refine GivesIf.all (fn_gives K7 (by kernel_rfl) (fun ρ h => ct7_ok (Sees.of h 61)) (by kernel_rfl) trHead_is trHead_low (by decide) (fun W vals ds hr _ => ?_))
  simp only [trHead, TT.sat_ret, B.ev, V.plain, V2.plain, S.plain, S0.plain, V.val, V2.val, S.val, S0.val, true_and]
def cHead := ctD [] fun _ => .ret (bV (.lit true))
theorem cHead_ok {ρ : Env} : CtOne Try.prog ρ 10 cHead :=
  ctD_ok gHead (fun _ => rfl) (fun _ => rfl)
def ctHL : Ct := (10, cHead) :: ct7
theorem ctHL_ok {ρ : Env} (h : Sees ρ K7 61) : CtOk Try.prog ρ ctHL := .cons cHead_ok (ct7_ok h)
section
variable (W : World) (ds l : List D)
theorem K7i21 : (envOf K7 W ds).fi 21 l = arrL l := by simp only [envOf, K7, K6, K5, K]
theorem K7i22 : (envOf K7 W ds).fi 22 l = arrH l := by simp only [envOf, K7, K6, K5, K]
theorem K7i23 : (envOf K7 W ds).fi 23 l = arrE l := by simp only [envOf, K7, K6, K5, K]
theorem K7i24 : (envOf K7 W ds).fi 24 l = durL l := by simp only [envOf, K7, K6, K5, K]
theorem K7i25 : (envOf K7 W ds).fi 25 l = durH l := by simp only [envOf, K7, K6, K5, K]
theorem K7i26 : (envOf K7 W ds).fi 26 l = durE l := by simp only [envOf, K7, K6, K5, K]
theorem K7i27 : (envOf K7 W ds).fi 27 l = restK l := by simp only [envOf, K7, K6, K5, K]
theorem K7i28 : (envOf K7 W ds).fi 28 l = restE l := by simp only [envOf, K7, K6, K5, K]
theorem K7b20 : (envOf K7 W ds).fb 20 l = psgL l := by simp only [envOf, K7, K6, K5, K]
end
/-- A passage and a number. -/
def pk (a b c : Int) (r : Rows) (k : Int) : List D := [.i a, .i b, .i c, .l r, .i k]
theorem pk_eq (a b c : Int) (r : Rows) (k : Int) : [D.i a, .i b, .i c, .l r, .i k] = pk a b c r k := rfl
end Go.Proofs.Ytinfmmofcadjgaa
/- Chapter 38: trees of the laws. -/
namespace Go.Proofs.Ytinfmmofcadjgaa
open Go.RowKit
-- term trRestLaw: call Try.prog ctHL [] 100 4 (symArgs 0 [psg, it, it]) [] 0
def trRestLaw : TT OpR :=
(.ite (.cmp .neq (.fn 28 (.i (.var 0) (.i (.var 1) (.i (.var 2) (.x (.var 3) (.i (.var 4) .nil)))))) (.lit 0))
  (.ite (.cmp .eql (.fn 28 (.i (.var 0) (.i (.var 1) (.i (.var 2) (.x (.var 3) (.i (.var 4) .nil)))))) (.lit 1))
    (.ret ((.v (.one (.z (.bool (.lit true))))), [], 1))
    (.ret ((.v (.one (.z (.bool (.cmp .eql (.fn 28 (.i (.var 0) (.i (.var 1) (.i (.var 2) (.x (.var 3) (.i (.var 4) .nil)))))) (.lit 3)))))), [], 1)))
  (.ite (.cmp .lss (.fn 27 (.i (.var 0) (.i (.var 1) (.i (.var 2) (.x (.var 3) (.i (.var 4) .nil)))))) (.lit 0))
    (.ret ((.v (.one (.z (.bool (.lit false))))), [], 1))
    (.ite (.cmp .gtr (.fn 27 (.i (.var 0) (.i (.var 1) (.i (.var 2) (.x (.var 3) (.i (.var 4) .nil)))))) (.len (.var 3)))
      (.ret ((.v (.one (.z (.bool (.lit false))))), [], 1))
      (.ite (.cmp .gtr (.len (.var 3)) (.lit 40))
        (.ret ((.v (.one (.z (.bool (.lit false))))), [], 1))
        (.loop 0 2000 ⟨[(1, (.lit 0))], [(0, (.lit true))], []⟩
          (.ite (.cmp .lss (.var 2001) (.fn 27 (.i (.var 0) (.i (.var 1) (.i (.var 2) (.x (.var 3) (.i (.var 4) .nil)))))))
            (.ite (.var 2000)
              (.ite (.cmp .eql (.fn 26 (.i (.var 0) (.i (.var 1) (.i (.var 2) (.x (.var 3) (.i (.var 2001) .nil)))))) (.lit 0))
                (.next 0 ⟨[(1, (.ar .add .i64 (.var 2001) (.lit 1)))], [(0, (.cmp .lss (.fn 25 (.i (.var 0) (.i (.var 1) (.i (.var 2) (.x (.var 3) (.i (.var 2001) .nil)))))) (.var 4)))], []⟩)
                (.next 0 ⟨[(1, (.ar .add .i64 (.var 2001) (.lit 1)))], [(0, (.lit false))], []⟩))
              (.next 0 ⟨[(1, (.ar .add .i64 (.var 2001) (.lit 1)))], [(0, (.lit false))], []⟩))
            (.ite (.cmp .lss (.fn 27 (.i (.var 0) (.i (.var 1) (.i (.var 2) (.x (.var 3) (.i (.var 4) .nil)))))) (.len (.var 3)))
              (.ite (.var 2000)
                (.ite (.cmp .eql (.fn 26 (.i (.var 0) (.i (.var 1) (.i (.var 2) (.x (.var 3) (.i (.fn 27 (.i (.var 0) (.i (.var 1) (.i (.var 2) (.x (.var 3) (.i (.var 4) .nil)))))) .nil)))))) (.lit 0))
                  (.ite (.cmp .neq (.fn 28 (.i (.var 0) (.i (.var 1) (.i (.var 2) (.x (.var 3) (.i (.var 5) .nil)))))) (.lit 0))
                    (.ret ((.v (.one (.z (.bool (.cmp .geq (.fn 25 (.i (.var 0) (.i (.var 1) (.i (.var 2) (.x (.var 3) (.i (.fn 27 (.i (.var 0) (.i (.var 1) (.i (.var 2) (.x (.var 3) (.i (.var 4) .nil)))))) .nil)))))) (.var 4)))))), [], 4))
                    (.ite (.cmp .lss (.var 5) (.var 4))
                      (.ret ((.v (.one (.z (.bool (.cmp .geq (.fn 25 (.i (.var 0) (.i (.var 1) (.i (.var 2) (.x (.var 3) (.i (.fn 27 (.i (.var 0) (.i (.var 1) (.i (.var 2) (.x (.var 3) (.i (.var 4) .nil)))))) .nil)))))) (.var 4)))))), [], 4))
                      (.ite (.cmp .geq (.fn 25 (.i (.var 0) (.i (.var 1) (.i (.var 2) (.x (.var 3) (.i (.fn 27 (.i (.var 0) (.i (.var 1) (.i (.var 2) (.x (.var 3) (.i (.var 4) .nil)))))) .nil)))))) (.var 4))
                        (.ret ((.v (.one (.z (.bool (.cmp .geq (.fn 27 (.i (.var 0) (.i (.var 1) (.i (.var 2) (.x (.var 3) (.i (.var 5) .nil)))))) (.fn 27 (.i (.var 0) (.i (.var 1) (.i (.var 2) (.x (.var 3) (.i (.var 4) .nil))))))))))), [], 4))
                        (.ret ((.v (.one (.z (.bool (.lit false))))), [], 4)))))
                  (.ite (.cmp .neq (.fn 28 (.i (.var 0) (.i (.var 1) (.i (.var 2) (.x (.var 3) (.i (.var 5) .nil)))))) (.lit 0))
                    (.ret ((.v (.one (.z (.bool (.lit false))))), [], 4))
                    (.ite (.cmp .lss (.var 5) (.var 4))
                      (.ret ((.v (.one (.z (.bool (.lit false))))), [], 4))
                      (.ret ((.v (.one (.z (.bool (.lit false))))), [], 4)))))
                (.ite (.cmp .neq (.fn 28 (.i (.var 0) (.i (.var 1) (.i (.var 2) (.x (.var 3) (.i (.var 5) .nil)))))) (.lit 0))
                  (.ret ((.v (.one (.z (.bool (.lit false))))), [], 4))
                  (.ite (.cmp .lss (.var 5) (.var 4))
                    (.ret ((.v (.one (.z (.bool (.lit false))))), [], 4))
                    (.ret ((.v (.one (.z (.bool (.lit false))))), [], 4)))))
              (.ite (.cmp .neq (.fn 28 (.i (.var 0) (.i (.var 1) (.i (.var 2) (.x (.var 3) (.i (.var 5) .nil)))))) (.lit 0))
                (.ret ((.v (.one (.z (.bool (.var 2000))))), [], 3))
                (.ite (.cmp .lss (.var 5) (.var 4))
                  (.ret ((.v (.one (.z (.bool (.var 2000))))), [], 3))
                  (.ite (.var 2000)
                    (.ret ((.v (.one (.z (.bool (.cmp .geq (.fn 27 (.i (.var 0) (.i (.var 1) (.i (.var 2) (.x (.var 3) (.i (.var 5) .nil)))))) (.fn 27 (.i (.var 0) (.i (.var 1) (.i (.var 2) (.x (.var 3) (.i (.var 4) .nil))))))))))), [], 3))
                    (.ret ((.v (.one (.z (.bool (.lit false))))), [], 3))))))))))))
-- end trRestLaw
set_option maxRecDepth 100000 in
theorem trRestLaw_is : T.norm 0 (call Try.prog ctHL [] 100 4 (symArgs 0 [psg, it, it]) [] 0) TT.ret = trRestLaw := by kernel_rfl
theorem trRestLaw_low : trRestLaw.low 1000 = true := by kernel_rfl
-- term trTimesLaw: call Try.prog ctHL [] 100 3 (symArgs 0 [psg, it, it]) [] 0
def trTimesLaw : TT OpR :=
(.ite (.not (.fn 20 (.i (.var 0) (.i (.var 1) (.i (.var 2) (.x (.var 3) .nil))))))
  (.ret ((.v (.one (.z (.bool (.lit true))))), [], 1))
  (.ite (.cmp .lss (.var 4) (.lit 0))
    (.ret ((.v (.one (.z (.bool (.lit true))))), [], 1))
    (.ite (.cmp .geq (.var 4) (.len (.var 3)))
      (.ret ((.v (.one (.z (.bool (.lit true))))), [], 1))
      (.ite (.cmp .neq (.fn 23 (.i (.var 0) (.i (.var 1) (.i (.var 2) (.x (.var 3) (.i (.var 4) .nil)))))) (.lit 0))
        (.ite (.cmp .eql (.fn 23 (.i (.var 0) (.i (.var 1) (.i (.var 2) (.x (.var 3) (.i (.var 4) .nil)))))) (.lit 0))
          (.ret ((.v (.one (.z (.bool (.cmp .eql (.fn 23 (.i (.var 0) (.i (.var 1) (.i (.var 2) (.x (.var 3) (.i (.ar .add .i64 (.var 4) (.lit 1)) .nil)))))) (.lit 3)))))), [], 3))
          (.ite (.cmp .eql (.fn 23 (.i (.var 0) (.i (.var 1) (.i (.var 2) (.x (.var 3) (.i (.var 4) .nil)))))) (.lit 3))
            (.ret ((.v (.one (.z (.bool (.cmp .eql (.fn 23 (.i (.var 0) (.i (.var 1) (.i (.var 2) (.x (.var 3) (.i (.ar .add .i64 (.var 4) (.lit 1)) .nil)))))) (.lit 3)))))), [], 3))
            (.ret ((.v (.one (.z (.bool (.lit false))))), [], 3))))
        (.ite (.cmp .neq (.fn 23 (.i (.var 0) (.i (.var 1) (.i (.var 2) (.x (.var 3) (.i (.ar .add .i64 (.var 4) (.lit 1)) .nil)))))) (.lit 0))
          (.ite (.cmp .eql (.fn 23 (.i (.var 0) (.i (.var 1) (.i (.var 2) (.x (.var 3) (.i (.var 4) .nil)))))) (.lit 0))
            (.ret ((.v (.one (.z (.bool (.cmp .eql (.fn 23 (.i (.var 0) (.i (.var 1) (.i (.var 2) (.x (.var 3) (.i (.ar .add .i64 (.var 4) (.lit 1)) .nil)))))) (.lit 3)))))), [], 3))
            (.ite (.cmp .eql (.fn 23 (.i (.var 0) (.i (.var 1) (.i (.var 2) (.x (.var 3) (.i (.var 4) .nil)))))) (.lit 3))
              (.ret ((.v (.one (.z (.bool (.cmp .eql (.fn 23 (.i (.var 0) (.i (.var 1) (.i (.var 2) (.x (.var 3) (.i (.ar .add .i64 (.var 4) (.lit 1)) .nil)))))) (.lit 3)))))), [], 3))
              (.ret ((.v (.one (.z (.bool (.lit false))))), [], 3))))
          (.ob (.tru (.cmp .leq (.lit 0) (.var 4)))
          (.ob (.tru (.cmp .lss (.var 4) (.len (.var 3))))
          (.ite (.cmp .lss (.ar .sub .i64 (.fn 21 (.i (.var 0) (.i (.var 1) (.i (.var 2) (.x (.var 3) (.i (.ar .add .i64 (.var 4) (.lit 1)) .nil)))))) (.fn 21 (.i (.var 0) (.i (.var 1) (.i (.var 2) (.x (.var 3) (.i (.var 4) .nil))))))) (.lit 0))
            (.ret ((.v (.one (.z (.bool (.lit false))))), [], 4))
            (.ite (.cmp .gtr (.ar .sub .i64 (.fn 21 (.i (.var 0) (.i (.var 1) (.i (.var 2) (.x (.var 3) (.i (.ar .add .i64 (.var 4) (.lit 1)) .nil)))))) (.fn 21 (.i (.var 0) (.i (.var 1) (.i (.var 2) (.x (.var 3) (.i (.var 4) .nil))))))) (.lit 3000000))
              (.ret ((.v (.one (.z (.bool (.lit false))))), [], 4))
              (.ite (.cmp .lss (.ar .sub .i64 (.fn 22 (.i (.var 0) (.i (.var 1) (.i (.var 2) (.x (.var 3) (.i (.ar .add .i64 (.var 4) (.lit 1)) .nil)))))) (.fn 22 (.i (.var 0) (.i (.var 1) (.i (.var 2) (.x (.var 3) (.i (.var 4) .nil))))))) (.ar .sub .i64 (.fn 21 (.i (.var 0) (.i (.var 1) (.i (.var 2) (.x (.var 3) (.i (.ar .add .i64 (.var 4) (.lit 1)) .nil)))))) (.fn 21 (.i (.var 0) (.i (.var 1) (.i (.var 2) (.x (.var 3) (.i (.var 4) .nil))))))))
                (.ret ((.v (.one (.z (.bool (.lit false))))), [], 4))
                (.ite (.cmp .gtr (.ar .sub .i64 (.fn 22 (.i (.var 0) (.i (.var 1) (.i (.var 2) (.x (.var 3) (.i (.ar .add .i64 (.var 4) (.lit 1)) .nil)))))) (.fn 22 (.i (.var 0) (.i (.var 1) (.i (.var 2) (.x (.var 3) (.i (.var 4) .nil))))))) (.lit 10000000))
                  (.ret ((.v (.one (.z (.bool (.lit false))))), [], 4))
                  (.ite (.cmp .lss (.var 5) (.rd (.var 3) (.var 4) 4))
                    (.ret ((.v (.one (.z (.bool (.lit true))))), [], 4))
                    (.ite (.cmp .gtr (.var 5) (.rd (.var 3) (.var 4) 5))
                      (.ret ((.v (.one (.z (.bool (.lit true))))), [], 4))
                      (.ite (.cmp .leq (.ar .mul .i64 (.ar .sub .i64 (.fn 21 (.i (.var 0) (.i (.var 1) (.i (.var 2) (.x (.var 3) (.i (.ar .add .i64 (.var 4) (.lit 1)) .nil)))))) (.fn 21 (.i (.var 0) (.i (.var 1) (.i (.var 2) (.x (.var 3) (.i (.var 4) .nil))))))) (.var 5)) (.lit 3000000))
                        (.ite (.cmp .leq (.ar .mul .i64 (.ar .mul .i64 (.ar .mul .i64 (.ar .sub .i64 (.fn 21 (.i (.var 0) (.i (.var 1) (.i (.var 2) (.x (.var 3) (.i (.ar .add .i64 (.var 4) (.lit 1)) .nil)))))) (.fn 21 (.i (.var 0) (.i (.var 1) (.i (.var 2) (.x (.var 3) (.i (.var 4) .nil))))))) (.var 5)) (.ar .sub .i64 (.fn 21 (.i (.var 0) (.i (.var 1) (.i (.var 2) (.x (.var 3) (.i (.ar .add .i64 (.var 4) (.lit 1)) .nil)))))) (.fn 21 (.i (.var 0) (.i (.var 1) (.i (.var 2) (.x (.var 3) (.i (.var 4) .nil)))))))) (.var 5)) (.ar .add .i64 (.ar .mul .i64 (.ar .sub .i64 (.rd (.var 3) (.var 4) 2) (.rd (.var 3) (.var 4) 0)) (.ar .sub .i64 (.rd (.var 3) (.var 4) 2) (.rd (.var 3) (.var 4) 0))) (.ar .mul .i64 (.ar .sub .i64 (.rd (.var 3) (.var 4) 3) (.rd (.var 3) (.var 4) 1)) (.ar .sub .i64 (.rd (.var 3) (.var 4) 3) (.rd (.var 3) (.var 4) 1)))))
                          (.ret ((.v (.one (.z (.bool (.cmp .leq (.ar .add .i64 (.ar .mul .i64 (.ar .sub .i64 (.rd (.var 3) (.var 4) 2) (.rd (.var 3) (.var 4) 0)) (.ar .sub .i64 (.rd (.var 3) (.var 4) 2) (.rd (.var 3) (.var 4) 0))) (.ar .mul .i64 (.ar .sub .i64 (.rd (.var 3) (.var 4) 3) (.rd (.var 3) (.var 4) 1)) (.ar .sub .i64 (.rd (.var 3) (.var 4) 3) (.rd (.var 3) (.var 4) 1)))) (.ar .mul .i64 (.mn (.ar .mul .i64 (.ar .sub .i64 (.fn 22 (.i (.var 0) (.i (.var 1) (.i (.var 2) (.x (.var 3) (.i (.ar .add .i64 (.var 4) (.lit 1)) .nil)))))) (.fn 22 (.i (.var 0) (.i (.var 1) (.i (.var 2) (.x (.var 3) (.i (.var 4) .nil))))))) (.var 5)) (.lit 3000000)) (.mn (.ar .mul .i64 (.ar .sub .i64 (.fn 22 (.i (.var 0) (.i (.var 1) (.i (.var 2) (.x (.var 3) (.i (.ar .add .i64 (.var 4) (.lit 1)) .nil)))))) (.fn 22 (.i (.var 0) (.i (.var 1) (.i (.var 2) (.x (.var 3) (.i (.var 4) .nil))))))) (.var 5)) (.lit 3000000)))))))), [], 4))
                          (.ret ((.v (.one (.z (.bool (.lit false))))), [], 4)))
                        (.ret ((.v (.one (.z (.bool (.lit false))))), [], 4))))))))))))))))
-- end trTimesLaw
set_option maxRecDepth 100000 in
theorem trTimesLaw_is : T.norm 0 (call Try.prog ctHL [] 100 3 (symArgs 0 [psg, it, it]) [] 0) TT.ret = trTimesLaw := by kernel_rfl
theorem trTimesLaw_low : trTimesLaw.low 1000 = true := by kernel_rfl
end Go.Proofs.Ytinfmmofcadjgaa
/- Chapter 38: the law PassageTimes. -/
namespace Go.Proofs.Ytinfmmofcadjgaa
open Go.RowKit
theorem tdiv_mul {a b : Int} (ha : 0 ≤ a) (hb : 1 ≤ b) : a.tdiv b * b ≤ a ∧ a < a.tdiv b * b + b := by
  rw [Int.tdiv_eq_ediv_of_nonneg ha]
  have h1 := Int.mul_ediv_add_emod a b
  have h2 := Int.emod_nonneg a (show b ≠ 0 by omega)
  have h3 := Int.emod_lt_of_pos a (show 0 < b by omega)
  rw [Int.mul_comm] at h1
  omega
theorem arr_of {a b c : Int} {r : Rows} (hp : psgB a b c r = true) (k : Nat) (hk : k ≤ r.length) :
    (tHi r b k ≤ 10000000 ∧ arrE (pk a b c r k) = 0 ∧ arrL (pk a b c r k) = tLo r a k ∧ arrH (pk a b c r k) = tHi r b k) ∨ (10000000 < tHi r b k ∧ arrE (pk a b c r k) = 3) := by
  have h1 : arrO (pk a b c r k) = true := by
    show (psgB a b c r && decide (0 ≤ (k : Int) ∧ (k : Int) ≤ r.length)) = true
    rw [hp, decide_eq_true ⟨by omega, by omega⟩]; rfl
  have h2 : arrX (pk a b c r k) = !decide (10000000 < tHi r b k) := by
    show (arrO (pk a b c r k) && !decide (10000000 < tHi r b ((k : Int).toNat))) = _
    rw [h1, Int.toNat_natCast]; rfl
  unfold arrE arrL arrH
  by_cases q : 10000000 < tHi r b k
  · rw [decide_eq_true q] at h2
    rw [if_pos h1, h2]
    exact Or.inr ⟨q, rfl⟩
  · rw [decide_eq_false q] at h2
    rw [if_pos h1, h2]
    exact Or.inl ⟨by omega, rfl, rfl, rfl⟩
/-- What a leg's times say of its speed. -/
theorem leg_times {r : Rows} {i : Int} (h : legB r i = true) {s : Int} (h1 : lg r i 4 ≤ s) (h2 : s ≤ lg r i 5) :
    (0 ≤ legLo r i * s ∧ legLo r i * s ≤ distIL (dl r i)) ∧ distIH (dl r i) ≤ legHi r i * s := by
  have hl := leg_le h
  rw [legB_iff] at h
  obtain ⟨_, _, h4, h5, h6⟩ := h
  have t1 := tdiv_mul (a := distIL (dl r i)) (b := lg r i 5) (by omega) (by omega)
  have t2 := tdiv_mul (a := distIH (dl r i) + lg r i 4 - 1) (b := lg r i 4) (by omega) (by omega)
  have m1 : legLo r i * s ≤ legLo r i * lg r i 5 := Int.mul_le_mul_of_nonneg_left h2 (by omega)
  have m2 : legHi r i * lg r i 4 ≤ legHi r i * s := Int.mul_le_mul_of_nonneg_left h1 (by omega)
  have m0 : 0 ≤ legLo r i * s := Int.mul_nonneg (by omega) (by omega)
  unfold legLo at m0 m1 ⊢
  unfold legHi at m2 ⊢
  omega
theorem leg_order {r : Rows} {i : Int} (h : legB r i = true) : legLo r i ≤ legHi r i := by
  have hl := leg_le h
  have h0 := h
  rw [legB_iff] at h0
  obtain ⟨p, _, h4, h5, h6⟩ := h0
  obtain ⟨⟨a1, a2⟩, a3⟩ := leg_times h (Int.le_refl _) h5
  obtain ⟨d1, d2, d3, d4, _⟩ := distI_le (ds := dl r i) (by simp only [four4, Bool.and_eq_true]; exact p)
  exact Int.le_of_mul_le_mul_right (show legLo r i * lg r i 4 ≤ legHi r i * lg r i 4 by omega) (by omega)
theorem gTimesLaw : Gives Try.prog 3 [psg, it, it] (fun _ => .bool true) := by
  refine GivesIf.all (fn_gives K7 (by kernel_rfl) (fun ρ h => ctHL_ok (Sees.of h 61)) (by kernel_rfl) trTimesLaw_is trTimesLaw_low (by decide) (fun W vals ds hr _ => ?_))
  simp only [trTimesLaw, TT.sat_ret, TT.sat_ite, TT.sat_ob, TT.sat_next, TT.sat_stuck, put_i, put_b, put_d, put_fi, put_fb, put_fd, Ob.ok, B.ev, E.ev, X.ev, AL.ev, cmp_t, cmp_f, arEv, V.plain, V2.plain, S.plain, S0.plain, V.val, V2.val, S.val, S0.val, bV, iV, List.all_cons, List.all_nil, Bool.and_true, Bool.and_self, envOf_i, envOf_b, envOf_d, List.map_cons, List.map_nil, true_and, Bool.not_eq_true', Bool.not_eq_false', Bool.not_not, Bool.and_eq_true, and_f, cell_lg, cell_lb, cell_lr, cmpP, val_i, val_b, val_d, aget, Nat.reduceBEq, beq_self_eq_true, Bool.false_eq_true, if_true, if_false, Nat.reduceLT, Nat.reduceSub, Nat.sub_self, Nat.lt_irrefl, K7i21, K7i22, K7i23, K7b20, psgL_four, pk_eq, legK]
  refine ⟨fun _ => trivial, fun hp => ⟨fun _ => trivial, fun hk0 => ⟨fun _ => trivial, fun hk1 => ?_⟩⟩⟩
  obtain ⟨p1, p2, p3, p4⟩ := psgB_iff hp
  obtain ⟨k, hk⟩ := Int.eq_ofNat_of_zero_le (a := iAt ds 4) (by omega)
  have hl := p4 k (by omega)
  have hle := leg_le hl
  have hw : IntKind.i64.wrap (iAt ds 4 + 1) = ((k + 1 : Nat) : Int) := by rw [wrap_in _ (by omega) (by omega), hk]; rfl
  have ht := t_le p4 p3.2.2.2.2 p1 p2 k (by omega)
  have G : ∀ a b : Int, b = a → Value.bool (cmpEv BinOp.eql a b) = Value.bool true := fun a b h => congrArg Value.bool (by rw [cmp_t]; exact h.symm)
  have A := arr_of hp k (by omega)
  have B := arr_of hp (k + 1) (by omega)
  rw [hw, hk]
  have e1 : tLo (rAt ds 3) (iAt ds 0) (k + 1) = tLo (rAt ds 3) (iAt ds 0) k + legLo (rAt ds 3) k := rfl
  have e2 : tHi (rAt ds 3) (iAt ds 1) (k + 1) = tHi (rAt ds 3) (iAt ds 1) k + legHi (rAt ds 3) k := rfl
  rcases A with ⟨a0, a1, a2, a3⟩ | ⟨a0, a1⟩
  · rcases B with ⟨b0, b1, b2, b3⟩ | ⟨b0, b1⟩
    · rw [a1, a2, a3, b1, b2, b3, e1, e2]
      have hq := legB_iff.1 hl
      have hord := leg_order hl
      rw [wrap_in (tLo _ _ k + legLo _ _ - tLo _ _ k) (by omega) (by omega), wrap_in (tHi _ _ k + legHi _ _ - tHi _ _ k) (by omega) (by omega)]
      rw [show tLo (rAt ds 3) (iAt ds 0) k + legLo (rAt ds 3) k - tLo (rAt ds 3) (iAt ds 0) k = legLo (rAt ds 3) k by omega, show tHi (rAt ds 3) (iAt ds 1) k + legHi (rAt ds 3) k - tHi (rAt ds 3) (iAt ds 1) k = legHi (rAt ds 3) k by omega]
      refine ⟨fun h => absurd rfl h, fun _ => ⟨fun h => absurd rfl h, fun _ => ⟨by omega, by omega, fun h => by omega, fun _ => ⟨fun h => by omega, fun _ => ⟨fun h => by omega, fun _ => ⟨fun h => by omega, fun _ => ⟨fun _ => trivial, fun s1 => ⟨fun _ => trivial, fun s2 => ?_⟩⟩⟩⟩⟩⟩⟩⟩
      obtain ⟨⟨m0, m1⟩, m2⟩ := leg_times hl (s := iAt ds 5) (by omega) (by omega)
      obtain ⟨d1, d2, d3, d4, d5', d6'⟩ := distI_le (ds := dl (rAt ds 3) k) (by simp only [four4, Bool.and_eq_true]; exact hq.1)
      have d5 : distIL (dl (rAt ds 3) k) * distIL (dl (rAt ds 3) k) ≤ (lg (rAt ds 3) k 2 - lg (rAt ds 3) k 0) * (lg (rAt ds 3) k 2 - lg (rAt ds 3) k 0) + (lg (rAt ds 3) k 3 - lg (rAt ds 3) k 1) * (lg (rAt ds 3) k 3 - lg (rAt ds 3) k 1) := d5'
      have d6 : (lg (rAt ds 3) k 2 - lg (rAt ds 3) k 0) * (lg (rAt ds 3) k 2 - lg (rAt ds 3) k 0) + (lg (rAt ds 3) k 3 - lg (rAt ds 3) k 1) * (lg (rAt ds 3) k 3 - lg (rAt ds 3) k 1) ≤ distIH (dl (rAt ds 3) k) * distIH (dl (rAt ds 3) k) := d6'
      clear d5' d6'
      have hq1 := hq.1
      rw [placeB_iff, placeB_iff] at hq1
      obtain ⟨⟨qa, qb⟩, qc, qd⟩ := hq1
      have wx := wrap_in (lg (rAt ds 3) k 2 - lg (rAt ds 3) k 0) (by omega) (by omega)
      have wy := wrap_in (lg (rAt ds 3) k 3 - lg (rAt ds 3) k 1) (by omega) (by omega)
      have wxx := (w_mul qc qa qc qa).1
      have wyy := (w_mul qd qb qd qb).1
      have wxy := w_add qc qa qc qa qd qb qd qb
      have n1 : legLo (rAt ds 3) k * iAt ds 5 * legLo (rAt ds 3) k ≤ 2828427 * 2828427 := Int.mul_le_mul (by omega) (by omega) (by omega) (by decide)
      have n0 : 0 ≤ legLo (rAt ds 3) k * iAt ds 5 * legLo (rAt ds 3) k := Int.mul_nonneg m0 (by omega)
      have n2 : legLo (rAt ds 3) k * iAt ds 5 * legLo (rAt ds 3) k * iAt ds 5 = (legLo (rAt ds 3) k * iAt ds 5) * (legLo (rAt ds 3) k * iAt ds 5) := by rw [Int.mul_assoc (legLo (rAt ds 3) k * iAt ds 5)]
      have n3 : (legLo (rAt ds 3) k * iAt ds 5) * (legLo (rAt ds 3) k * iAt ds 5) ≤ distIL (dl (rAt ds 3) k) * distIL (dl (rAt ds 3) k) := Int.mul_le_mul m1 m1 m0 d1
      have n4 : distIL (dl (rAt ds 3) k) * distIL (dl (rAt ds 3) k) ≤ 2828427 * 2828427 := Int.mul_le_mul d2 d2 d1 (by decide)
      have n5 : 0 ≤ (legLo (rAt ds 3) k * iAt ds 5) * (legLo (rAt ds 3) k * iAt ds 5) := Int.mul_nonneg m0 m0
      have n6 : legHi (rAt ds 3) k * iAt ds 5 ≤ 2830428 * 2000 := Int.mul_le_mul (by omega) (by omega) (by omega) (by decide)
      have n7 : distIH (dl (rAt ds 3) k) ≤ min (legHi (rAt ds 3) k * iAt ds 5) 3000000 := by omega
      have n8 : distIH (dl (rAt ds 3) k) * distIH (dl (rAt ds 3) k) ≤ min (legHi (rAt ds 3) k * iAt ds 5) 3000000 * min (legHi (rAt ds 3) k * iAt ds 5) 3000000 := Int.mul_le_mul n7 n7 (by omega) (by omega)
      have n9 : min (legHi (rAt ds 3) k * iAt ds 5) 3000000 * min (legHi (rAt ds 3) k * iAt ds 5) 3000000 ≤ 3000000 * 3000000 := Int.mul_le_mul (by omega) (by omega) (by omega) (by decide)
      have n10 : 0 ≤ distIH (dl (rAt ds 3) k) * distIH (dl (rAt ds 3) k) := Int.mul_nonneg (by omega) (by omega)
      have w1 := wrap_in (legLo (rAt ds 3) k * iAt ds 5) (by omega) (by omega)
      have w2 := wrap_in (legLo (rAt ds 3) k * iAt ds 5 * legLo (rAt ds 3) k) (by omega) (by omega)
      have w3 := wrap_in (legLo (rAt ds 3) k * iAt ds 5 * legLo (rAt ds 3) k * iAt ds 5) (by omega) (by omega)
      have w4 := wrap_in (legHi (rAt ds 3) k * iAt ds 5) (by omega) (by omega)
      have w5 := wrap_in (min (legHi (rAt ds 3) k * iAt ds 5) 3000000 * min (legHi (rAt ds 3) k * iAt ds 5) 3000000) (by omega) (by omega)
      simp only [w1, w2, w3, w4, w5, wx, wy, wxx, wyy, wxy]
      exact ⟨fun _ => ⟨fun _ => congrArg Value.bool (by rw [cmp_t]; simp only [cmpP]; omega), fun h => by omega⟩, fun h => by omega⟩
    · rw [a1, b1]
      refine ⟨fun h => absurd rfl h, fun _ => ⟨fun _ => ⟨fun _ => G _ _ rfl, fun h => absurd rfl h⟩, fun h => absurd (show (3 : Int) ≠ 0 by decide) h⟩⟩
  · rcases B with ⟨b0, b1, b2, b3⟩ | ⟨b0, b1⟩
    · omega
    · rw [a1, b1]
      refine ⟨fun _ => ⟨fun h => by omega, fun _ => ⟨fun _ => G _ _ rfl, fun h => absurd rfl h⟩⟩, fun h => absurd (show (3 : Int) ≠ 0 by decide) h⟩
end Go.Proofs.Ytinfmmofcadjgaa
