/- MW, merged: Gr, TEk, Ek, TEl, El, TEm, Em, TEh, Eh, En, TEs, Es. -/
import Derived.Test.YtldbejmgalhdaaaGreatMK
import Derived.Test.YtldbejmgalhdaaaGreatMV
import Derived.OwnWalk
import Derived.Maps.AppendAt
set_option linter.unusedSimpArgs false
set_option linter.unusedVariables false
/- Chapter 07: slices.Grow of a nil list of sectors. -/
namespace Go.Proofs.YtldbejmgalhdaaaGreat
open Go.RowKit
end Go.Proofs.YtldbejmgalhdaaaGreat
/- Chapter 07: the tree of sector.shown. -/
namespace Go.Proofs.YtldbejmgalhdaaaGreat
open Go.RowKit
def ctE8 : Ct := ctE6
end Go.Proofs.YtldbejmgalhdaaaGreat
/- Chapter 07: sector.shown. -/
namespace Go.Proofs.YtldbejmgalhdaaaGreat
open Go.RowKit
def shI (r : Rows) (x y : Int) : Nat → Nat → Nat
  | 0, i => i
  | f + 1, i => if hasB (lg r i 0) (lg r i 1) (lg r i 2) (lg r i 3) x y = true then i else shI r x y f (i + 1)
def shC (r : Rows) (x y : Int) : Int := if shI r x y r.length 0 < r.length then lg r (shI r x y r.length 0) 4 else 0
def shR (r : Rows) (x y : Int) : Int := if shI r x y r.length 0 < r.length then lg r (shI r x y r.length 0) 5 else 0
def shCL (ds : List D) : Int := shC (rAt ds 0) (iAt ds 1) (iAt ds 2)
def shRL (ds : List D) : Int := shR (rAt ds 0) (iAt ds 1) (iAt ds 2)
theorem ctE8_ok {ρ : Env} (h : Sees ρ K76 122) : CtOk Tryz.prog ρ ctE8 := (ctE6_ok h)
def K77 : Interp where
  fi n l := match n with | 122 => shCL l | 123 => shRL l | n => K76.fi n l
  fb n l := K76.fb n l
  fd _ _ := []
theorem K77_K76 {ρ : Env} (h : Sees ρ K77 126) : Sees ρ K76 122 := h.trans (by decide) fun n l hn => by
  refine ⟨?_, ?_⟩
  ·
    simp only [K77]
    split <;> first | omega | rfl
  ·
    rfl
def ctE9 : Ct := ctE8
theorem ctE9_ok {ρ : Env} (h : Sees ρ K77 126) : CtOk Tryz.prog ρ ctE9 := (ctE8_ok (K77_K76 h))
end Go.Proofs.YtldbejmgalhdaaaGreat
/- Chapter 07: the tree of sector.Safer. -/
namespace Go.Proofs.YtldbejmgalhdaaaGreat
open Go.RowKit
end Go.Proofs.YtldbejmgalhdaaaGreat
/- Chapter 07: sector.Safer. -/
namespace Go.Proofs.YtldbejmgalhdaaaGreat
open Go.RowKit
def wrD (x y : Rows) (dx dy : Int) : Bool := decide (shC x dx dy = 1) && (decide (¬ shC y dx dy = 1) || decide (shR y dx dy < shR x dx dy))
def sfN (x y l : Rows) : Nat → Nat → Bool
  | 0, _ => false
  | f + 1, i => wrD x y (lg l i 0) (lg l i 1) || (wrD x y (lg l i 2) (lg l i 3) || sfN x y l f (i + 1))
def saferX (a b : Rows) : Bool := sfN b a (b ++ a) (b ++ a).length 0
def saO (ds : List D) : Bool := secsB (rAt ds 0) && secsB (rAt ds 1)
def saR (ds : List D) : Bool := saO ds && saferX (rAt ds 0) (rAt ds 1)
def saE (ds : List D) : Int := if saO ds then 0 else 1
def K78 : Interp where
  fi n l := match n with | 126 => saE l | n => K77.fi n l
  fb n l := match n with | 126 => saR l | n => K77.fb n l
  fd _ _ := []
theorem K78_K77 {ρ : Env} (h : Sees ρ K78 128) : Sees ρ K77 126 := h.trans (by decide) fun n l hn => by
  refine ⟨?_, ?_⟩
  ·
    simp only [K78]
    split <;> first | omega | rfl
  ·
    simp only [K78]
    split <;> first | omega | rfl
def ctE10 : Ct := ctE9
theorem ctE10_ok {ρ : Env} (h : Sees ρ K78 128) : CtOk Tryz.prog ρ ctE10 := (ctE9_ok (K78_K77 h))
end Go.Proofs.YtldbejmgalhdaaaGreat
/- Chapter 07: trees of feature.Stands, feature.Same. -/
namespace Go.Proofs.YtldbejmgalhdaaaGreat
open Go.RowKit
def trFeSame : TT OpR :=
(.ite (.cmp .eql (.var 0) (.var 9))
 (.ite (.cmp .eql (.var 1) (.var 10))
 (.ite (.and (.cmp .eql (.var 2) (.var 11)) (.cmp .eql (.var 3) (.var 12)))
 (.ite (.cmp .eql (.var 4) (.var 13))
 (.ite (.cmp .eql (.var 6) (.var 15))
 (.ite (.cmp .eql (.var 7) (.var 16))
 (.ite (.cmp .neq (.len (.var 5)) (.len (.var 14)))
 (.ret ((.v (.one (.z (.bool (.lit false))))), [], 2))
 (.loop 0 3000 ⟨[(0, (.lit 0))], [], []⟩
 (.ite (.cmp .lss (.var 3000) (.len (.var 5)))
 (.ob (.tru (.cmp .leq (.lit 0) (.var 3000)))
 (.ob (.tru (.cmp .lss (.var 3000) (.len (.var 5))))
 (.ob (.tru (.cmp .leq (.lit 0) (.var 3000)))
 (.ob (.tru (.cmp .lss (.var 3000) (.len (.var 14))))
 (.ite (.not (.and (.cmp .eql (.rd (.var 5) (.var 3000) 0) (.rd (.var 14) (.var 3000) 0)) (.cmp .eql (.rd (.var 5) (.var 3000) 1) (.rd (.var 14) (.var 3000) 1))))
 (.ret ((.v (.one (.z (.bool (.lit false))))), [], 3))
 (.next 0 ⟨[(0, (.ar .add .i64 (.var 3000) (.lit 1)))], [], []⟩))))))
 (.ite (.cmp .neq (.len (.var 8)) (.len (.var 17)))
 (.ret ((.v (.one (.z (.bool (.lit false))))), [], 3))
 (.loop 1 4000 ⟨[(0, (.lit 0))], [], []⟩
 (.ite (.cmp .lss (.var 4000) (.len (.var 8)))
 (.ob (.tru (.cmp .leq (.lit 0) (.var 4000)))
 (.ob (.tru (.cmp .lss (.var 4000) (.len (.var 8))))
 (.ob (.tru (.cmp .leq (.lit 0) (.var 4000)))
 (.ob (.tru (.cmp .lss (.var 4000) (.len (.var 17))))
 (.ite (.not (.and (.and (.cmp .eql (.rd (.var 8) (.var 4000) 0) (.rd (.var 17) (.var 4000) 0)) (.cmp .eql (.rd (.var 8) (.var 4000) 1) (.rd (.var 17) (.var 4000) 1))) (.and (.and (.cmp .eql (.rd (.var 8) (.var 4000) 2) (.rd (.var 17) (.var 4000) 2)) (.cmp .eql (.rd (.var 8) (.var 4000) 3) (.rd (.var 17) (.var 4000) 3))) (.and (.cmp .eql (.rd (.var 8) (.var 4000) 4) (.rd (.var 17) (.var 4000) 4)) (.cmp .eql (.rd (.var 8) (.var 4000) 5) (.rd (.var 17) (.var 4000) 5))))))
 (.ret ((.v (.one (.z (.bool (.lit false))))), [], 4))
 (.next 1 ⟨[(0, (.ar .add .i64 (.var 4000) (.lit 1)))], [], []⟩))))))
 (.ret ((.v (.one (.z (.bool (.lit true))))), [], 4))))))))
 (.ret ((.v (.one (.z (.bool (.lit false))))), [], 2)))
 (.ret ((.v (.one (.z (.bool (.lit false))))), [], 2)))
 (.ret ((.v (.one (.z (.bool (.lit false))))), [], 2)))
 (.ret ((.v (.one (.z (.bool (.lit false))))), [], 2)))
 (.ret ((.v (.one (.z (.bool (.lit false))))), [], 2)))
 (.ret ((.v (.one (.z (.bool (.lit false))))), [], 2)))
-- end trFeSame
def trFeSame_h : List (Nat × St) := [
(2, ⟨([(.v (.one (.z (.ext [(.int .i64), (.int .i64)] (.var 5) false)))), (.v (.one (.z (.ext [(.int .i64), (.int .i64)] (.var 14) false)))), (.v (.one (.z .any))), (.v (.one (.z .any))), (.v (.one (.z (.bool (.lit false))))), (.v (.one (.z .any))), (.v (.one (.z (.ext [(.int .i64), (.int .i64)] (.var 5) false)))), (.v (.one (.z (.int .i64 (.len (.var 5)))))), (.v (.one (.z (.ext [(.int .i64), (.int .i64)] (.var 14) false)))), (.v (.one (.z (.int .i64 (.len (.var 14)))))), (.v (.one (.z (.bool (.cmp .neq (.len (.var 5)) (.len (.var 14))))))), (.v (.one (.z (.ext [(.int .i64), (.int .i64)] (.var 5) false)))), (.v (.one (.z (.int .i64 (.len (.var 5)))))), (.v (.one (.z (.int .i64 (.var 3000)))))] ++ List.replicate 12 V.any), [(1, (.cells 27 [(.z (.int .i64 (.var 9))), (.z (.int .i64 (.var 10))), (.z (.int .i64 (.var 11))), (.z (.int .i64 (.var 12))), (.z (.int .i64 (.var 13))), (.z (.ext [(.int .i64), (.int .i64)] (.var 14) false)), (.z (.int .i64 (.var 15))), (.z (.int .i64 (.var 16))), (.z (.ext [(.int .i64), (.int .i64), (.int .i64), (.int .i64), (.int .i64), (.int .i64)] (.var 17) false))])), (0, (.cells 27 [(.z (.int .i64 (.var 0))), (.z (.int .i64 (.var 1))), (.z (.int .i64 (.var 2))), (.z (.int .i64 (.var 3))), (.z (.int .i64 (.var 4))), (.z (.ext [(.int .i64), (.int .i64)] (.var 5) false)), (.z (.int .i64 (.var 6))), (.z (.int .i64 (.var 7))), (.z (.ext [(.int .i64), (.int .i64), (.int .i64), (.int .i64), (.int .i64), (.int .i64)] (.var 8) false))]))], 3, []⟩),
(3, ⟨([(.v (.one (.z (.ext [(.int .i64), (.int .i64), (.int .i64), (.int .i64), (.int .i64), (.int .i64)] (.var 8) false)))), (.v (.one (.z (.ext [(.int .i64), (.int .i64), (.int .i64), (.int .i64), (.int .i64), (.int .i64)] (.var 17) false)))), (.v (.one (.z .any))), (.v (.one (.z .any))), (.v (.one (.z (.bool (.lit false))))), (.v (.one (.z .any))), (.v (.one (.z (.ext [(.int .i64), (.int .i64), (.int .i64), (.int .i64), (.int .i64), (.int .i64)] (.var 8) false)))), (.v (.one (.z (.int .i64 (.len (.var 8)))))), (.v (.one (.z (.ext [(.int .i64), (.int .i64), (.int .i64), (.int .i64), (.int .i64), (.int .i64)] (.var 17) false)))), (.v (.one (.z (.int .i64 (.len (.var 17)))))), (.v (.one (.z (.bool (.cmp .neq (.len (.var 8)) (.len (.var 17))))))), (.v (.one (.z (.ext [(.int .i64), (.int .i64), (.int .i64), (.int .i64), (.int .i64), (.int .i64)] (.var 8) false)))), (.v (.one (.z (.int .i64 (.len (.var 8)))))), (.v (.one (.z (.int .i64 (.var 4000)))))] ++ List.replicate 12 V.any), [(1, (.cells 27 [(.z (.int .i64 (.var 9))), (.z (.int .i64 (.var 10))), (.z (.int .i64 (.var 11))), (.z (.int .i64 (.var 12))), (.z (.int .i64 (.var 13))), (.z (.ext [(.int .i64), (.int .i64)] (.var 14) false)), (.z (.int .i64 (.var 15))), (.z (.int .i64 (.var 16))), (.z (.ext [(.int .i64), (.int .i64), (.int .i64), (.int .i64), (.int .i64), (.int .i64)] (.var 17) false))])), (0, (.cells 27 [(.z (.int .i64 (.var 0))), (.z (.int .i64 (.var 1))), (.z (.int .i64 (.var 2))), (.z (.int .i64 (.var 3))), (.z (.int .i64 (.var 4))), (.z (.ext [(.int .i64), (.int .i64)] (.var 5) false)), (.z (.int .i64 (.var 6))), (.z (.int .i64 (.var 7))), (.z (.ext [(.int .i64), (.int .i64), (.int .i64), (.int .i64), (.int .i64), (.int .i64)] (.var 8) false))]))], 4, []⟩)]
def trFeSame_j : List (FuncId × Nat × Nat × St) := [
]
set_option maxRecDepth 100000 in
theorem trFeSame_is : T.norm 0 (call Tryz.prog ctE10 ⟨Lt.un (Lt.of []), trFeSame_h, trFeSame_j⟩ 100 35 (symArgs 0 [feat, feat]) [] 0) TT.ret = trFeSame := by kernel_rfl
theorem trFeSame_low : trFeSame.low 1000 = true := by kernel_rfl
end Go.Proofs.YtldbejmgalhdaaaGreat
/- Chapter 07: feature.Stands, feature.Same. -/
namespace Go.Proofs.YtldbejmgalhdaaaGreat
open Go.RowKit
def standX (k2 x2 y2 r2 : Int) (a2 : Rows) (d2 : Int) (t2 : Rows) (k1 x1 y1 r1 : Int) (a1 : Rows) (d1 : Int) (t1 : Rows) : Bool :=
  if k2 ≠ 4 then decide (d1 ≤ d2) && holdX k1 x1 y1 r1 a1 k2 x2 y2 r2 a2
  else decide (k1 = 4 ∧ x1 = x2 ∧ y1 = y2) && !saferX t2 t1
def feStR (ds : List D) : Bool := two9 ds && standX (iAt ds 1) (iAt ds 2) (iAt ds 3) (iAt ds 4) (rAt ds 5) (iAt ds 6) (rAt ds 8) (iAt ds 10) (iAt ds 11) (iAt ds 12) (iAt ds 13) (rAt ds 14) (iAt ds 15) (rAt ds 17)
end Go.Proofs.YtldbejmgalhdaaaGreat
/- Chapter 07: the tree of the laws' head. -/
namespace Go.Proofs.YtldbejmgalhdaaaGreat
open Go.RowKit
end Go.Proofs.YtldbejmgalhdaaaGreat
/- Chapter 07: the laws' head is true. -/
namespace Go.Proofs.YtldbejmgalhdaaaGreat
open Go.RowKit
end Go.Proofs.YtldbejmgalhdaaaGreat
/- Chapter 07: feature.Same. -/
namespace Go.Proofs.YtldbejmgalhdaaaGreat
open Go.RowKit
def eqC (r s : Rows) (i : Nat) : Nat → Bool
  | 0 => true
  | c + 1 => eqC r s i c && decide (lg r i c = lg s i c)
def eqN (c : Nat) (r s : Rows) : Nat → Nat → Bool
  | 0, _ => true
  | f + 1, i => eqC r s i c && eqN c r s f (i + 1)
def eqX (c : Nat) (r s : Rows) : Bool := decide (r.length = s.length) && eqN c r s r.length 0
def sameB (i1 k1 x1 y1 r1 : Int) (a1 : Rows) (d1 s1 : Int) (t1 : Rows) (i2 k2 x2 y2 r2 : Int) (a2 : Rows) (d2 s2 : Int) (t2 : Rows) : Bool :=
  decide ((i1 = i2 ∧ k1 = k2 ∧ x1 = x2 ∧ y1 = y2) ∧ r1 = r2 ∧ d1 = d2 ∧ s1 = s2) && (eqX 2 a1 a2 && eqX 6 t1 t2)
def sameL (ds : List D) : Bool := sameB (iAt ds 0) (iAt ds 1) (iAt ds 2) (iAt ds 3) (iAt ds 4) (rAt ds 5) (iAt ds 6) (iAt ds 7) (rAt ds 8) (iAt ds 9) (iAt ds 10) (iAt ds 11) (iAt ds 12) (iAt ds 13) (rAt ds 14) (iAt ds 15) (iAt ds 16) (rAt ds 17)
theorem eqN_iff {c : Nat} {r s : Rows} : ∀ (f i : Nat), eqN c r s f i = true ↔ ∀ k, i ≤ k → k < i + f → eqC r s k c = true
  | 0, i => ⟨fun _ k h1 h2 => (by omega), fun _ => rfl⟩
  | f + 1, i => by
    rw [eqN, Bool.and_eq_true, eqN_iff f (i + 1)]
    constructor
    · rintro ⟨h1, h2⟩ k hk hk'
      by_cases e : k = i
      · subst e; exact h1
      · exact h2 k (by omega) (by omega)
    · exact fun h => ⟨h i (by omega) (by omega), fun k h1 h2 => h k (by omega) (by omega)⟩
theorem eqC_iff {r s : Rows} {i : Nat} : ∀ c, eqC r s i c = true ↔ ∀ j, j < c → lg r i j = lg s i j
  | 0 => ⟨fun _ j h => (by omega), fun _ => rfl⟩
  | c + 1 => by
    rw [eqC, Bool.and_eq_true, eqC_iff c, decide_eq_true_eq]
    constructor
    · rintro ⟨h1, h2⟩ j hj
      by_cases e : j = c
      · subst e; exact h2
      · exact h1 j (by omega)
    · exact fun h => ⟨fun j hj => h j (by omega), h c (by omega)⟩
theorem eqX_iff {c : Nat} {r s : Rows} : eqX c r s = true ↔ r.length = s.length ∧ ∀ k, k < r.length → ∀ j, j < c → lg r k j = lg s k j := by
  rw [eqX, Bool.and_eq_true, decide_eq_true_eq, eqN_iff]
  simp only [eqC_iff]
  exact ⟨fun h => ⟨h.1, fun k hk => h.2 k (by omega) (by omega)⟩, fun h => ⟨h.1, fun k _ hk => h.2 k (by omega)⟩⟩
theorem reps_len7 {w : World} : ∀ {ks : List CK} {vs : List Value} {ds : List D}, CK.reps w ks vs ds → ds.length = ks.length
  | [], vs, ds, h => by
    unfold CK.reps at h
    obtain ⟨rfl, rfl⟩ := h
    rfl
  | k :: ks, vs, ds, h => by
    unfold CK.reps at h
    obtain ⟨v, vs', d, ds', rfl, rfl, h1, h2⟩ := h
    simp [reps_len7 h2]
theorem list_rep {w : World} {ks : List CK} {v : Value} {d : D} (h : CK.rep w (.sl ks) v d) : d.rows.length ≤ 281474976710656 := by
  rw [rep_sl] at h
  obtain ⟨r, rfl, a, n, c, _, hs, _⟩ := h
  have e1 := hs.len
  have e2 := hs.big
  show r.length ≤ _
  omega
theorem rows_len (W : World) (vals : List Value) (ds : List D) (sh : List Sh) (hr : repSh W (feat :: feat :: sh) vals ds) : ((rAt ds 5).length ≤ 281474976710656 ∧ (rAt ds 8).length ≤ 281474976710656) ∧ (rAt ds 14).length ≤ 281474976710656 ∧ (rAt ds 17).length ≤ 281474976710656 := by
  obtain ⟨v1, vs1, d1, ds1, rfl, rfl, ⟨u1, _, h1⟩, v2, vs2, d2, ds2, rfl, rfl, ⟨u2, _, h2⟩, _⟩ := hr
  have e1 : d1.length = 9 := reps_len7 h1
  have e2 : d2.length = 9 := reps_len7 h2
  obtain ⟨_, x5, _, p5, q5⟩ := reps_get (j := 5) h1 rfl
  obtain ⟨_, x8, _, p8, q8⟩ := reps_get (j := 8) h1 rfl
  obtain ⟨_, y5, _, r5, t5⟩ := reps_get (j := 5) h2 rfl
  obtain ⟨_, y8, _, r8, t8⟩ := reps_get (j := 8) h2 rfl
  have a5 : (d1 ++ (d2 ++ ds2))[5]? = some x5 := by rw [List.getElem?_append_left (by omega)]; exact p5
  have a8 : (d1 ++ (d2 ++ ds2))[8]? = some x8 := by rw [List.getElem?_append_left (by omega)]; exact p8
  have a14 : (d1 ++ (d2 ++ ds2))[14]? = some y5 := by rw [List.getElem?_append_right (by omega), e1, List.getElem?_append_left (by omega)]; exact r5
  have a17 : (d1 ++ (d2 ++ ds2))[17]? = some y8 := by rw [List.getElem?_append_right (by omega), e1, List.getElem?_append_left (by omega)]; exact r8
  have gd : ∀ (l : List D) (i : Nat) (d : D), l[i]? = some d → l.getD i (.i 0) = d := fun l i d h => by rw [List.getD_eq_getElem?_getD, h]; rfl
  unfold rAt
  rw [gd _ _ _ a5, gd _ _ _ a8, gd _ _ _ a14, gd _ _ _ a17]
  exact ⟨⟨list_rep q5, list_rep q8⟩, list_rep t5, list_rep t8⟩
set_option maxHeartbeats 1000000 in
theorem gFeSame : Gives Tryz.prog 35 [feat, feat] (fun ds => .bool (sameL ds)) := by
  refine GivesIf.all (fn_gives K78 (by kernel_rfl) (fun ρ h => ctE10_ok (Sees.of h 128)) (by kernel_rfl) trFeSame_is trFeSame_low (by decide) (fun W vals ds hr _ => ?_))
  obtain ⟨⟨n5, n8⟩, n14, n17⟩ := rows_len W vals ds _ hr
  simp only [trFeSame, TT.sat_ret, TT.sat_ite, TT.sat_ob, TT.sat_next, TT.sat_stuck, put_i, put_b, put_d, put_fi, put_fb, put_fd, Ob.ok, B.ev, E.ev, X.ev, AL.ev, cmp_t, cmp_f, arEv, V.plain, V2.plain, S.plain, S0.plain, V.val, V2.val, S.val, S0.val, bV, iV, List.all_cons, List.all_nil, Bool.and_true, Bool.and_self, envOf_i, envOf_b, envOf_d, List.map_cons, List.map_nil, true_and, Bool.not_eq_true', Bool.not_eq_false', Bool.not_not, Bool.and_eq_true, and_f, cell_lg, cell_lb, cell_lr, cmpP, val_i, val_b, val_d, aget, Nat.reduceBEq, beq_self_eq_true, Bool.false_eq_true, if_true, if_false, Nat.reduceLT, Nat.reduceSub, Nat.sub_self, Nat.lt_irrefl]
  have F : ∀ b, sameL ds = b → Value.bool b = Value.bool (sameL ds) := fun b h => by rw [h]
  have N : ¬ ((iAt ds 0 = iAt ds 9 ∧ iAt ds 1 = iAt ds 10 ∧ iAt ds 2 = iAt ds 11 ∧ iAt ds 3 = iAt ds 12) ∧ iAt ds 4 = iAt ds 13 ∧ iAt ds 6 = iAt ds 15 ∧ iAt ds 7 = iAt ds 16) → Value.bool false = Value.bool (sameL ds) := fun h => F _ (by rw [sameL, sameB, decide_eq_false h, Bool.false_and])
  refine ⟨fun h0 => ⟨fun h1 => ⟨fun h2 => ⟨fun h3 => ⟨fun h4 => ⟨fun h5 => ?_, fun h => N (by omega)⟩, fun h => N (by omega)⟩, fun h => N (by omega)⟩, fun h => N (by omega)⟩, fun h => N (by omega)⟩, fun h => N (by omega)⟩
  have hS : sameL ds = (eqX 2 (rAt ds 5) (rAt ds 14) && eqX 6 (rAt ds 8) (rAt ds 17)) := by
    rw [sameL, sameB, decide_eq_true (by omega), Bool.true_and]
  rw [hS]
  clear N F hS hr
  generalize e5 : rAt ds 5 = a at *
  generalize e14 : rAt ds 14 = b at *
  generalize e8 : rAt ds 8 = s at *
  generalize e17 : rAt ds 17 = t at *
  refine ⟨fun h => ?_, fun h => ?_⟩
  · rw [eqX, decide_eq_false (by omega)]; rfl
  have hab : a.length = b.length := by omega
  have hX : eqX 2 a b = eqN 2 a b a.length 0 := by rw [eqX, decide_eq_true hab]; rfl
  rw [hX]
  refine TT.sat_loop (fun v => ∃ i : Nat, v.i 0 = i ∧ i ≤ a.length ∧ eqN 2 a b (a.length - i) i = eqN 2 a b a.length 0) (fun v => a.length - (v.i 0).toNat)
    ⟨0, by simp [val_i, aget, E.ev], by omega, rfl⟩ (fun v hv => ?_)
  obtain ⟨i, i0, i1, i2⟩ := hv
  simp only [TT.sat_ret, TT.sat_ite, TT.sat_ob, TT.sat_next, TT.sat_stuck, put_i, put_b, put_d, put_fi, put_fb, put_fd, Ob.ok, B.ev, E.ev, X.ev, AL.ev, cmp_t, cmp_f, arEv, V.plain, V2.plain, S.plain, S0.plain, V.val, V2.val, S.val, S0.val, bV, iV, List.all_cons, List.all_nil, Bool.and_true, Bool.and_self, envOf_i, envOf_b, envOf_d, List.map_cons, List.map_nil, true_and, Bool.not_eq_true', Bool.not_eq_false', Bool.not_not, Bool.and_eq_true, and_f, cell_lg, cell_lb, cell_lr, cmpP, val_i, val_b, val_d, aget, Nat.reduceBEq, beq_self_eq_true, Bool.false_eq_true, if_true, if_false, Nat.reduceLT, Nat.reduceSub, Nat.sub_self, Nat.lt_irrefl, i0, e5, e14, e8, e17]
  refine ⟨fun hc => ?_, fun hc => ?_⟩
  · have hi : i < a.length := by omega
    obtain ⟨f, hf⟩ : ∃ f, a.length - i = f + 1 := ⟨a.length - i - 1, by omega⟩
    have hf' : a.length - (i + 1) = f := by omega
    rw [hf, eqN] at i2
    rw [wrap_in ((i : Int) + 1) (by omega) (by omega)]
    refine ⟨by omega, by omega, by omega, by omega, fun q => ?_, fun q => ⟨⟨i + 1, rfl, by omega, ?_⟩, by omega⟩⟩
    · rw [← i2, show eqC a b i 2 = false by rw [← Bool.not_eq_true, eqC_iff]; exact fun g => q ⟨g 0 (by omega), g 1 (by omega)⟩]; rfl
    · rw [hf', ← i2, show eqC a b i 2 = true by
        simp only [eqC, decide_eq_true_eq, Bool.and_eq_true, Bool.true_and]
        exact q]; rfl
  · have h0 : a.length - i = 0 := by omega
    rw [h0, eqN] at i2
    rw [← i2, Bool.true_and]
    refine ⟨fun h => ?_, fun h => ?_⟩
    · rw [eqX, decide_eq_false (by omega)]; rfl
    have hst : s.length = t.length := by omega
    have hX : eqX 6 s t = eqN 6 s t s.length 0 := by rw [eqX, decide_eq_true hst]; rfl
    rw [hX]
    refine TT.sat_loop (fun v => ∃ i : Nat, v.i 0 = i ∧ i ≤ s.length ∧ eqN 6 s t (s.length - i) i = eqN 6 s t s.length 0) (fun v => s.length - (v.i 0).toNat)
      ⟨0, by simp [val_i, aget, E.ev], by omega, rfl⟩ (fun u hu => ?_)
    obtain ⟨j, j0, j1, j2⟩ := hu
    simp only [TT.sat_ret, TT.sat_ite, TT.sat_ob, TT.sat_next, TT.sat_stuck, put_i, put_b, put_d, put_fi, put_fb, put_fd, Ob.ok, B.ev, E.ev, X.ev, AL.ev, cmp_t, cmp_f, arEv, V.plain, V2.plain, S.plain, S0.plain, V.val, V2.val, S.val, S0.val, bV, iV, List.all_cons, List.all_nil, Bool.and_true, Bool.and_self, envOf_i, envOf_b, envOf_d, List.map_cons, List.map_nil, true_and, Bool.not_eq_true', Bool.not_eq_false', Bool.not_not, Bool.and_eq_true, and_f, cell_lg, cell_lb, cell_lr, cmpP, val_i, val_b, val_d, aget, Nat.reduceBEq, beq_self_eq_true, Bool.false_eq_true, if_true, if_false, Nat.reduceLT, Nat.reduceSub, Nat.sub_self, Nat.lt_irrefl, j0, e5, e14, e8, e17]
    refine ⟨fun hc => ?_, fun hc => ?_⟩
    · have hj : j < s.length := by omega
      obtain ⟨f, hf⟩ : ∃ f, s.length - j = f + 1 := ⟨s.length - j - 1, by omega⟩
      have hf' : s.length - (j + 1) = f := by omega
      rw [hf, eqN] at j2
      rw [wrap_in ((j : Int) + 1) (by omega) (by omega)]
      refine ⟨by omega, by omega, by omega, by omega, fun q => ?_, fun q => ⟨⟨j + 1, rfl, by omega, ?_⟩, by omega⟩⟩
      · rw [← j2, show eqC s t j 6 = false by rw [← Bool.not_eq_true, eqC_iff]; exact fun g => q ⟨⟨g 0 (by omega), g 1 (by omega)⟩, ⟨g 2 (by omega), g 3 (by omega)⟩, g 4 (by omega), g 5 (by omega)⟩]; rfl
      · rw [hf', ← j2, show eqC s t j 6 = true by
          simp only [eqC, decide_eq_true_eq, Bool.and_eq_true, Bool.true_and]
          omega]; rfl
    · have h0 : s.length - j = 0 := by omega
      rw [h0, eqN] at j2
      rw [← j2]
def K79 : Interp where
  fi n l := K78.fi n l
  fb n l := match n with | 128 => feStR l | 129 => sameL l | n => K78.fb n l
  fd _ _ := []
theorem K79_K78 {ρ : Env} (h : Sees ρ K79 132) : Sees ρ K78 128 := h.trans (by decide) fun n l hn => by
  refine ⟨?_, ?_⟩
  ·
    rfl
  ·
    simp only [K79]
    split <;> first | omega | rfl
def cFeSame := ctD [feat, feat] fun al => .ret (bV (bF 129 sameL al))
theorem cFeSame_ok {ρ : Env} (h : Sees ρ K79 132) : CtOne Tryz.prog ρ 35 cFeSame :=
  ctD_ok gFeSame (fun _ => rfl) (fun al => by simp only [iV, bV, V.s0, V.val, V2.val, S.val, S0.val, bF_ev (s := 129) (f := sameL) (fun l => by rw [(h 129 l (by decide)).2]; simp only [K79])]; try rfl)
def ctE11 : Ct := (35, cFeSame) :: ctE10
theorem ctE11_ok {ρ : Env} (h : Sees ρ K79 132) : CtOk Tryz.prog ρ ctE11 := .cons (cFeSame_ok h) (ctE10_ok (K79_K78 h))
end Go.Proofs.YtldbejmgalhdaaaGreat
/- Chapter 07: the tree of feature.Shown. -/
namespace Go.Proofs.YtldbejmgalhdaaaGreat
open Go.RowKit
def featK : List CK := [.int .i64, .int .i64, .int .i64, .int .i64, .int .i64, .sl ptK, .int .i64, .int .i64, .sl secK]
def feats : Sh := .one (.sl featK)
-- term trList: call Tryz.prog ctE11 (Lt.of []) 100 34 (symArgs 0 [feats]) [] 0
def trList : TT OpR :=
(.loop 0 1000 ⟨[(0, (.lit 0)), (1, (.lit 0))], [], []⟩
 (.ite (.cmp .lss (.var 1001) (.len (.var 0)))
 (.ob (.tru (.cmp .leq (.lit 0) (.var 1001)))
 (.ob (.tru (.cmp .lss (.var 1001) (.len (.var 0))))
 (.ite (.not (.fn 76 (.i (.rd (.var 0) (.var 1001) 0) (.i (.rd (.var 0) (.var 1001) 1) (.i (.rd (.var 0) (.var 1001) 2) (.i (.rd (.var 0) (.var 1001) 3) (.i (.rd (.var 0) (.var 1001) 4) (.x (.rd (.var 0) (.var 1001) 5) (.i (.rd (.var 0) (.var 1001) 6) (.i (.rd (.var 0) (.var 1001) 7) (.x (.rd (.var 0) (.var 1001) 8) .nil)))))))))))
 (.ret ((.v (.one (.z (.bool (.lit false))))), [], 2))
 (.ite (.cmp .leq (.rd (.var 0) (.var 1001) 0) (.var 1000))
 (.ret ((.v (.one (.z (.bool (.lit false))))), [], 2))
 (.next 0 ⟨[(0, (.rd (.var 0) (.var 1001) 0)), (1, (.ar .add .i64 (.var 1001) (.lit 1)))], [], []⟩)))))
 (.ret ((.v (.one (.z (.bool (.cmp .leq (.len (.var 0)) (.lit 300)))))), [], 2))))
-- end trList
def trList_h : List (Nat × St) := [
(0, ⟨([(.v (.one (.z (.ext [(.int .i64), (.int .i64), (.int .i64), (.int .i64), (.int .i64), (.sl [(.int .i64), (.int .i64)]), (.int .i64), (.int .i64), (.sl [(.int .i64), (.int .i64), (.int .i64), (.int .i64), (.int .i64), (.int .i64)])] (.var 0) false)))), (.v (.one (.z .any))), (.v (.one (.z (.bool (.lit false))))), (.v (.one (.z (.int .i64 (.var 1000))))), (.v (.one (.z .any))), (.v (.one (.z .any))), (.v (.one (.z (.ext [(.int .i64), (.int .i64), (.int .i64), (.int .i64), (.int .i64), (.sl [(.int .i64), (.int .i64)]), (.int .i64), (.int .i64), (.sl [(.int .i64), (.int .i64), (.int .i64), (.int .i64), (.int .i64), (.int .i64)])] (.var 0) false)))), (.v (.one (.z (.int .i64 (.len (.var 0)))))), (.v (.one (.z (.int .i64 (.var 1001)))))] ++ List.replicate 18 V.any), [], 1, []⟩)]
def trList_j : List (FuncId × Nat × Nat × St) := [
]
set_option maxRecDepth 100000 in
theorem trList_is : T.norm 0 (call Tryz.prog ctE11 ⟨Lt.un (Lt.of []), trList_h, trList_j⟩ 100 34 (symArgs 0 [feats]) [] 0) TT.ret = trList := by kernel_rfl
theorem trList_low : trList.low 1000 = true := by kernel_rfl
-- term trFeShown: call Tryz.prog ctE11 (Lt.of []) 100 52 (symArgs 0 [feats, pt]) [] 0
def trFeShown : TT OpR :=
(.loop 0 2000 ⟨[(0, (.lit 0)), (1, (.lit 0))], [], []⟩
 (.ite (.cmp .lss (.var 2001) (.len (.var 0)))
 (.ob (.tru (.cmp .leq (.lit 0) (.var 2001)))
 (.ob (.tru (.cmp .lss (.var 2001) (.len (.var 0))))
 (.ite (.not (.fn 76 (.i (.rd (.var 0) (.var 2001) 0) (.i (.rd (.var 0) (.var 2001) 1) (.i (.rd (.var 0) (.var 2001) 2) (.i (.rd (.var 0) (.var 2001) 3) (.i (.rd (.var 0) (.var 2001) 4) (.x (.rd (.var 0) (.var 2001) 5) (.i (.rd (.var 0) (.var 2001) 6) (.i (.rd (.var 0) (.var 2001) 7) (.x (.rd (.var 0) (.var 2001) 8) .nil)))))))))))
 (.ret ((.tup [(.one (.z (.int .i64 (.lit 0)))), (.one (.z (.int .i64 (.lit 1))))]), [], 3))
 (.ite (.cmp .leq (.rd (.var 0) (.var 2001) 0) (.var 2000))
 (.ret ((.tup [(.one (.z (.int .i64 (.lit 0)))), (.one (.z (.int .i64 (.lit 1))))]), [], 3))
 (.next 0 ⟨[(0, (.rd (.var 0) (.var 2001) 0)), (1, (.ar .add .i64 (.var 2001) (.lit 1)))], [], []⟩)))))
 (.ite (.not (.cmp .leq (.len (.var 0)) (.lit 300)))
 (.ret ((.tup [(.one (.z (.int .i64 (.lit 0)))), (.one (.z (.int .i64 (.lit 1))))]), [], 3))
 (.ite (.not (.fn 3 (.i (.var 1) (.i (.var 2) .nil))))
 (.ret ((.tup [(.one (.z (.int .i64 (.lit 0)))), (.one (.z (.int .i64 (.lit 1))))]), [], 3))
 (.loop 1 4000 ⟨[(1, (.lit 100000)), (0, (.lit 0))], [], []⟩
 (.ite (.cmp .lss (.var 4000) (.len (.var 0)))
 (.ob (.tru (.cmp .leq (.lit 0) (.var 4000)))
 (.ob (.tru (.cmp .lss (.var 4000) (.len (.var 0))))
 (.ite (.cmp .lss (.rd (.var 0) (.var 4000) 6) (.var 4001))
 (.ite (.cmp .eql (.rd (.var 0) (.var 4000) 1) (.lit 4))
 (.next 1 ⟨[(1, (.var 4001)), (0, (.ar .add .i64 (.var 4000) (.lit 1)))], [], []⟩)
 (.ite (.cmp .eql (.rd (.var 0) (.var 4000) 1) (.lit 3))
 (.ite (.cmp .eql (.rd (.var 0) (.var 4000) 1) (.lit 3))
 (.ite (.cmp .eql (.fn 71 (.i (.var 1) (.i (.var 2) (.x (.rd (.var 0) (.var 4000) 5) .nil)))) (.lit 0))
 (.ite (.cmp .geq (.fn 70 (.i (.var 1) (.i (.var 2) (.x (.rd (.var 0) (.var 4000) 5) .nil)))) (.lit 0))
 (.next 1 ⟨[(1, (.rd (.var 0) (.var 4000) 6)), (0, (.ar .add .i64 (.var 4000) (.lit 1)))], [], []⟩)
 (.next 1 ⟨[(1, (.var 4001)), (0, (.ar .add .i64 (.var 4000) (.lit 1)))], [], []⟩))
 (.next 1 ⟨[(1, (.var 4001)), (0, (.ar .add .i64 (.var 4000) (.lit 1)))], [], []⟩))
 (.ite (.cmp .eql (.fn 13 (.i (.var 1) (.i (.var 2) (.i (.rd (.var 0) (.var 4000) 2) (.i (.rd (.var 0) (.var 4000) 3) (.i (.rd (.var 0) (.var 4000) 2) (.i (.rd (.var 0) (.var 4000) 3) (.i (.rd (.var 0) (.var 4000) 4) .nil)))))))) (.lit 0))
 (.ite (.fn 7 (.i (.var 1) (.i (.var 2) (.i (.rd (.var 0) (.var 4000) 2) (.i (.rd (.var 0) (.var 4000) 3) (.i (.rd (.var 0) (.var 4000) 2) (.i (.rd (.var 0) (.var 4000) 3) (.i (.rd (.var 0) (.var 4000) 4) .nil))))))))
 (.next 1 ⟨[(1, (.rd (.var 0) (.var 4000) 6)), (0, (.ar .add .i64 (.var 4000) (.lit 1)))], [], []⟩)
 (.next 1 ⟨[(1, (.var 4001)), (0, (.ar .add .i64 (.var 4000) (.lit 1)))], [], []⟩))
 (.next 1 ⟨[(1, (.var 4001)), (0, (.ar .add .i64 (.var 4000) (.lit 1)))], [], []⟩)))
 (.ite (.cmp .eql (.rd (.var 0) (.var 4000) 1) (.lit 6))
 (.ite (.cmp .eql (.fn 71 (.i (.var 1) (.i (.var 2) (.x (.rd (.var 0) (.var 4000) 5) .nil)))) (.lit 0))
 (.ite (.cmp .geq (.fn 70 (.i (.var 1) (.i (.var 2) (.x (.rd (.var 0) (.var 4000) 5) .nil)))) (.lit 0))
 (.next 1 ⟨[(1, (.rd (.var 0) (.var 4000) 6)), (0, (.ar .add .i64 (.var 4000) (.lit 1)))], [], []⟩)
 (.next 1 ⟨[(1, (.var 4001)), (0, (.ar .add .i64 (.var 4000) (.lit 1)))], [], []⟩))
 (.next 1 ⟨[(1, (.var 4001)), (0, (.ar .add .i64 (.var 4000) (.lit 1)))], [], []⟩))
 (.ite (.cmp .eql (.fn 13 (.i (.var 1) (.i (.var 2) (.i (.rd (.var 0) (.var 4000) 2) (.i (.rd (.var 0) (.var 4000) 3) (.i (.rd (.var 0) (.var 4000) 2) (.i (.rd (.var 0) (.var 4000) 3) (.i (.rd (.var 0) (.var 4000) 4) .nil)))))))) (.lit 0))
 (.ite (.fn 7 (.i (.var 1) (.i (.var 2) (.i (.rd (.var 0) (.var 4000) 2) (.i (.rd (.var 0) (.var 4000) 3) (.i (.rd (.var 0) (.var 4000) 2) (.i (.rd (.var 0) (.var 4000) 3) (.i (.rd (.var 0) (.var 4000) 4) .nil))))))))
 (.next 1 ⟨[(1, (.rd (.var 0) (.var 4000) 6)), (0, (.ar .add .i64 (.var 4000) (.lit 1)))], [], []⟩)
 (.next 1 ⟨[(1, (.var 4001)), (0, (.ar .add .i64 (.var 4000) (.lit 1)))], [], []⟩))
 (.next 1 ⟨[(1, (.var 4001)), (0, (.ar .add .i64 (.var 4000) (.lit 1)))], [], []⟩)))))
 (.next 1 ⟨[(1, (.var 4001)), (0, (.ar .add .i64 (.var 4000) (.lit 1)))], [], []⟩))))
 (.ret ((.tup [(.one (.z (.int .i64 (.var 4001)))), (.one (.z (.int .i64 (.lit 0))))]), [], 8))))))))
-- end trFeShown
def trFeShown_h : List (Nat × St) := [
(1, ⟨([(.v (.one (.z (.ext [(.int .i64), (.int .i64), (.int .i64), (.int .i64), (.int .i64), (.sl [(.int .i64), (.int .i64)]), (.int .i64), (.int .i64), (.sl [(.int .i64), (.int .i64), (.int .i64), (.int .i64), (.int .i64), (.int .i64)])] (.var 0) false)))), (.v (.one (.z .any))), (.v (.one (.z (.bool (.lit false))))), (.v (.one (.z (.int .i64 (.var 2000))))), (.v (.one (.z .any))), (.v (.one (.z .any))), (.v (.one (.z (.ext [(.int .i64), (.int .i64), (.int .i64), (.int .i64), (.int .i64), (.sl [(.int .i64), (.int .i64)]), (.int .i64), (.int .i64), (.sl [(.int .i64), (.int .i64), (.int .i64), (.int .i64), (.int .i64), (.int .i64)])] (.var 0) false)))), (.v (.one (.z (.int .i64 (.len (.var 0)))))), (.v (.one (.z (.int .i64 (.var 2001)))))] ++ List.replicate 18 V.any), [(0, (.cells 23 [(.z (.int .i64 (.var 1))), (.z (.int .i64 (.var 2)))]))], 2, []⟩),
(3, ⟨([(.v (.one (.z (.ext [(.int .i64), (.int .i64), (.int .i64), (.int .i64), (.int .i64), (.sl [(.int .i64), (.int .i64)]), (.int .i64), (.int .i64), (.sl [(.int .i64), (.int .i64), (.int .i64), (.int .i64), (.int .i64), (.int .i64)])] (.var 0) false)))), (.v (.agg [(.z (.int .i64 (.var 1))), (.z (.int .i64 (.var 2)))])), (.v (.one (.z .any))), (.v (.one (.z (.ptr 0 0)))), (.v (.one (.z (.int .i64 (.lit 0))))), (.v (.one (.z (.int .i64 (.lit 0))))), (.v (.one (.z (.int .i64 (.var 4001))))), (.v (.one (.z .any))), (.v (.one (.z .any))), (.v (.one (.z (.ext [(.int .i64), (.int .i64), (.int .i64), (.int .i64), (.int .i64), (.sl [(.int .i64), (.int .i64)]), (.int .i64), (.int .i64), (.sl [(.int .i64), (.int .i64), (.int .i64), (.int .i64), (.int .i64), (.int .i64)])] (.var 0) false)))), (.v (.one (.z (.bool (.cmp .leq (.len (.var 0)) (.lit 300)))))), (.v (.one (.z (.bool (.not (.cmp .leq (.len (.var 0)) (.lit 300))))))), (.v (.one (.z (.bool (.lit false))))), (.v (.agg [(.z (.int .i64 (.var 1))), (.z (.int .i64 (.var 2)))])), (.v (.one (.z (.bool (.fn 3 (.i (.var 1) (.i (.var 2) .nil))))))), (.v (.one (.z (.bool (.not (.fn 3 (.i (.var 1) (.i (.var 2) .nil)))))))), (.v (.one (.z (.bool (.not (.fn 3 (.i (.var 1) (.i (.var 2) .nil)))))))), (.v (.one (.z (.ext [(.int .i64), (.int .i64), (.int .i64), (.int .i64), (.int .i64), (.sl [(.int .i64), (.int .i64)]), (.int .i64), (.int .i64), (.sl [(.int .i64), (.int .i64), (.int .i64), (.int .i64), (.int .i64), (.int .i64)])] (.var 0) false)))), (.v (.one (.z (.int .i64 (.len (.var 0)))))), (.v (.one (.z (.int .i64 (.var 4000)))))] ++ List.replicate 17 V.any), [(0, (.cells 23 [(.z (.int .i64 (.var 1))), (.z (.int .i64 (.var 2)))]))], 4, []⟩)]
def trFeShown_j : List (FuncId × Nat × Nat × St) := [
]
set_option maxRecDepth 100000 in
theorem trFeShown_is : T.norm 0 (call Tryz.prog ctE11 ⟨Lt.un (Lt.of []), trFeShown_h, trFeShown_j⟩ 100 52 (symArgs 0 [feats, pt]) [] 0) TT.ret = trFeShown := by kernel_rfl
theorem trFeShown_low : trFeShown.low 1000 = true := by kernel_rfl
end Go.Proofs.YtldbejmgalhdaaaGreat
/- Chapter 07: feature.List, feature.Shown. -/
namespace Go.Proofs.YtldbejmgalhdaaaGreat
open Go.RowKit
def featRow (r : Rows) (i : Nat) : Bool := featB (lg r i 0) (lg r i 1) (lg r i 2) (lg r i 3) (lg r i 4) (lr r i 5) (lg r i 6) (lg r i 7) (lr r i 8)
def lisN (r : Rows) : Nat → Nat → Int → Bool
  | 0, _, _ => true
  | f + 1, i, last => (featRow r i && decide (last < lg r i 0)) && lisN r f (i + 1) (lg r i 0)
def listB (r : Rows) : Bool := lisN r r.length 0 0 && decide (r.length ≤ 300)
def listL (ds : List D) : Bool := listB (rAt ds 0)
def covRow (r : Rows) (i : Nat) (px py : Int) : Bool := covX (lg r i 1) (lg r i 2) (lg r i 3) (lg r i 4) (lr r i 5) px py
def shoN (r : Rows) (px py : Int) : Nat → Nat → Int → Int
  | 0, _, m => m
  | f + 1, i, m => shoN r px py f (i + 1) (if lg r i 6 < m ∧ covRow r i px py = true then lg r i 6 else m)
def shownO (ds : List D) : Bool := listB (rAt ds 0) && placeB (iAt ds 1) (iAt ds 2)
def shownR (ds : List D) : Int := if shownO ds then shoN (rAt ds 0) (iAt ds 1) (iAt ds 2) (rAt ds 0).length 0 100000 else 0
def shownE (ds : List D) : Int := if shownO ds then 0 else 1
theorem feats_len {W : World} {vals : List Value} {ds : List D} {sh : List Sh} (h : repSh W (feats :: sh) vals ds) : (rAt ds 0).length ≤ 281474976710656 := by
  obtain ⟨v, vs', d, ds', rfl, rfl, ⟨d, rfl, h⟩, _⟩ := h
  rw [rep_sl] at h
  obtain ⟨r, rfl, a, n, c, _, hs, _⟩ := h
  have e1 := hs.len
  have e2 := hs.big
  show r.length ≤ _
  omega
theorem K79b76 (W : World) (ds l : List D) : (envOf K79 W ds).fb 76 l = featL l := by simp only [envOf, K79, K78, K77, K76, K75, K74, K73, K72, K71, KI, KH, KG, KF]
theorem K79b3 (W : World) (ds l : List D) : (envOf K79 W ds).fb 3 l = placeL l := by simp only [envOf, K79, K78, K77, K76, K75, K74, K73, K72, K71, KI, KH, KG, KF, KE, KD, KC, KB, KA, K9, K8, K7, K6, K5, K]
theorem K79i70 (W : World) (ds l : List D) : (envOf K79 W ds).fi 70 l = pinR l := by simp only [envOf, K79, K78, K77, K76, K75, K74, K73, K72, K71, KI, KH, KG, KF, KE, KD, KC]
theorem K79i71 (W : World) (ds l : List D) : (envOf K79 W ds).fi 71 l = pinE l := by simp only [envOf, K79, K78, K77, K76, K75, K74, K73, K72, K71, KI, KH, KG, KF, KE, KD, KC]
theorem K79i13 (W : World) (ds l : List D) : (envOf K79 W ds).fi 13 l = nearE l := by simp only [envOf, K79, K78, K77, K76, K75, K74, K73, K72, K71, KI, KH, KG, KF, KE, KD, KC, KB, KA, K9, K8, K7, K6, K5, K]
theorem K79b7 (W : World) (ds l : List D) : (envOf K79 W ds).fb 7 l = nearR l := by simp only [envOf, K79, K78, K77, K76, K75, K74, K73, K72, K71, KI, KH, KG, KF, KE, KD, KC, KB, KA, K9, K8, K7, K6, K5, K]
theorem featRow_eq (r : Rows) (i : Nat) : featB (lg r i 0) (lg r i 1) (lg r i 2) (lg r i 3) (lg r i 4) (lr r i 5) (lg r i 6) (lg r i 7) (lr r i 8) = featRow r i := rfl
set_option maxHeartbeats 2000000 in
theorem gFeShown : Gives Tryz.prog 52 [feats, pt] (fun ds => .tuple #[.int .i64 (shownR ds), .int .i64 (shownE ds)]) := by
  refine GivesIf.all (fn_gives K79 (by kernel_rfl) (fun ρ h => ctE11_ok (Sees.of h 132)) (by kernel_rfl) trFeShown_is trFeShown_low (by decide) (fun W vals ds hr _ => ?_))
  have hlen := feats_len hr
  simp only [trFeShown]
  have F : shownO ds = false → Value.tuple #[.int .i64 0, .int .i64 1] = Value.tuple #[.int .i64 (shownR ds), .int .i64 (shownE ds)] := fun h => by simp [shownR, shownE, h]
  have T : shownO ds = true → ∀ m, shoN (rAt ds 0) (iAt ds 1) (iAt ds 2) (rAt ds 0).length 0 100000 = m → Value.tuple #[.int .i64 m, .int .i64 0] = Value.tuple #[.int .i64 (shownR ds), .int .i64 (shownE ds)] := fun h m h' => by simp [shownR, shownE, h, h']
  have hO : shownO ds = (listB (rAt ds 0) && placeB (iAt ds 1) (iAt ds 2)) := rfl
  clear hr
  generalize e0 : rAt ds 0 = r at *
  generalize e1 : iAt ds 1 = px at *
  generalize e2 : iAt ds 2 = py at *
  refine TT.sat_loop (fun v => ∃ i : Nat, v.i 1 = i ∧ i ≤ r.length ∧ (lisN r (r.length - i) i (v.i 0) && decide (r.length ≤ 300)) = listB r) (fun v => r.length - (v.i 1).toNat)
    ⟨0, by simp [val_i, aget, E.ev], by omega, rfl⟩ (fun v hv => ?_)
  obtain ⟨i, i0, i1, i2⟩ := hv
  simp only [TT.sat_ret, TT.sat_ite, TT.sat_ob, TT.sat_next, TT.sat_stuck, put_i, put_b, put_d, put_fi, put_fb, put_fd, Ob.ok, B.ev, E.ev, X.ev, AL.ev, cmp_t, cmp_f, arEv, V.plain, V2.plain, S.plain, S0.plain, V.val, V2.val, S.val, S0.val, bV, iV, List.all_cons, List.all_nil, Bool.and_true, Bool.and_self, envOf_i, envOf_b, envOf_d, List.map_cons, List.map_nil, true_and, Bool.not_eq_true', Bool.not_eq_false', Bool.not_not, Bool.and_eq_true, and_f, cell_lg, cell_lb, cell_lr, cmpP, val_i, val_b, val_d, aget, Nat.reduceBEq, beq_self_eq_true, Bool.false_eq_true, if_true, if_false, Nat.reduceLT, Nat.reduceSub, Nat.sub_self, Nat.lt_irrefl, i0, e0, e1, e2, K79b76, K79b3, feat_nine, place_two, featRow_eq]
  refine ⟨fun hc => ?_, fun hc => ?_⟩
  · have hi : i < r.length := by omega
    obtain ⟨f, hf⟩ : ∃ f, r.length - i = f + 1 := ⟨r.length - i - 1, by omega⟩
    have hf' : r.length - (i + 1) = f := by omega
    rw [hf, lisN] at i2
    rw [wrap_in ((i : Int) + 1) (by omega) (by omega)]
    refine ⟨by omega, by omega, fun h => F ?_, fun h => ⟨fun g => F ?_, fun g => ⟨⟨i + 1, rfl, by omega, ?_⟩, by omega⟩⟩⟩
    · rw [hO, ← i2, h]; rfl
    · rw [hO, ← i2, h, decide_eq_false (by omega)]; rfl
    · rw [hf', ← i2, h, decide_eq_true (p := v.i 0 < lg r i 0) (by omega)]; rfl
  · have h0 : r.length - i = 0 := by omega
    rw [h0, lisN, Bool.true_and] at i2
    refine ⟨fun h => F ?_, fun h => ⟨fun g => F ?_, fun g => ?_⟩⟩
    · rw [hO, ← i2, decide_eq_false (by omega)]; rfl
    · rw [hO, g, Bool.and_false]
    have hO' : shownO ds = true := by rw [hO, ← i2, g, decide_eq_true (by omega)]; rfl
    replace T := T hO'
    clear F hO hO' i2
    refine TT.sat_loop (fun v => ∃ i : Nat, v.i 0 = i ∧ i ≤ r.length ∧ shoN r px py (r.length - i) i (v.i 1) = shoN r px py r.length 0 100000) (fun v => r.length - (v.i 0).toNat)
      ⟨0, by simp [val_i, aget, E.ev], by omega, rfl⟩ (fun u hu => ?_)
    obtain ⟨j, j0, j1, j2⟩ := hu
    simp only [TT.sat_ret, TT.sat_ite, TT.sat_ob, TT.sat_next, TT.sat_stuck, put_i, put_b, put_d, put_fi, put_fb, put_fd, Ob.ok, B.ev, E.ev, X.ev, AL.ev, cmp_t, cmp_f, arEv, V.plain, V2.plain, S.plain, S0.plain, V.val, V2.val, S.val, S0.val, bV, iV, List.all_cons, List.all_nil, Bool.and_true, Bool.and_self, envOf_i, envOf_b, envOf_d, List.map_cons, List.map_nil, true_and, Bool.not_eq_true', Bool.not_eq_false', Bool.not_not, Bool.and_eq_true, and_f, cell_lg, cell_lb, cell_lr, cmpP, val_i, val_b, val_d, aget, Nat.reduceBEq, beq_self_eq_true, Bool.false_eq_true, if_true, if_false, Nat.reduceLT, Nat.reduceSub, Nat.sub_self, Nat.lt_irrefl, j0, e0, e1, e2, K79i70, K79i71, K79i13, K79b7]
    refine ⟨fun hc => ?_, fun hc => ?_⟩
    · have hj : j < r.length := by omega
      obtain ⟨f, hf⟩ : ∃ f, r.length - j = f + 1 := ⟨r.length - j - 1, by omega⟩
      have hf' : r.length - (j + 1) = f := by omega
      rw [hf, shoN] at j2
      have hw : IntKind.i64.wrap ((j : Int) + 1) = (j : Int) + 1 := wrap_in _ (by omega) (by omega)
      simp only [hw]
      have N : ∀ m, (if lg r j 6 < u.i 1 ∧ covRow r j px py = true then lg r j 6 else u.i 1) = m → ∃ i : Nat, (j : Int) + 1 = i ∧ i ≤ r.length ∧ shoN r px py (r.length - i) i m = shoN r px py r.length 0 100000 :=
        fun m h => ⟨j + 1, rfl, by omega, by rw [hf', ← j2, h]⟩
      have hm : r.length - ((j : Int) + 1).toNat < r.length - (j : Int).toNat := by omega
      have C4 : lg r j 1 = 4 → covRow r j px py = false := fun h => by unfold covRow covX; rw [if_pos h]
      have CA : (lg r j 1 = 3 ∨ lg r j 1 = 6) → covRow r j px py = decide (pinE [.i px, .i py, .l (lr r j 5)] = 0 ∧ 0 ≤ pinR [.i px, .i py, .l (lr r j 5)]) := fun h => by unfold covRow covX; rw [if_neg (by omega), if_pos h]
      have CD : lg r j 1 ≠ 4 → lg r j 1 ≠ 3 → lg r j 1 ≠ 6 → covRow r j px py = (decide (nearE [.i px, .i py, .i (lg r j 2), .i (lg r j 3), .i (lg r j 2), .i (lg r j 3), .i (lg r j 4)] = 0) && nearR [.i px, .i py, .i (lg r j 2), .i (lg r j 3), .i (lg r j 2), .i (lg r j 3), .i (lg r j 4)]) := fun h1 h2 h3 => by unfold covRow covX; rw [if_neg h1, if_neg (by omega)]
      refine ⟨by omega, by omega, ?_⟩
      clear hc hf hf' j2 T e0 e1 e2
      repeat' (first | (intro h; skip) | (refine And.intro ?_ ?_))
      all_goals first
        | exact hm
        | omega
        | (refine N _ (if_neg ?_); omega)
        | (refine N _ (if_neg ?_); rw [C4 (by omega)]; simp)
        | (refine N _ (if_neg ?_); rw [CA (by omega), decide_eq_true_eq]; omega)
        | (refine N _ (if_pos ⟨by omega, ?_⟩); rw [CA (by omega), decide_eq_true_eq]; omega)
        | (refine N _ (if_pos ⟨by omega, ?_⟩); rw [CD (by omega) (by omega) (by omega)]; simp [*]; done)
        | (refine N _ (if_neg (fun q => ?_)); have q2 := q.2; rw [CD (by omega) (by omega) (by omega), Bool.and_eq_true, decide_eq_true_eq] at q2; simp_all; done)
    · have h0 : r.length - j = 0 := by omega
      rw [h0, shoN] at j2
      exact T _ j2.symm
def K80 : Interp where
  fi n l := match n with | 132 => shownR l | 133 => shownE l | n => K79.fi n l
  fb n l := K79.fb n l
  fd _ _ := []
theorem K80_K79 {ρ : Env} (h : Sees ρ K80 134) : Sees ρ K79 132 := h.trans (by decide) fun n l hn => by
  refine ⟨?_, ?_⟩
  ·
    simp only [K80]
    split <;> first | omega | rfl
  ·
    rfl
def cFeShown := ctD [feats, pt] fun al => .ret (.tup [.one (sIF 132 shownR al), .one (sIF 133 shownE al)])
theorem cFeShown_ok {ρ : Env} (h : Sees ρ K80 134) : CtOne Tryz.prog ρ 52 cFeShown :=
  ctD_ok gFeShown (fun _ => rfl) (fun al => by simp only [V.val, V2.val, S.val, S0.val, sIF, sBF, List.map_cons, List.map_nil, iF_ev (s := 132) (f := shownR) (fun l => by rw [(h 132 l (by decide)).1]; simp only [K80]), iF_ev (s := 133) (f := shownE) (fun l => by rw [(h 133 l (by decide)).1]; simp only [K80])]; try rfl)
def ctE14 : Ct := (52, cFeShown) :: ctE11
theorem ctE14_ok {ρ : Env} (h : Sees ρ K80 134) : CtOk Tryz.prog ρ ctE14 := .cons (cFeShown_ok h) (ctE11_ok (K80_K79 h))
end Go.Proofs.YtldbejmgalhdaaaGreat
