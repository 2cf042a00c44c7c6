/- MZ, merged: Zx, Yf, Yg, Yk, Yl, G1, G2, G3. -/
import Derived.Test.YtcjaembdcfppfaaMK
import Derived.Test.YtcjaembdcfppfaaMC
import Derived.Handy
set_option linter.unusedSimpArgs false
set_option linter.unusedVariables false
/- Contracts of functions that answer with new lists, and with parts of their arguments (slices of the caller's). -/
namespace Go.Proofs.Ytcjaembdcfppfaa
open Go.RowKit

/-! ### Arguments without blocks of the call's own -/
def argE (sh : Sh) (v : V) : Option AL := match sh, v with
  | .one k, .v (.one s) => cellA0 k s
  | .agg ks, .v (.agg cs) => rowA cellA0 ks cs
  | _, _ => none
def argsE : List Sh → List V → Option AL
  | [], [] => some .nil
  | s :: sh, v :: vs => match argE s v, argsE sh vs with | some a, some b => some (a.app b) | _, _ => none
  | _, _ => none
theorem argsE_ok {ρ : Env} {σ : As} : ∀ (sh : List Sh) (args : List V) (a : AL), argsE sh args = some a → ∀ vals, DL (V.den ρ σ) args vals → repSh ρ.w sh vals (a.ev ρ)
  | [], [], a, h, vals, hd => by
    simp only [argsE, Option.some.injEq] at h
    subst h
    exact ⟨DL.nil_inv hd, by simp [AL.ev]⟩
  | s :: sh, v :: vs, a, h, vals, hd => by
    simp only [argsE] at h
    split at h
    · rename_i a1 a2 h1 h2
      simp only [Option.some.injEq] at h
      subst h
      obtain ⟨u, us, rfl, e1, e2⟩ := DL.cons_inv hd
      refine ⟨u, us, a1.ev ρ, a2.ev ρ, rfl, AL.app_ev _ _ _, ?_, argsE_ok sh vs a2 h2 us e2⟩
      unfold argE at h1
      split at h1
      · obtain ⟨d, e3, e4⟩ := cellA0_ok (W := ρ.w) (Below.refl _ _) _ _ _ h1 u e1
        exact ⟨d, e3, e4⟩
      · obtain ⟨ws, e3, rfl⟩ := e1
        exact ⟨ws, rfl, rowA_ok (cellA0_ok (W := ρ.w) (Below.refl _ _)) _ _ _ h1 ws e3⟩
      · cases h1
    · cases h
  | [], _ :: _, a, h, _, _ => by simp [argsE] at h
  | _ :: _, [], a, h, _, _ => by simp [argsE] at h

/-! ### New lists -/
structure NL where
  e : TypeId
  ks : List CK
  s : Nat
  rows : List D → Rows
def memN : List NL → AL → Nat → Mem
  | [], _, _ => []
  | l :: r, al, n => (n, .own l.e l.ks (.fn l.s al) (.lit 0)) :: memN r al (n + 1)
theorem memN_get {al : AL} : ∀ {nl : List NL} {n i : Nat}, (memN nl al n).get i = if n ≤ i then (nl[i - n]?).map fun l => Blk.own l.e l.ks (.fn l.s al) (.lit 0) else none
  | [], n, i => by simp [memN, Mem.get]
  | l :: r, n, i => by
    simp only [memN, Mem.get]
    by_cases e : n = i
    · subst e; simp
    · rw [if_neg (by simpa using e), memN_get (nl := r)]
      by_cases h : n ≤ i
      · rw [if_pos (by omega), if_pos h, show i - n = (i - (n + 1)) + 1 by omega, List.getElem?_cons_succ]
      · rw [if_neg (by omega), if_neg h]
def NewL (w0 W W' : World) (ds : List D) (l : NL) (v : Value) : Prop := ∃ xs, OwnRow W' w0.heap.size l.e l.ks.length v (l.rows ds).length xs ∧ RowsAt w0 l.ks xs (l.rows ds) ∧ (l.rows ds).length ≤ 281474976710656 ∧ (∃ a c, v = .slice a (l.rows ds).length c) ∧ ∀ k, roomOf v = some k → W.heap.size ≤ k ∧ k < W'.heap.size
structure NewLs (w0 W W' : World) (ds : List D) (nl : List NL) (vs : List Value) : Prop where
  len : vs.length = nl.length
  each : ∀ (k : Nat) (l : NL) (v : Value), nl[k]? = some l → vs[k]? = some v → NewL w0 W W' ds l v
  apart : ∀ (i j : Nat) (vi vj : Value) (a : Nat), vs[i]? = some vi → vs[j]? = some vj → roomOf vi = some a → roomOf vj = some a → i = j
def As.sayN (σ : As) (nx : Nat) (vs : List Value) : As := { σ with h := fun i m => if nx ≤ i ∧ i < nx + vs.length ∧ m = 0 then vs[i - nx]? else σ.h i m }
section
variable {P : Program} {ρ : Env} {σ : As} {nx : Nat} {vs : List Value}
theorem sayN_in {i : Nat} (h : nx ≤ i) (h2 : i < nx + vs.length) : (σ.sayN nx vs).h i 0 = vs[i - nx]? := if_pos ⟨h, h2, rfl⟩
theorem sayN_out {i : Nat} {m : Int} (h : ¬ (nx ≤ i ∧ i < nx + vs.length ∧ m = 0)) : (σ.sayN nx vs).h i m = σ.h i m := if_neg h
theorem sayN_own {i k : Nat} (h : (σ.sayN nx vs).own i k) : σ.own i k ∨ (nx ≤ i ∧ i < nx + vs.length ∧ ∃ v, vs[i - nx]? = some v ∧ roomOf v = some k) := by
  rcases h with h | ⟨m, u, h1, h2⟩
  · exact .inl (.inl h)
  · by_cases e : nx ≤ i ∧ i < nx + vs.length ∧ m = 0
    · obtain ⟨e1, e2, rfl⟩ := e
      rw [sayN_in e1 e2] at h1
      exact .inr ⟨e1, e2, u, h1, h2⟩
    · rw [sayN_out e] at h1
      exact .inl (.inr ⟨m, u, h1, h2⟩)
theorem step_sayN {mem : Mem} {W W' : World} {ds : List D} {nl : List NL} {al : AL} (hr : RelM ρ σ mem W) (hfr : ∀ i, nx ≤ i → i < nx + nl.length → ¬ σ.has i) (hb : Below W.heap.size W W') (hn : NewLs ρ.w W W' ds nl vs) (hs : ∀ l ∈ nl, (X.fn l.s al).ev ρ = l.rows ds) :
    Step ρ σ W (memN nl al nx) (σ.sayN nx vs) W' := by
  have none_h : ∀ i, nx ≤ i → i < nx + vs.length → ∀ m, σ.h i m = none := fun i h1 h2 m => by
    cases q : σ.h i m with
    | none => rfl
    | some y => exact absurd (.inr ⟨m, y, q⟩) (hfr i h1 (by rw [← hn.len]; exact h2))
  have room : ∀ i v k, vs[i]? = some v → roomOf v = some k → W.heap.size ≤ k ∧ k < W'.heap.size := fun i v k h1 h2 => by
    have hi : i < nl.length := by rw [← hn.len]; exact (List.getElem?_eq_some_iff.1 h1).1
    obtain ⟨xs, _, _, _, _, q⟩ := hn.each i nl[i] v (List.getElem?_eq_getElem hi) h1
    exact q k h2
  refine ⟨⟨fun _ _ h => h, fun i n u h => ?_⟩, hb.os, hb.tape, hb.output, hb.size, fun k hk _ => hb.block k hk, fun i hi _ => ?_, fun i a hi => ?_, fun hinj i j a hi hj => ?_, fun i b hi => ?_, Keep.of_eq (fun k hk => hb.block k hk)⟩
  · by_cases e : nx ≤ i ∧ i < nx + vs.length ∧ n = 0
    · rw [none_h i e.1 e.2.1] at h; cases h
    · rw [sayN_out e]; exact h
  · funext m
    refine sayN_out fun e => ?_
    rw [memN_get, if_pos e.1, Option.map_eq_none_iff, List.getElem?_eq_none_iff] at hi
    have := hn.len
    omega
  · rcases sayN_own hi with h | ⟨_, _, v, h1, h2⟩
    · exact .inl h
    · exact .inr (room _ _ _ h1 h2)
  · rcases sayN_own hi with h | ⟨a1, a2, v, h1, h2⟩
    · rcases sayN_own hj with h' | ⟨b1, b2, v', h1', h2'⟩
      · exact hinj i j a h h'
      · have q1 := hr.lt i a h
        have q2 := room _ _ _ h1' h2'
        omega
    · rcases sayN_own hj with h' | ⟨b1, b2, v', h1', h2'⟩
      · have q1 := hr.lt j a h'
        have q2 := room _ _ _ h1 h2
        omega
      · have q := hn.apart _ _ _ _ a h1 h1' h2 h2'
        omega
  · rw [memN_get] at hi
    by_cases hle : nx ≤ i
    · rw [if_pos hle, Option.map_eq_some_iff] at hi
      obtain ⟨l, hl, rfl⟩ := hi
      have hlt : i - nx < nl.length := (List.getElem?_eq_some_iff.1 hl).1
      have hlt' : i - nx < vs.length := by rw [hn.len]; exact hlt
      have hv := List.getElem?_eq_getElem hlt'
      obtain ⟨xs, h1, h2, h3, h4, h5⟩ := hn.each _ _ _ hl hv
      have ex : (X.fn l.s al).ev ρ = l.rows ds := hs l (List.mem_of_getElem? hl)
      refine ⟨vs[i - nx], xs, ?_, fun u hu => ?_, by rw [ex]; exact h1, by rw [ex]; exact h2.2, by rw [ex]; exact h3⟩
      · show (σ.sayN nx vs).h i 0 = _
        rw [sayN_in hle (by omega)]
        exact hv
      · have hu : (0 : Int) < u := hu
        rw [sayN_out (by omega)]
        exact none_h i hle (by omega) u
    · rw [if_neg hle] at hi; cases hi

def GivesN (P : Program) (f : FuncId) (sh : List Sh) (nl : List NL) (ok : List D → Prop) (res : World → List D → List Value → Value → Prop) : Prop :=
  ∀ (w0 W : World) (vals : List Value) (ds : List D), Below w0.heap.size w0 W → repSh w0 sh vals ds → ok ds → Calls P f vals.toArray W (fun en W' => ∃ vs u, en = .returned u ∧ res w0 ds vs u ∧ Below W.heap.size W W' ∧ NewLs w0 W W' ds nl vs)
def ctN (nl : List NL) (obs : List Ob) (out : V) (al : AL) (nx : Nat) : T OpR := T.obs obs (.ret (out, memN nl al nx, nx + nl.length))
theorem ctN_ok {f : FuncId} {sh : List Sh} {nl : List NL} {ok : List D → Prop} {res : World → List D → List Value → Value → Prop} (hg : GivesN P f sh nl ok res) {args : List V} {al : AL} (ha : argsE sh args = some al) {obs : List Ob} {out : V}
    (hobs : (∀ o ∈ obs, o.ok ρ) → ok (al.ev ρ)) (hs : ∀ l ∈ nl, ∀ a, ρ.fd l.s a = l.rows a) {q : OpR} (hq : (ctN nl obs out al nx).res ρ q)
    (hout : ∀ (σ' : As) vs u, (∀ k v, vs[k]? = some v → σ'.h (nx + k) 0 = some v ∧ ∃ a n c, v = .slice a n c) → vs.length = nl.length → res ρ.w (al.ev ρ) vs u → out.den ρ σ' u)
    {mem : Mem} {W : World} {vals : List Value} (hr : RelM ρ σ mem W) (hfr : Fr nx q.2.2 σ) (hd : DL (V.den ρ σ) args vals) : CallsIn (FR none) 0 P f vals.toArray W (RetTo ρ σ W nx q) := by
  obtain ⟨ho, hq⟩ := T.res_obs hq
  obtain rfl := res_ret hq
  have hc := hg ρ.w W vals (al.ev ρ) hr.base (argsE_ok sh args al ha vals hd) (hobs ho)
  have hw : CallsIn Fence.wide 0 P f vals.toArray W _ := callsIn_wide.2 hc
  refine CallsIn.mono (F := FR none) hw ?_
  rintro en W' ⟨vs, u, rfl, hres, hb, hn⟩
  have hstep := step_sayN (nx := nx) (al := al) hr (fun i h1 h2 => hfr i h1 h2) hb hn (fun l hl => by simp only [X.ev]; exact hs l hl _)
  refine ⟨u, σ.sayN nx vs, rfl, hout _ vs u (fun k v hk => ?_) hn.len hres, hstep, fun i hi => ?_⟩
  · have hlt : k < vs.length := (List.getElem?_eq_some_iff.1 hk).1
    have hk' : k < nl.length := by rw [← hn.len]; exact hlt
    obtain ⟨xs, _, _, _, ⟨a, c, e⟩, _⟩ := hn.each k _ v (List.getElem?_eq_getElem hk') hk
    refine ⟨?_, a, _, c, e⟩
    rw [sayN_in (by omega) (by omega), Nat.add_sub_cancel_left]
    exact hk
  · rcases hi with h | ⟨m, v, h⟩
    · exact .inl (.inl h)
    · by_cases e : nx ≤ i ∧ i < nx + vs.length ∧ m = 0
      · exact .inr ⟨e.1, by rw [hn.len] at e; exact e.2.1⟩
      · rw [sayN_out e] at h
        exact .inl (.inr ⟨m, v, h⟩)

structure LsAre (ρ : Env) (q : OpR) (nl : List NL) (ds : List D) (ss : List S0) : Prop where
  len : ss.length = nl.length
  each : ∀ (k : Nat) (l : NL) (s : S0), nl[k]? = some l → ss[k]? = some s → ∃ x, lrows q.2.1 l.e l.ks s = some x ∧ x.ev ρ = l.rows ds
  apart : ∀ (i j id : Nat) (v v' : E), ss[i]? = some (.own id v) → ss[j]? = some (.own id v') → i = j
theorem lsAre_nil {q : OpR} {ds : List D} : LsAre ρ q [] ds [] := ⟨rfl, fun k l s h => by simp at h, fun i j id v v' h => by simp at h⟩
theorem lsAre_one {q : OpR} {l : NL} {ds : List D} {s : S0} {x : X} (h : lrows q.2.1 l.e l.ks s = some x) (hx : x.ev ρ = l.rows ds) : LsAre ρ q [l] ds [s] := by
  refine ⟨rfl, fun k l' s' hk hs => ?_, fun i j id v v' hi hj => ?_⟩
  · cases k with
    | zero =>
      simp only [List.getElem?_cons_zero, Option.some.injEq] at hk hs
      subst hk hs
      exact ⟨x, h, hx⟩
    | succ k => simp at hk
  · cases i with
    | zero => cases j with
      | zero => rfl
      | succ j => simp at hj
    | succ i => simp at hi
variable {ct : Ct} {lt : Lt}
theorem fn_givesN (I : Interp) (hmix : P.follows .mixedOrders = true) (hct : ∀ ρ, ρ.has I → CtOk P ρ ct) (hce : ct.all (fun p => entersB P p.1) = true) {n : Nat} {f : FuncId} {sh : List Sh} {tr : TT OpR} (he : T.norm 0 (call P ct lt n f (symArgs 0 sh) [] 0) TT.ret = tr)
    (hlow : tr.low 1000 = true) (hsh : shLen sh ≤ 1000) {nl : List NL} {ok : List D → Prop} {res : World → List D → List Value → Value → Prop}
    (hs : ∀ w0 vals ds, repSh w0 sh vals ds → ok ds → tr.sat (envOf I w0 ds) (fun ρ q => ∃ ss, LsAre ρ q nl ds ss ∧ ∀ (σ : As) u, ρ.w = w0 → q.1.den ρ σ u → ∃ vs, DL (S0.den ρ σ) ss vs ∧ res w0 ds vs u) (fun _ _ => False)) : GivesN P f sh nl ok res := by
  intro w0 W vals ds hbase hrep hok
  obtain ⟨ρ', q, h1, ⟨ss, h2, h4⟩, _, h5⟩ := exec_flat (lt := lt) hmix (fun ρ' ha => hct ρ' ⟨ha.fi.symm, ha.fb.symm, ha.fd.symm⟩) (ctEnter_of hce) he hlow (hs w0 vals ds hrep hok) (σ := As.none) (W := W) (vals := vals)
    (fun ρ' ha => ⟨fun id b h => by simp [Mem.get] at h, fun i j a h => absurd h (none_own _ _), fun i a h => absurd h (none_own _ _), fun i a h => absurd h (none_own _ _), by rw [← ha.w]; exact hbase⟩) (fun k _ => none_has k) (fun ρ' ha => symArgs_den ha sh 0 vals [] ds rfl rfl (by omega) hrep)
  refine (callsIn_wide (n := 0)).1 ?_
  have h' : CallsIn Fence.wide 0 P f vals.toArray W (RetTo ρ' As.none W 0 q) := h5
  have hw : ρ'.w = w0 := by rw [← h1.w]; rfl
  refine CallsIn.mono h' ?_
  rintro en W' ⟨u, σ', rfl, e1, e2, e3⟩
  obtain ⟨vs, hd, hres⟩ := h4 σ' u hw e1
  have hb : Below W.heap.size W W' := ⟨e2.os, e2.tape, e2.output, e2.size, fun k hk => e2.frame k hk (fun i b _ e => none_own _ _ e)⟩
  have hinj := e2.inj (fun i j a h => absurd h (none_own _ _))
  have hl : vs.length = nl.length := by rw [← h2.len]; exact (DL.length hd).symm
  have key : ∀ (k : Nat) (l : NL) (v : Value), nl[k]? = some l → vs[k]? = some v → NewL w0 W W' ds l v ∧ ∀ a, roomOf v = some a → ∃ id ver, ss[k]? = some (S0.own id ver) ∧ σ'.own id a := fun k l v hk hv => by
    have hks : k < ss.length := by rw [h2.len]; exact (List.getElem?_eq_some_iff.1 hk).1
    have hsk := List.getElem?_eq_getElem hks
    obtain ⟨v', hv', hden⟩ := DL.get hd hsk
    obtain rfl : v' = v := by rw [hv'] at hv; exact Option.some.inj hv
    obtain ⟨x, hx1, hx2⟩ := h2.each k l _ hk hsk
    have hsk' : ∀ id ver, ss[k] = S0.own id ver → ss[k]? = some (S0.own id ver) := fun id ver e => by rw [hsk, e]
    generalize ss[k] = s at hx1 hden hsk'
    unfold lrows at hx1
    split at hx1
    · rename_i id ver
      split at hx1
      · rename_i e' ks' x' ver' hm
        split at hx1
        · rename_i hc
          simp only [Bool.and_eq_true] at hc
          obtain ⟨⟨c1, c2⟩, c3⟩ := hc
          have c1 := natb c1
          have c2 := CK.sameL_eq _ _ c2
          have c3 := E.same_eq _ _ c3
          simp only [Option.some.injEq] at hx1
          subst hx1
          obtain ⟨v2, xs, hO⟩ := e2.blk _ _ hm
          obtain ⟨⟨a, m, c, rfl⟩, e5⟩ := hden
          have hvv := hO.now
          rw [← c3, e5] at hvv
          simp only [Option.some.injEq] at hvv
          subst hvv
          have hrow := hO.row
          have hrows := hO.reps
          have hbig := hO.big
          rw [hw, ← c1, ← c2] at hrow
          rw [hw, ← c2] at hrows
          rw [hx2] at hrow hrows hbig
          have hm : m = (l.rows ds).length := by
            rcases hrow with ⟨_, h2⟩ | ⟨h2, _, b, h3⟩
            · rcases h2 with ⟨h2, h3⟩ | ⟨g, cap, cur, h2, _⟩
              · simp only [Value.slice.injEq] at h2; omega
              · simp only [Value.slice.injEq] at h2
                exact h2.2.1
            · simp only [Value.slice.injEq] at h3; omega
          have hown : ∀ k, roomOf (.slice a m c) = some k → σ'.own id k := fun k hk => .inr ⟨_, _, e5, hk⟩
          refine ⟨⟨xs, hrow, ⟨?_, hrows⟩, hbig, ⟨a, c, by rw [hm]⟩, fun k hk => ?_⟩, fun k hk => ⟨id, ver, hsk' _ _ rfl, hown k hk⟩⟩
          · rcases hrow with h | ⟨h3, h4, _⟩
            · exact h.1
            · rw [h3, h4]; simp
          · rcases e2.new id k (hown k hk) with h | h
            · exact absurd h (none_own _ _)
            · exact h
        · cases hx1
      · cases hx1
    · simp only [Option.some.injEq] at hx1
      subst hx1
      obtain rfl : v' = .slice none 0 0 := hden
      have h3 : [] = l.rows ds := by rw [← hx2]; simp [X.ev]
      refine ⟨⟨[], ?_, ?_, ?_, ⟨none, 0, ?_⟩, fun k hk => by simp [roomOf] at hk⟩, fun k hk => by simp [roomOf] at hk⟩
      · rw [← h3]; exact .inl (World.ownsRow_nil _ _ _ _)
      · rw [← h3]; exact RowsAt.nil _ _
      · rw [← h3]; simp
      · rw [← h3]; rfl
    · cases hx1
  refine ⟨vs, u, rfl, hres, hb, hl, fun k l v hk hv => (key k l v hk hv).1, fun i j vi vj a hi hj ha hb' => ?_⟩
  have hi' : i < nl.length := by rw [← hl]; exact (List.getElem?_eq_some_iff.1 hi).1
  have hj' : j < nl.length := by rw [← hl]; exact (List.getElem?_eq_some_iff.1 hj).1
  obtain ⟨id, ver, p1, p2⟩ := (key i _ vi (List.getElem?_eq_getElem hi') hi).2 a ha
  obtain ⟨id', ver', p3, p4⟩ := (key j _ vj (List.getElem?_eq_getElem hj') hj).2 a hb'
  obtain rfl := hinj _ _ _ p2 p4
  exact h2.apart _ _ _ _ _ p1 p3
end
end Go.Proofs.Ytcjaembdcfppfaa
/- Contracts of functions one of whose arguments is a function value without variables of its own, or a pointer to cells that hold data. -/
namespace Go.Proofs.Ytcjaembdcfppfaa
open Go.RowKit
inductive Ag where | d (sh : Sh) | f (g : FuncId) | p (t : TypeId) (ks : List CK)
def agArgs : Nat → Nat → List Ag → List V
  | _, _, [] => []
  | j, id, .d (.one k) :: r => .v (.one (symCell j k)) :: agArgs (j + 1) id r
  | j, id, .d (.agg ks) :: r => .v (.agg (symCells j ks)) :: agArgs (j + ks.length) id r
  | j, id, .f g :: r => .s0 (.clo g []) :: agArgs j id r
  | j, id, .p _ ks :: r => .s0 (.ptr id 0) :: agArgs (j + ks.length) (id + 1) r
def agMem : Nat → Nat → List Ag → Mem
  | _, _, [] => []
  | j, id, .d (.one _) :: r => agMem (j + 1) id r
  | j, id, .d (.agg ks) :: r => agMem (j + ks.length) id r
  | j, id, .f _ :: r => agMem j id r
  | j, id, .p t ks :: r => (id, .cells t (symCells j ks)) :: agMem (j + ks.length) (id + 1) r
def agWid : List Ag → Nat
  | [] => 0
  | .d (.one _) :: r => agWid r + 1
  | .d (.agg ks) :: r => ks.length + agWid r
  | .f _ :: r => agWid r
  | .p _ ks :: r => ks.length + agWid r
def agN : List Ag → Nat
  | [] => 0
  | .p _ _ :: r => agN r + 1
  | _ :: r => agN r
def agRep (w0 w : World) : List Ag → List Value → List D → List Nat → Prop
  | [], vs, ds, bs => vs = [] ∧ ds = [] ∧ bs = []
  | .d sh :: r, vs, ds, bs => ∃ v vs' d ds', vs = v :: vs' ∧ ds = d ++ ds' ∧ sh.rep w0 v d ∧ agRep w0 w r vs' ds' bs
  | .f g :: r, vs, ds, bs => ∃ vs', vs = .func (.func g) #[] #[] :: vs' ∧ agRep w0 w r vs' ds bs
  | .p t ks :: r, vs, ds, bs => ∃ b vs' us d ds' bs', vs = .pointer (some ⟨b, 0, none⟩) :: vs' ∧ bs = b :: bs' ∧ ds = d ++ ds' ∧ w0.heap.size ≤ b ∧ w.heap[b]? = some (.cells us.toArray t (0, 0)) ∧ CK.reps w0 ks us d ∧ agRep w0 w r vs' ds' bs'
def GivesG (P : Program) (f : FuncId) (l : List Ag) (ok : List D → Prop) (g : List D → Value) : Prop :=
  ∀ (w0 W : World) (vals : List Value) (ds : List D) (bs : List Nat), Below w0.heap.size w0 W → agRep w0 W l vals ds bs → bs.Nodup → ok ds → Calls P f vals.toArray W (fun e W' => e = .returned (g ds) ∧ Below W.heap.size W W')
def asBs (bs : List Nat) : As := { f := fun i => bs[i]?, h := fun _ _ => none }
section
variable {P : Program} {ρ : Env}
theorem asBs_own {bs : List Nat} {i a : Nat} (h : (asBs bs).own i a) : bs[i]? = some a := by
  rcases h with h | ⟨n, v, h, _⟩
  · exact h
  · cases h
theorem agRep_len {w0 w : World} : ∀ {l : List Ag} {vs : List Value} {ds : List D} {bs : List Nat}, agRep w0 w l vs ds bs → bs.length = agN l ∧ ∀ b ∈ bs, w0.heap.size ≤ b ∧ b < w.heap.size
  | [], vs, ds, bs, h => by obtain ⟨_, _, rfl⟩ := h; exact ⟨rfl, fun b hb => by simp at hb⟩
  | .d sh :: r, vs, ds, bs, h => by obtain ⟨_, _, _, _, _, _, _, h⟩ := h; exact agRep_len (l := r) h
  | .f g :: r, vs, ds, bs, h => by obtain ⟨_, _, h⟩ := h; exact agRep_len (l := r) h
  | .p t ks :: r, vs, ds, bs, h => by
    obtain ⟨b, _, _, _, _, bs', _, rfl, _, h1, h2, _, h⟩ := h
    obtain ⟨e1, e2⟩ := agRep_len (l := r) h
    refine ⟨by simp [agN, e1], fun x hx => ?_⟩
    rcases List.mem_cons.1 hx with e | hx
    · subst e; exact ⟨h1, lt_of_heap h2⟩
    · exact e2 x hx
theorem agArgs_den {w0 W : World} {ds0 : List D} {I : Interp} {c : Nat} (ha : Agree c (envOf I w0 ds0) ρ) {bs0 : List Nat} : ∀ (l : List Ag) (j id : Nat) (vs : List Value) (pre ds : List D) (bp bs : List Nat), ds0 = pre ++ ds → pre.length = j → j + agWid l ≤ c → bs0 = bp ++ bs → bp.length = id → agRep w0 W l vs ds bs →
    DL (V.den ρ (asBs bs0)) (agArgs j id l) vs ∧ ∀ i b, (agMem j id l).get i = some b → BlkRel ρ (asBs bs0) i W b
  | [], j, id, vs, pre, ds, bp, bs, _, _, _, _, _, h => by
    obtain ⟨rfl, _, _⟩ := h
    exact ⟨trivial, fun i b hi => by simp [agMem, Mem.get] at hi⟩
  | .d (.one k) :: r, j, id, vs, pre, ds, bp, bs, hds, hj, hc, hb, hid, h => by
    obtain ⟨v, vs', d, ds', rfl, rfl, ⟨d0, rfl, h1⟩, h2⟩ := h
    simp only [agWid] at hc
    obtain ⟨e1, e2⟩ := agArgs_den ha r (j + 1) id vs' (pre ++ [d0]) ds' bp bs (by simp [hds]) (by simp [hj]) (by omega) hb hid h2
    refine ⟨⟨symCell_den ha (by omega) (d := d0) ?_ h1, e1⟩, e2⟩
    rw [hds, ← hj]
    simp
  | .d (.agg ks) :: r, j, id, vs, pre, ds, bp, bs, hds, hj, hc, hb, hid, h => by
    obtain ⟨v, vs', d, ds', rfl, rfl, ⟨us, rfl, h1⟩, h2⟩ := h
    simp only [agWid] at hc
    have hl : d.length = ks.length := (reps_len h1).2
    obtain ⟨e1, e2⟩ := agArgs_den ha r (j + ks.length) id vs' (pre ++ d) ds' bp bs (by simp [hds]) (by simp [hj, hl]) (by omega) hb hid h2
    exact ⟨⟨⟨us, symCells_den ha ks j us pre d ds' (by simp [hds]) hj (by omega) h1, rfl⟩, e1⟩, e2⟩
  | .f g :: r, j, id, vs, pre, ds, bp, bs, hds, hj, hc, hb, hid, h => by
    obtain ⟨vs', rfl, h2⟩ := h
    simp only [agWid] at hc
    obtain ⟨e1, e2⟩ := agArgs_den ha r j id vs' pre ds bp bs hds hj hc hb hid h2
    exact ⟨⟨⟨[], trivial, rfl⟩, e1⟩, e2⟩
  | .p t ks :: r, j, id, vs, pre, ds, bp, bs, hds, hj, hc, hb, hid, h => by
    obtain ⟨b, vs', us, d, ds', bs', rfl, rfl, rfl, h0, h1, h3, h2⟩ := h
    simp only [agWid] at hc
    have hl : d.length = ks.length := (reps_len h3).2
    obtain ⟨e1, e2⟩ := agArgs_den (bs0 := bs0) ha r (j + ks.length) (id + 1) vs' (pre ++ d) ds' (bp ++ [b]) bs' (by simp [hds]) (by simp [hj, hl]) (by omega) (by simp [hb]) (by simp [hid]) h2
    have hσ : (asBs bs0) id = some b := by
      show bs0[id]? = some b
      rw [hb, List.getElem?_append_right (by omega), hid, Nat.sub_self]; rfl
    refine ⟨⟨⟨b, hσ, rfl⟩, e1⟩, fun i b' hi => ?_⟩
    simp only [agMem, Mem.get] at hi
    split at hi
    · rename_i hii
      simp only [beq_iff_eq] at hii
      subst hii
      simp only [Option.some.injEq] at hi
      subst hi
      exact ⟨b, hσ, us, symCells_den ha ks j us pre d ds' (by simp [hds]) hj (by omega) h3, h1⟩
    · exact e2 i b' hi
variable {ct : Ct} {lt : Lt}
theorem fn_givesG (I : Interp) (hmix : P.follows .mixedOrders = true) (hct : ∀ ρ, ρ.has I → CtOk P ρ ct) (hce : ct.all (fun p => entersB P p.1) = true) {n : Nat} {f : FuncId} {l : List Ag} {tr : TT OpR} (he : T.norm 0 (call P ct lt n f (agArgs 0 0 l) (agMem 0 0 l) (agN l)) TT.ret = tr)
    (hlow : tr.low 1000 = true) (hsh : agWid l ≤ 1000) {ok : List D → Prop} {g : List D → Value} (hs : ∀ w0 W vals ds bs, agRep w0 W l vals ds bs → ok ds → tr.sat (envOf I w0 ds) (fun ρ q => q.1.plain = true ∧ q.1.val ρ = g ds ∧ q.2.1 = []) (fun _ _ => False)) : GivesG P f l ok g := by
  intro w0 W vals ds bs hbase hr hnd hok
  obtain ⟨hbl, hbb⟩ := agRep_len hr
  obtain ⟨ρ', q, h1, ⟨h2, h3, h4⟩, _, h5⟩ := exec_flat (lt := lt) hmix (fun ρ' ha => hct ρ' ⟨ha.fi.symm, ha.fb.symm, ha.fd.symm⟩) (ctEnter_of hce) he hlow (hs w0 W vals ds bs hr hok) (σ := asBs bs) (W := W) (vals := vals)
    (fun ρ' ha => ⟨(agArgs_den ha l 0 0 vals [] ds [] bs rfl rfl (by omega) rfl rfl hr).2, fun i j a hi hj => (List.getElem?_inj (by
        have := asBs_own hi
        exact (List.getElem?_eq_some_iff.1 this).1) hnd).mp ((asBs_own hi).trans (asBs_own hj).symm), fun i a h => (hbb a (List.mem_of_getElem? (asBs_own h))).2, fun i a h => by rw [← ha.w]; exact (hbb a (List.mem_of_getElem? (asBs_own h))).1, by rw [← ha.w]; exact hbase⟩)
    (fun k hk h => by
      rcases h with ⟨a, h⟩ | ⟨m, v, h⟩
      · have : bs[k]? = some a := h
        have := (List.getElem?_eq_some_iff.1 this).1
        omega
      · cases h) (fun ρ' ha => (agArgs_den ha l 0 0 vals [] ds [] bs rfl rfl (by omega) rfl rfl hr).1)
  refine (callsIn_wide (n := 0)).1 ?_
  have h' : CallsIn Fence.wide 0 P f vals.toArray W (RetTo ρ' (asBs bs) W (agN l) q) := h5
  refine CallsIn.mono h' ?_
  rintro e W' ⟨u, σ', rfl, e1, e2, e3⟩
  refine ⟨by rw [V.den_val h2 e1, h3], ?_⟩
  exact ⟨e2.os, e2.tape, e2.output, e2.size, fun k hk => e2.frame k hk (fun i b hi => by rw [h4] at hi; simp [Mem.get] at hi)⟩
/-! Contracts -/
def fnOk (g : FuncId) : V → Bool
  | .v (.one (.z (.clo g' []))) => Nat.beq g g'
  | _ => false
theorem fnOk_den {σ : As} {g : FuncId} {v : V} (h : fnOk g v = true) {u : Value} (hd : v.den ρ σ u) : u = .func (.func g) #[] #[] := by
  unfold fnOk at h
  split at h
  · obtain rfl := natb h
    obtain ⟨vs, h1, rfl⟩ := hd
    cases vs with
    | nil => rfl
    | cons a b => exact h1.elim
  · cases h
def ptrOk (mem : Mem) (t : TypeId) (ks : List CK) : V → Option (AL × Nat)
  | .v (.one (.z (.ptr id off))) => if Nat.beq off 0 then match mem.get id with
    | some (.cells t' cs) => if Nat.beq t t' then (rowA cellA0 ks cs).map fun a => (a, id) else none
    | _ => none
    else none
  | _ => none
theorem ptrOk_den {σ : As} {mem : Mem} {W : World} (hr : RelM ρ σ mem W) {t : TypeId} {ks : List CK} {v : V} {a : AL} {id : Nat} (h : ptrOk mem t ks v = some (a, id)) {u : Value} (hd : v.den ρ σ u) :
    ∃ b us, u = .pointer (some ⟨b, 0, none⟩) ∧ σ id = some b ∧ W.heap[b]? = some (.cells us.toArray t (0, 0)) ∧ CK.reps ρ.w ks us (a.ev ρ) := by
  unfold ptrOk at h
  split at h
  · rename_i id' off
    split at h
    · rename_i ho
      obtain rfl := natb ho
      split at h
      · rename_i t' cs hm
        split at h
        · rename_i ht
          obtain rfl := natb ht
          rw [Option.map_eq_some_iff] at h
          obtain ⟨a', ha, he⟩ := h
          simp only [Prod.mk.injEq] at he
          obtain ⟨rfl, rfl⟩ := he
          obtain ⟨b, h1, rfl⟩ := hd
          obtain ⟨b', h2, us, h3, h4⟩ := hr.blk _ _ hm
          rw [h1] at h2
          simp only [Option.some.injEq] at h2
          subst h2
          exact ⟨b, us, rfl, h1, h4, rowA_ok (cellA0_ok (W := ρ.w) (Below.refl _ _)) _ _ _ ha us h3⟩
        · cases h
      · cases h
    · cases h
  · cases h
def agData (mem : Mem) : List Ag → List V → Option (AL × List Nat)
  | [], [] => some (.nil, [])
  | .d sh :: r, v :: vs => match argE sh v, agData mem r vs with
    | some a, some (b, l) => some (a.app b, l)
    | _, _ => none
  | .f g :: r, v :: vs => if fnOk g v then agData mem r vs else none
  | .p t ks :: r, v :: vs => match ptrOk mem t ks v, agData mem r vs with
    | some (a, id), some (b, l) => if l.contains id then none else some (a.app b, id :: l)
    | _, _ => none
  | _, _ => none
def ctG (l : List Ag) (out : AL → T V) (args : List V) (mem : Mem) (nx : Nat) : T OpR := match agData mem l args with
  | some (al, _) => (out al).bind fun v => .ret (v, [], nx)
  | none => .stuck "contract"
theorem agData_ok {σ : As} {mem : Mem} {W : World} (hr : RelM ρ σ mem W) : ∀ (l : List Ag) (args : List V) (al : AL) (ids : List Nat), agData mem l args = some (al, ids) → ∀ vals, DL (V.den ρ σ) args vals → ∃ bs, agRep ρ.w W l vals (al.ev ρ) bs ∧ bs.Nodup ∧ ∀ b ∈ bs, ∃ i ∈ ids, σ i = some b
  | [], [], al, ids, h, vals, hd => by
    simp only [agData, Option.some.injEq, Prod.mk.injEq] at h
    obtain ⟨rfl, rfl⟩ := h
    exact ⟨[], ⟨DL.nil_inv hd, by simp [AL.ev], rfl⟩, List.nodup_nil, fun b h => by simp at h⟩
  | .d sh :: r, v :: vs, al, ids, h, vals, hd => by
    simp only [agData] at h
    split at h
    · rename_i a b l' h1 h2
      simp only [Option.some.injEq, Prod.mk.injEq] at h
      obtain ⟨rfl, rfl⟩ := h
      obtain ⟨u, us, rfl, e1, e2⟩ := DL.cons_inv hd
      obtain ⟨bs, g1, g2, g3⟩ := agData_ok hr r vs b l' h2 us e2
      refine ⟨bs, ⟨u, us, a.ev ρ, b.ev ρ, rfl, AL.app_ev _ _ _, ?_, g1⟩, g2, g3⟩
      unfold argE at h1
      split at h1
      · obtain ⟨d, e3, e4⟩ := cellA0_ok (W := ρ.w) (Below.refl _ _) _ _ _ h1 u e1
        exact ⟨d, e3, e4⟩
      · obtain ⟨ws, e3, rfl⟩ := e1
        exact ⟨ws, rfl, rowA_ok (cellA0_ok (W := ρ.w) (Below.refl _ _)) _ _ _ h1 ws e3⟩
      · cases h1
    · cases h
  | .f g :: r, v :: vs, al, ids, h, vals, hd => by
    simp only [agData] at h
    split at h
    · rename_i hf
      obtain ⟨u, us, rfl, e1, e2⟩ := DL.cons_inv hd
      obtain ⟨bs, g1, g2, g3⟩ := agData_ok hr r vs al ids h us e2
      exact ⟨bs, ⟨us, by rw [fnOk_den hf e1], g1⟩, g2, g3⟩
    · cases h
  | .p t ks :: r, v :: vs, al, ids, h, vals, hd => by
    simp only [agData] at h
    split at h
    · rename_i a id b l' h1 h2
      split at h
      · cases h
      · rename_i hn
        simp only [Option.some.injEq, Prod.mk.injEq] at h
        obtain ⟨rfl, rfl⟩ := h
        obtain ⟨u, us, rfl, e1, e2⟩ := DL.cons_inv hd
        obtain ⟨bs, g1, g2, g3⟩ := agData_ok hr r vs b l' h2 us e2
        obtain ⟨c, ws, rfl, q1, q2, q3⟩ := ptrOk_den hr h1 e1
        refine ⟨c :: bs, ⟨c, us, ws, a.ev ρ, b.ev ρ, bs, rfl, rfl, AL.app_ev _ _ _, hr.above _ _ (.inl q1), q2, q3, g1⟩, List.nodup_cons.2 ⟨fun hc => ?_, g2⟩, fun x hx => ?_⟩
        · obtain ⟨i, hi, hs⟩ := g3 c hc
          have := hr.inj i id c (.inl hs) (.inl q1)
          subst this
          exact hn (List.contains_iff_mem.2 hi)
        · rcases List.mem_cons.1 hx with e | hx
          · subst e; exact ⟨id, List.mem_cons_self .., q1⟩
          · obtain ⟨i, hi, hs⟩ := g3 x hx
            exact ⟨i, List.mem_cons_of_mem _ hi, hs⟩
    · cases h
  | [], _ :: _, al, ids, h, _, _ => by simp [agData] at h
  | .d _ :: _, [], al, ids, h, _, _ => by simp [agData] at h
  | .f _ :: _, [], al, ids, h, _, _ => by simp [agData] at h
  | .p _ _ :: _, [], al, ids, h, _, _ => by simp [agData] at h
theorem ctG_if {f : FuncId} {l : List Ag} {out : AL → T V} {ok : List D → Prop} {g : List D → Value} (hg : GivesG P f l ok g) (h : ∀ al v, (out al).res ρ v → v.plain = true ∧ ok (al.ev ρ) ∧ v.val ρ = g (al.ev ρ)) : CtOne P ρ f (ctG l out) := by
  intro args mem nx q hq hle σ W vals hr hfr hd
  unfold ctG at hq
  split at hq
  · rename_i al ids ha
    obtain ⟨v, h1, h2⟩ := T.res_bind hq
    obtain rfl := res_ret h2
    obtain ⟨p1, p2, p3⟩ := h al v h1
    obtain ⟨bs, g1, g2, _⟩ := agData_ok hr l args al ids ha vals hd
    have hc := hg ρ.w W vals (al.ev ρ) bs hr.base g1 g2 p2
    have hw : CallsIn Fence.wide 0 P f vals.toArray W _ := callsIn_wide.2 hc
    refine CallsIn.mono (F := FR none) hw ?_
    rintro e W' ⟨rfl, hb⟩
    exact ⟨_, σ, rfl, by rw [← p3]; exact V.val_den p1, Step.below hb, fun i hi => .inl hi⟩
  · exact hq.elim
def agDataA (mem : Mem) : List Ag → List V → Option AL
  | [], [] => some .nil
  | .d sh :: r, v :: vs => match argA mem sh v, agDataA mem r vs with
    | some a, some b => some (a.app b)
    | _, _ => none
  | .f g :: r, v :: vs => if fnOk g v then agDataA mem r vs else none
  | _, _ => none
def ctGA (l : List Ag) (out : AL → T V) (args : List V) (mem : Mem) (nx : Nat) : T OpR := match agDataA mem l args with
  | some al => (out al).bind fun v => .ret (v, [], nx)
  | none => .stuck "contract"
theorem agDataA_ok {σ : As} {mem : Mem} {W : World} (hr : RelM ρ σ mem W) : ∀ (l : List Ag) (args : List V) (al : AL), agDataA mem l args = some al → ∀ vals, DL (V.den ρ σ) args vals → agRep W W l vals (al.ev ρ) []
  | [], [], al, h, vals, hd => by
    simp only [agDataA, Option.some.injEq] at h
    subst h
    exact ⟨DL.nil_inv hd, by simp [AL.ev], rfl⟩
  | .d sh :: r, v :: vs, al, h, vals, hd => by
    simp only [agDataA] at h
    split at h
    · rename_i a b h1 h2
      simp only [Option.some.injEq] at h
      subst h
      obtain ⟨u, us, rfl, e1, e2⟩ := DL.cons_inv hd
      have g1 := agDataA_ok hr r vs b h2 us e2
      have h1' : argsA mem [sh] [v] = some (a.app .nil) := by simp [argsA, h1]
      obtain ⟨u', us', d, ds', q1, q2, q3, q4, q5⟩ := argsA_ok hr [sh] [v] _ h1' [u] ⟨e1, trivial⟩
      simp only [List.cons.injEq] at q1
      obtain ⟨rfl, rfl⟩ := q1
      subst q5
      rw [AL.app_ev] at q2
      simp only [AL.ev, List.append_nil] at q2
      exact ⟨u, us, a.ev ρ, b.ev ρ, rfl, AL.app_ev _ _ _, by rw [q2]; exact q3, g1⟩
    · cases h
  | .f g :: r, v :: vs, al, h, vals, hd => by
    simp only [agDataA] at h
    split at h
    · rename_i hf
      obtain ⟨u, us, rfl, e1, e2⟩ := DL.cons_inv hd
      exact ⟨us, by rw [fnOk_den hf e1], agDataA_ok hr r vs al h us e2⟩
    · cases h
  | .p t ks :: r, _, al, h, vals, hd => by simp [agDataA] at h
  | [], _ :: _, al, h, _, _ => by simp [agDataA] at h
  | .d _ :: _, [], al, h, _, _ => by simp [agDataA] at h
  | .f _ :: _, [], al, h, _, _ => by simp [agDataA] at h
theorem ctGA_if {f : FuncId} {l : List Ag} {out : AL → T V} {ok : List D → Prop} {g : List D → Value} (hg : GivesG P f l ok g) (h : ∀ al v, (out al).res ρ v → v.plain = true ∧ ok (al.ev ρ) ∧ v.val ρ = g (al.ev ρ)) : CtOne P ρ f (ctGA l out) := by
  intro args mem nx q hq hle σ W vals hr hfr hd
  unfold ctGA at hq
  split at hq
  · rename_i al ha
    obtain ⟨v, h1, h2⟩ := T.res_bind hq
    obtain rfl := res_ret h2
    obtain ⟨p1, p2, p3⟩ := h al v h1
    have hc := hg W W vals (al.ev ρ) [] (Below.refl _ _) (agDataA_ok hr l args al ha vals hd) List.nodup_nil p2
    have hw : CallsIn Fence.wide 0 P f vals.toArray W _ := callsIn_wide.2 hc
    refine CallsIn.mono (F := FR none) hw ?_
    rintro e W' ⟨rfl, hb⟩
    exact ⟨_, σ, rfl, by rw [← p3]; exact V.val_den p1, Step.below hb, fun i hi => .inl hi⟩
  · exact hq.elim
end
end Go.Proofs.Ytcjaembdcfppfaa
/- Contracts of functions that answer with one new list, which may be a beginning of what they have made. -/
namespace Go.Proofs.Ytcjaembdcfppfaa
open Go.RowKit
def lrowsP (ws : Mem) (e : TypeId) (ks : List CK) : S0 → Option X
  | .ovw id ver k lo hi full => match ws.get id with
    | some (.own e' ks' x v) => if Nat.beq e e' && CK.sameL ks ks' && E.same ver v && Nat.beq k ks.length && E.same lo (.lit 0) && !full then some (.sub x (.lit 0) hi) else none
    | _ => none
  | s => lrows ws e ks s
section
variable {P : Program} {ct : Ct} {lt : Lt}
theorem roomOf_len {a : Option Addr} {n m c : Nat} : roomOf (.slice a n c) = roomOf (.slice a m c) := by
  cases a with
  | none => rfl
  | some a => cases c <;> rfl
theorem fn_givesN1 (I : Interp) (hmix : P.follows .mixedOrders = true) (hct : ∀ ρ, ρ.has I → CtOk P ρ ct) (hce : ct.all (fun p => entersB P p.1) = true) {n : Nat} {f : FuncId} {sh : List Sh} {tr : TT OpR} (he : T.norm 0 (call P ct lt n f (symArgs 0 sh) [] 0) TT.ret = tr)
    (hlow : tr.low 1000 = true) (hsh : shLen sh ≤ 1000) {l : NL} {ok : List D → Prop} {res : World → List D → Value → Value → Prop}
    (hs : ∀ w0 vals ds, repSh w0 sh vals ds → ok ds → tr.sat (envOf I w0 ds) (fun ρ q => ∃ s x, lrowsP q.2.1 l.e l.ks s = some x ∧ x.ev ρ = l.rows ds ∧ ∀ (σ : As) u, ρ.w = w0 → q.1.den ρ σ u → ∃ v, s.den ρ σ v ∧ res w0 ds v u) (fun _ _ => False)) : GivesN P f sh [l] ok (fun w0 ds vs u => ∃ v, vs = [v] ∧ res w0 ds v u) := by
  intro w0 W vals ds hbase hrep hok
  obtain ⟨ρ', q, h1, ⟨s, x, h2, h3, h4⟩, _, h5⟩ := exec_flat (lt := lt) hmix (fun ρ' ha => hct ρ' ⟨ha.fi.symm, ha.fb.symm, ha.fd.symm⟩) (ctEnter_of hce) he hlow (hs w0 vals ds hrep hok) (σ := As.none) (W := W) (vals := vals)
    (fun ρ' ha => ⟨fun id b h => by simp [Mem.get] at h, fun i j a h => absurd h (none_own _ _), fun i a h => absurd h (none_own _ _), fun i a h => absurd h (none_own _ _), by rw [← ha.w]; exact hbase⟩) (fun k _ => none_has k) (fun ρ' ha => symArgs_den ha sh 0 vals [] ds rfl rfl (by omega) hrep)
  refine (callsIn_wide (n := 0)).1 ?_
  have h' : CallsIn Fence.wide 0 P f vals.toArray W (RetTo ρ' As.none W 0 q) := h5
  have hw : ρ'.w = w0 := by rw [← h1.w]; rfl
  refine CallsIn.mono h' ?_
  rintro en W' ⟨u, σ', rfl, e1, e2, e3⟩
  obtain ⟨v, hd, hres⟩ := h4 σ' u hw e1
  have hb : Below W.heap.size W W' := ⟨e2.os, e2.tape, e2.output, e2.size, fun k hk => e2.frame k hk (fun i b _ e => none_own _ _ e)⟩
  -- the row of a list of the executor's memory
  have whole : ∀ (id : Nat) (ver : E) (x' : X) (ver' : E) (e' : TypeId) (ks' : List CK) (a : Option Addr) (m c : Nat), q.2.1.get id = some (.own e' ks' x' ver') → l.e = e' → l.ks = ks' → ver = ver' → σ'.h id (ver.ev ρ') = some (.slice a m c) →
      ∃ xs, OwnRow W' w0.heap.size l.e l.ks.length (.slice a m c) m xs ∧ RowsAt w0 l.ks xs (x'.ev ρ') ∧ m = (x'.ev ρ').length ∧ m ≤ 281474976710656 ∧ ∀ k, roomOf (.slice a m c) = some k → W.heap.size ≤ k ∧ k < W'.heap.size := by
    intro id ver x' ver' e' ks' a m c hm c1 c2 c3 e5
    subst c1 c2 c3
    obtain ⟨v2, xs, hO⟩ := e2.blk _ _ hm
    have hvv := hO.now
    rw [e5] at hvv
    simp only [Option.some.injEq] at hvv
    subst hvv
    have hrow := hO.row
    have hrows := hO.reps
    have hbig := hO.big
    rw [hw] at hrow
    rw [hw] at hrows
    have hm : m = (x'.ev ρ').length := by
      rcases hrow with ⟨_, h2⟩ | ⟨h2, _, b, h3⟩
      · rcases h2 with ⟨h2, h3⟩ | ⟨g, cap, cur, h2, _⟩
        · simp only [Value.slice.injEq] at h2; omega
        · simp only [Value.slice.injEq] at h2
          exact h2.2.1
      · simp only [Value.slice.injEq] at h3; omega
    refine ⟨xs, by rw [hm] at hrow ⊢; exact hrow, ⟨?_, hrows⟩, hm, by omega, fun k hk => ?_⟩
    · rcases hrow with h | ⟨h3, h4, _⟩
      · exact h.1
      · rw [h3, h4]; simp
    · rcases e2.new id k (.inr ⟨_, _, e5, hk⟩) with h | h
      · exact absurd h (none_own _ _)
      · exact h
  have key : NewL w0 W W' ds l v := by
    unfold lrowsP at h2
    split at h2
    · rename_i id ver k lo hi full
      split at h2
      · rename_i e' ks' x' ver' hm
        split at h2
        · rename_i hc
          simp only [Bool.and_eq_true, Bool.not_eq_true'] at hc
          obtain ⟨⟨⟨⟨⟨c1, c2⟩, c3⟩, c4⟩, c5⟩, c6⟩ := hc
          have c1 := natb c1
          have c2 := CK.sameL_eq _ _ c2
          have c3 := E.same_eq _ _ c3
          obtain rfl := E.same_eq _ _ c5
          simp only [Option.some.injEq] at h2
          subst h2
          obtain ⟨a, m, c, b, c', e5, l1, l2, l3, rfl, l4, l5, l6, l7⟩ := hd
          obtain ⟨rfl, rfl⟩ := l7 (by simp [E.ev]) c6
          obtain ⟨xs, w1, w2, w3, w4, w5⟩ := whole id ver x' ver' e' ks' b m c' hm c1 c2 c3 e5
          have hlo : (E.lit 0).ev ρ' = 0 := rfl
          rw [hlo] at l2 ⊢
          have hz : (hi.ev ρ').toNat - (0 : Int).toNat = (hi.ev ρ').toNat := by simp
          rw [hz]
          have hle : (hi.ev ρ').toNat ≤ m := by omega
          have hev : (X.sub x' (.lit 0) hi).ev ρ' = subR (x'.ev ρ') 0 (hi.ev ρ') := by simp only [X.ev, E.ev]
          have hlen : (l.rows ds).length = (hi.ev ρ').toNat := by
            rw [← h3, hev]; simp only [subR, List.length_take, List.length_drop, Int.toNat_zero]; omega
          have hsub := w2.sub (l := 0) (m := hi.ev ρ') (by omega) (by simp)
          simp only [Int.toNat_zero, Nat.zero_mul, List.drop_zero, Nat.sub_zero] at hsub
          rw [← hev, h3] at hsub
          refine ⟨xs.take ((hi.ev ρ').toNat * l.ks.length), by rw [hlen]; exact w1.first hle, hsub, by omega, ⟨b, c', by rw [hlen]⟩, fun k hk => w5 k (by rw [← hk]; exact roomOf_len)⟩
        · cases h2
      · cases h2
    · unfold lrows at h2
      split at h2
      · rename_i id ver _
        split at h2
        · rename_i e' ks' x' ver' hm
          split at h2
          · rename_i hc
            simp only [Bool.and_eq_true] at hc
            obtain ⟨⟨c1, c2⟩, c3⟩ := hc
            have c1 := natb c1
            have c2 := CK.sameL_eq _ _ c2
            have c3 := E.same_eq _ _ c3
            simp only [Option.some.injEq] at h2
            subst h2
            obtain ⟨⟨a, m, c, rfl⟩, e5⟩ := hd
            obtain ⟨xs, w1, w2, w3, w4, w5⟩ := whole id ver x' ver' e' ks' a m c hm c1 c2 c3 e5
            have hlen : (l.rows ds).length = m := by rw [← h3, w3]
            rw [h3] at w2
            exact ⟨xs, by rw [hlen]; exact w1, w2, by omega, ⟨a, c, by rw [hlen]⟩, w5⟩
          · cases h2
        · cases h2
      · simp only [Option.some.injEq] at h2
        subst h2
        obtain rfl : v = .slice none 0 0 := hd
        have h3 : [] = l.rows ds := by rw [← h3]; simp [X.ev]
        refine ⟨[], ?_, ?_, ?_, ⟨none, 0, ?_⟩, fun k hk => by simp [roomOf] at hk⟩
        · rw [← h3]; exact .inl (World.ownsRow_nil _ _ _ _)
        · rw [← h3]; exact RowsAt.nil _ _
        · rw [← h3]; simp
        · rw [← h3]; rfl
      · cases h2
  refine ⟨[v], u, rfl, ⟨v, rfl, hres⟩, hb, rfl, fun k l' v' hk hv => ?_, fun i j vi vj a hi hj _ _ => ?_⟩
  · cases k with
    | zero =>
      simp only [List.getElem?_cons_zero, Option.some.injEq] at hk hv
      subst hk hv
      exact key
    | succ k => simp at hk
  · cases i with
    | zero => cases j with
      | zero => rfl
      | succ j => simp at hj
    | succ i => simp at hi
end
end Go.Proofs.Ytcjaembdcfppfaa
/- A contract that answers with one new list of flat rows: its arguments may lie in the call's own memory, and what is spelt out is reckoned. -/
namespace Go.Proofs.Ytcjaembdcfppfaa
open Go.RowKit
def SeesD (ρ : Env) (I : Interp) (c : Nat) : Prop := ∀ n l, n < c → ρ.fd n l = I.fd n l
theorem SeesD.of {ρ : Env} {I : Interp} (h : ρ.has I) (c : Nat) : SeesD ρ I c := fun n l _ => by rw [h.2.2]
def dA : List D → Option AL
  | [] => some .nil
  | .i n :: r => (dA r).map (.i (.lit n))
  | .b x :: r => (dA r).map (.b (.lit x))
  | .l _ :: _ => none
def dX : Rows → Option X
  | [] => some .nil
  | r :: t => match dA r, dX t with | some a, some x => some (.app (.row a) x) | _, _ => none
theorem dA_ev (ρ : Env) : ∀ (r : List D) (a : AL), dA r = some a → a.ev ρ = r
  | [], a, h => by simp only [dA, Option.some.injEq] at h; subst h; simp [AL.ev]
  | .i n :: r, a, h => by
    simp only [dA, Option.map_eq_some_iff] at h
    obtain ⟨b, hb, rfl⟩ := h
    simp [AL.ev, E.ev, dA_ev ρ r b hb]
  | .b n :: r, a, h => by
    simp only [dA, Option.map_eq_some_iff] at h
    obtain ⟨b, hb, rfl⟩ := h
    simp [AL.ev, B.ev, dA_ev ρ r b hb]
  | .l _ :: _, a, h => by simp [dA] at h
theorem dX_ev (ρ : Env) : ∀ (r : Rows) (x : X), dX r = some x → x.ev ρ = r
  | [], x, h => by simp only [dX, Option.some.injEq] at h; subst h; simp [X.ev]
  | r :: t, x, h => by
    simp only [dX] at h
    split at h
    · rename_i a y ha hy
      simp only [Option.some.injEq] at h
      subst h
      simp [X.ev, dA_ev ρ r a ha, dX_ev ρ t y hy]
    · cases h
def dF (s : Nat) (f : List D → Rows) (al : AL) : X := match litA al with
  | some l => match dX (f l) with | some x => x | none => .fn s al
  | none => .fn s al
theorem dF_ev {ρ : Env} {s : Nat} {f : List D → Rows} (h : ∀ l, ρ.fd s l = f l) (al : AL) : (dF s f al).ev ρ = f (al.ev ρ) := by
  unfold dF
  split
  · rename_i l hl
    split
    · rename_i x hx
      rw [dX_ev ρ _ x hx, litA_ev ρ al l hl]
    · simp only [X.ev, h]
  · simp only [X.ev, h]
def cNew1 (sh : List Sh) (l : NL) (obs : AL → List Ob) (args : List V) (mem : Mem) (nx : Nat) : T OpR := match argsA mem sh args with
  | some al => .obs (obs al) (.ret (.s0 (.own nx (.lit 0)), [(nx, .own l.e l.ks (dF l.s l.rows al) (.lit 0))], nx + 1))
  | none => .stuck "new list"
theorem cNew1_ok {P : Program} {ρ : Env} {f : FuncId} {sh : List Sh} {l : NL} {ok : List D → Prop} (hg : GivesN P f sh [l] ok (fun _ _ vs u => ∃ v, vs = [v] ∧ u = v)) (hf : l.ks.all CK.flat = true) {obs : AL → List Ob}
    (hobs : ∀ al, (∀ o ∈ obs al, o.ok ρ) → ok (al.ev ρ)) (hs : ∀ a, ρ.fd l.s a = l.rows a) : CtOne P ρ f (cNew1 sh l obs) := by
  intro args mem nx q hq hle σ W vals hr hfr hd
  unfold cNew1 at hq
  split at hq
  · rename_i al ha
    obtain ⟨ho, hq⟩ := T.res_obs hq
    obtain rfl := res_ret hq
    have hc := hg W W vals (al.ev ρ) (Below.refl _ _) (argsA_ok hr sh args al ha vals hd) (hobs al ho)
    have hw : CallsIn Fence.wide 0 P f vals.toArray W _ := callsIn_wide.2 hc
    refine CallsIn.mono (F := FR none) hw ?_
    rintro en W' ⟨vs, u, rfl, ⟨v, rfl, rfl⟩, hb, hn⟩
    obtain ⟨xs, h1, h2, h3, ⟨a, c, rfl⟩, h5⟩ := hn.each 0 l _ rfl rfl
    have hnx := hfr nx (Nat.le_refl _) (Nat.lt_succ_self _)
    have hnone : ∀ k, σ.h nx k = .none := fun k => by
      cases hk : σ.h nx k with
      | none => rfl
      | some y => exact absurd (.inr ⟨k, y, hk⟩) hnx
    have hx := dF_ev (ρ := ρ) (s := l.s) (f := l.rows) hs al
    have hstep := step_say (ρ := ρ) (σ := σ) (W := W) (id := nx) (t := l.e) (ks := l.ks) (x := dF l.s l.rows al) (ver := .lit 0) (v := .slice .none 0 0) (W' := W') (xs := xs) (fun i a hi => hr.lt i a hi) (hnone _) (fun u _ => hnone u) hr.inj (fun k hk => by cases hk)
      (by
        rw [hx]
        exact ⟨h1.base hr.base.size, hb.os, hb.tape, hb.output, hb.size, fun k hk _ => hb.block k hk, fun k hk => .inr (h5 k hk), Keep.of_eq (fun k hk => hb.block k hk), a, c, rfl⟩)
      (by rw [hx]; exact fun i row hi => reps_flat hf (h2.2 i row hi)) (by rw [hx]; exact h3)
    exact ⟨_, _, rfl, ⟨⟨a, _, c, rfl⟩, As.say_self⟩, hstep, fun i hi => (say_has hi).imp (fun h => h) (fun h => ⟨by omega, by show i < nx + 1; omega⟩)⟩
  · exact hq.elim
def cNewT (sh : List Sh) (l : NL) (obs : AL → List Ob) (out : AL → Nat → V) (args : List V) (mem : Mem) (nx : Nat) : T OpR := match argsA mem sh args with
  | some al => .obs (obs al) (.ret (out al nx, [(nx, .own l.e l.ks (dF l.s l.rows al) (.lit 0))], nx + 1))
  | none => .stuck "new list"
theorem cNewT_ok {P : Program} {ρ : Env} {f : FuncId} {sh : List Sh} {l : NL} {ok : List D → Prop} {res : List D → Value → Value} (hg : GivesN P f sh [l] ok (fun _ ds vs u => ∃ v, vs = [v] ∧ u = res ds v)) (hf : l.ks.all CK.flat = true) {obs : AL → List Ob}
    (hobs : ∀ al, (∀ o ∈ obs al, o.ok ρ) → ok (al.ev ρ)) (hs : ∀ a, ρ.fd l.s a = l.rows a) {out : AL → Nat → V}
    (hout : ∀ (al : AL) (nx : Nat) (σ' : As) (v : Value), (S0.own nx (.lit 0)).den ρ σ' v → (out al nx).den ρ σ' (res (al.ev ρ) v)) : CtOne P ρ f (cNewT sh l obs out) := by
  intro args mem nx q hq hle σ W vals hr hfr hd
  unfold cNewT at hq
  split at hq
  · rename_i al ha
    obtain ⟨ho, hq⟩ := T.res_obs hq
    obtain rfl := res_ret hq
    have hc := hg W W vals (al.ev ρ) (Below.refl _ _) (argsA_ok hr sh args al ha vals hd) (hobs al ho)
    have hw : CallsIn Fence.wide 0 P f vals.toArray W _ := callsIn_wide.2 hc
    refine CallsIn.mono (F := FR none) hw ?_
    rintro en W' ⟨vs, u, rfl, ⟨v, rfl, rfl⟩, hb, hn⟩
    obtain ⟨xs, h1, h2, h3, ⟨a, c, rfl⟩, h5⟩ := hn.each 0 l _ rfl rfl
    have hnx := hfr nx (Nat.le_refl _) (Nat.lt_succ_self _)
    have hnone : ∀ k, σ.h nx k = .none := fun k => by
      cases hk : σ.h nx k with
      | none => rfl
      | some y => exact absurd (.inr ⟨k, y, hk⟩) hnx
    have hx := dF_ev (ρ := ρ) (s := l.s) (f := l.rows) hs al
    have hstep := step_say (ρ := ρ) (σ := σ) (W := W) (id := nx) (t := l.e) (ks := l.ks) (x := dF l.s l.rows al) (ver := .lit 0) (v := .slice .none 0 0) (W' := W') (xs := xs) (fun i a hi => hr.lt i a hi) (hnone _) (fun u _ => hnone u) hr.inj (fun k hk => by cases hk)
      (by
        rw [hx]
        exact ⟨h1.base hr.base.size, hb.os, hb.tape, hb.output, hb.size, fun k hk _ => hb.block k hk, fun k hk => .inr (h5 k hk), Keep.of_eq (fun k hk => hb.block k hk), a, c, rfl⟩)
      (by rw [hx]; exact fun i row hi => reps_flat hf (h2.2 i row hi)) (by rw [hx]; exact h3)
    exact ⟨_, _, rfl, hout al nx _ _ ⟨⟨a, _, c, rfl⟩, As.say_self⟩, hstep, fun i hi => (say_has hi).imp (fun h => h) (fun h => ⟨by omega, by show i < nx + 1; omega⟩)⟩
  · exact hq.elim
end Go.Proofs.Ytcjaembdcfppfaa
/- Contracts of functions with function values among their arguments that answer with one new list; a contract that runs the function in line. -/
namespace Go.Proofs.Ytcjaembdcfppfaa
open Go.RowKit
def agPure : List Ag → Bool
  | [] => true
  | .p _ _ :: _ => false
  | _ :: r => agPure r
def GivesNG (P : Program) (f : FuncId) (ag : List Ag) (nl : List NL) (ok : List D → Prop) (res : World → List D → List Value → Value → Prop) : Prop :=
  ∀ (w0 W : World) (vals : List Value) (ds : List D), Below w0.heap.size w0 W → agRep w0 W ag vals ds [] → ok ds → Calls P f vals.toArray W (fun en W' => ∃ vs u, en = .returned u ∧ res w0 ds vs u ∧ Below W.heap.size W W' ∧ NewLs w0 W W' ds nl vs)
theorem agRep_world {w0 w w' : World} : ∀ {l : List Ag}, agPure l = true → ∀ {vs : List Value} {ds : List D} {bs : List Nat}, agRep w0 w l vs ds bs → agRep w0 w' l vs ds bs
  | [], _, _, _, _, h => h
  | .d sh :: r, hp, _, _, _, h => by
    obtain ⟨v, vs', d, ds', h1, h2, h3, h4⟩ := h
    exact ⟨v, vs', d, ds', h1, h2, h3, agRep_world (l := r) hp h4⟩
  | .f g :: r, hp, _, _, _, h => by
    obtain ⟨vs', h1, h2⟩ := h
    exact ⟨vs', h1, agRep_world (l := r) hp h2⟩
  | .p t ks :: r, hp, _, _, _, h => by cases hp
theorem asBs_none : asBs [] = As.none := rfl
theorem agPure_den {ρ : Env} {l : List Ag} (_ : agPure l = true) {j id : Nat} {vs : List Value} (h : DL (V.den ρ (asBs [])) (agArgs j id l) vs) : DL (V.den ρ As.none) (agArgs j id l) vs := h
section
variable {P : Program} {ct : Ct} {lt : Lt}
theorem fn_givesNG1 (I : Interp) (hmix : P.follows .mixedOrders = true) (hct : ∀ ρ, ρ.has I → CtOk P ρ ct) (hce : ct.all (fun p => entersB P p.1) = true) {n : Nat} {f : FuncId} {ag : List Ag} (hag : agPure ag = true) {tr : TT OpR} (he : T.norm 0 (call P ct lt n f (agArgs 0 0 ag) [] 0) TT.ret = tr)
    (hlow : tr.low 1000 = true) (hsh : agWid ag ≤ 1000) {l : NL} {ok : List D → Prop} {res : World → List D → Value → Value → Prop}
    (hs : ∀ w0 vals ds, agRep w0 w0 ag vals ds [] → ok ds → tr.sat (envOf I w0 ds) (fun ρ q => ∃ s x, lrowsP q.2.1 l.e l.ks s = some x ∧ x.ev ρ = l.rows ds ∧ ∀ (σ : As) u, ρ.w = w0 → q.1.den ρ σ u → ∃ v, s.den ρ σ v ∧ res w0 ds v u) (fun _ _ => False)) : GivesNG P f ag [l] ok (fun w0 ds vs u => ∃ v, vs = [v] ∧ res w0 ds v u) := by
  intro w0 W vals ds hbase hrep hok
  obtain ⟨ρ', q, h1, ⟨s, x, h2, h3, h4⟩, _, h5⟩ := exec_flat (lt := lt) hmix (fun ρ' ha => hct ρ' ⟨ha.fi.symm, ha.fb.symm, ha.fd.symm⟩) (ctEnter_of hce) he hlow (hs w0 vals ds (agRep_world hag hrep) hok) (σ := As.none) (W := W) (vals := vals)
    (fun ρ' ha => ⟨fun id b h => by simp [Mem.get] at h, fun i j a h => absurd h (none_own _ _), fun i a h => absurd h (none_own _ _), fun i a h => absurd h (none_own _ _), by rw [← ha.w]; exact hbase⟩) (fun k _ => none_has k) (fun ρ' ha => agPure_den hag (agArgs_den (bs0 := []) ha ag 0 0 vals [] ds [] [] rfl rfl (by omega) rfl rfl hrep).1)
  refine (callsIn_wide (n := 0)).1 ?_
  have h' : CallsIn Fence.wide 0 P f vals.toArray W (RetTo ρ' As.none W 0 q) := h5
  have hw : ρ'.w = w0 := by rw [← h1.w]; rfl
  refine CallsIn.mono h' ?_
  rintro en W' ⟨u, σ', rfl, e1, e2, e3⟩
  obtain ⟨v, hd, hres⟩ := h4 σ' u hw e1
  have hb : Below W.heap.size W W' := ⟨e2.os, e2.tape, e2.output, e2.size, fun k hk => e2.frame k hk (fun i b _ e => none_own _ _ e)⟩
  -- the row of a list of the executor's memory
  have whole : ∀ (id : Nat) (ver : E) (x' : X) (ver' : E) (e' : TypeId) (ks' : List CK) (a : Option Addr) (m c : Nat), q.2.1.get id = some (.own e' ks' x' ver') → l.e = e' → l.ks = ks' → ver = ver' → σ'.h id (ver.ev ρ') = some (.slice a m c) →
      ∃ xs, OwnRow W' w0.heap.size l.e l.ks.length (.slice a m c) m xs ∧ RowsAt w0 l.ks xs (x'.ev ρ') ∧ m = (x'.ev ρ').length ∧ m ≤ 281474976710656 ∧ ∀ k, roomOf (.slice a m c) = some k → W.heap.size ≤ k ∧ k < W'.heap.size := by
    intro id ver x' ver' e' ks' a m c hm c1 c2 c3 e5
    subst c1 c2 c3
    obtain ⟨v2, xs, hO⟩ := e2.blk _ _ hm
    have hvv := hO.now
    rw [e5] at hvv
    simp only [Option.some.injEq] at hvv
    subst hvv
    have hrow := hO.row
    have hrows := hO.reps
    have hbig := hO.big
    rw [hw] at hrow
    rw [hw] at hrows
    have hm : m = (x'.ev ρ').length := by
      rcases hrow with ⟨_, h2⟩ | ⟨h2, _, b, h3⟩
      · rcases h2 with ⟨h2, h3⟩ | ⟨g, cap, cur, h2, _⟩
        · simp only [Value.slice.injEq] at h2; omega
        · simp only [Value.slice.injEq] at h2
          exact h2.2.1
      · simp only [Value.slice.injEq] at h3; omega
    refine ⟨xs, by rw [hm] at hrow ⊢; exact hrow, ⟨?_, hrows⟩, hm, by omega, fun k hk => ?_⟩
    · rcases hrow with h | ⟨h3, h4, _⟩
      · exact h.1
      · rw [h3, h4]; simp
    · rcases e2.new id k (.inr ⟨_, _, e5, hk⟩) with h | h
      · exact absurd h (none_own _ _)
      · exact h
  have key : NewL w0 W W' ds l v := by
    unfold lrowsP at h2
    split at h2
    · rename_i id ver k lo hi full
      split at h2
      · rename_i e' ks' x' ver' hm
        split at h2
        · rename_i hc
          simp only [Bool.and_eq_true, Bool.not_eq_true'] at hc
          obtain ⟨⟨⟨⟨⟨c1, c2⟩, c3⟩, c4⟩, c5⟩, c6⟩ := hc
          have c1 := natb c1
          have c2 := CK.sameL_eq _ _ c2
          have c3 := E.same_eq _ _ c3
          obtain rfl := E.same_eq _ _ c5
          simp only [Option.some.injEq] at h2
          subst h2
          obtain ⟨a, m, c, b, c', e5, l1, l2, l3, rfl, l4, l5, l6, l7⟩ := hd
          obtain ⟨rfl, rfl⟩ := l7 (by simp [E.ev]) c6
          obtain ⟨xs, w1, w2, w3, w4, w5⟩ := whole id ver x' ver' e' ks' b m c' hm c1 c2 c3 e5
          have hlo : (E.lit 0).ev ρ' = 0 := rfl
          rw [hlo] at l2 ⊢
          have hz : (hi.ev ρ').toNat - (0 : Int).toNat = (hi.ev ρ').toNat := by simp
          rw [hz]
          have hle : (hi.ev ρ').toNat ≤ m := by omega
          have hev : (X.sub x' (.lit 0) hi).ev ρ' = subR (x'.ev ρ') 0 (hi.ev ρ') := by simp only [X.ev, E.ev]
          have hlen : (l.rows ds).length = (hi.ev ρ').toNat := by
            rw [← h3, hev]; simp only [subR, List.length_take, List.length_drop, Int.toNat_zero]; omega
          have hsub := w2.sub (l := 0) (m := hi.ev ρ') (by omega) (by simp)
          simp only [Int.toNat_zero, Nat.zero_mul, List.drop_zero, Nat.sub_zero] at hsub
          rw [← hev, h3] at hsub
          refine ⟨xs.take ((hi.ev ρ').toNat * l.ks.length), by rw [hlen]; exact w1.first hle, hsub, by omega, ⟨b, c', by rw [hlen]⟩, fun k hk => w5 k (by rw [← hk]; exact roomOf_len)⟩
        · cases h2
      · cases h2
    · unfold lrows at h2
      split at h2
      · rename_i id ver _
        split at h2
        · rename_i e' ks' x' ver' hm
          split at h2
          · rename_i hc
            simp only [Bool.and_eq_true] at hc
            obtain ⟨⟨c1, c2⟩, c3⟩ := hc
            have c1 := natb c1
            have c2 := CK.sameL_eq _ _ c2
            have c3 := E.same_eq _ _ c3
            simp only [Option.some.injEq] at h2
            subst h2
            obtain ⟨⟨a, m, c, rfl⟩, e5⟩ := hd
            obtain ⟨xs, w1, w2, w3, w4, w5⟩ := whole id ver x' ver' e' ks' a m c hm c1 c2 c3 e5
            have hlen : (l.rows ds).length = m := by rw [← h3, w3]
            rw [h3] at w2
            exact ⟨xs, by rw [hlen]; exact w1, w2, by omega, ⟨a, c, by rw [hlen]⟩, w5⟩
          · cases h2
        · cases h2
      · simp only [Option.some.injEq] at h2
        subst h2
        obtain rfl : v = .slice none 0 0 := hd
        have h3 : [] = l.rows ds := by rw [← h3]; simp [X.ev]
        refine ⟨[], ?_, ?_, ?_, ⟨none, 0, ?_⟩, fun k hk => by simp [roomOf] at hk⟩
        · rw [← h3]; exact .inl (World.ownsRow_nil _ _ _ _)
        · rw [← h3]; exact RowsAt.nil _ _
        · rw [← h3]; simp
        · rw [← h3]; rfl
      · cases h2
  refine ⟨[v], u, rfl, ⟨v, rfl, hres⟩, hb, rfl, fun k l' v' hk hv => ?_, fun i j vi vj a hi hj _ _ => ?_⟩
  · cases k with
    | zero =>
      simp only [List.getElem?_cons_zero, Option.some.injEq] at hk hv
      subst hk hv
      exact key
    | succ k => simp at hk
  · cases i with
    | zero => cases j with
      | zero => rfl
      | succ j => simp at hj
    | succ i => simp at hi
variable {ρ : Env}
def cNewTG (ag : List Ag) (l : NL) (obs : AL → List Ob) (out : AL → Nat → V) (args : List V) (mem : Mem) (nx : Nat) : T OpR := match agDataA mem ag args with
  | some al => .obs (obs al) (.ret (out al nx, [(nx, .own l.e l.ks (dF l.s l.rows al) (.lit 0))], nx + 1))
  | none => .stuck "new list"
theorem cNewTG_ok {f : FuncId} {ag : List Ag} {l : NL} {ok : List D → Prop} {res : List D → Value → Value} (hg : GivesNG P f ag [l] ok (fun _ ds vs u => ∃ v, vs = [v] ∧ u = res ds v)) (hf : l.ks.all CK.flat = true) {obs : AL → List Ob}
    (hobs : ∀ al, (∀ o ∈ obs al, o.ok ρ) → ok (al.ev ρ)) (hs : ∀ a, ρ.fd l.s a = l.rows a) {out : AL → Nat → V}
    (hout : ∀ (al : AL) (nx : Nat) (σ' : As) (v : Value), (S0.own nx (.lit 0)).den ρ σ' v → (out al nx).den ρ σ' (res (al.ev ρ) v)) : CtOne P ρ f (cNewTG ag l obs out) := by
  intro args mem nx q hq hle σ W vals hr hfr hd
  unfold cNewTG at hq
  split at hq
  · rename_i al ha
    obtain ⟨ho, hq⟩ := T.res_obs hq
    obtain rfl := res_ret hq
    have hc := hg W W vals (al.ev ρ) (Below.refl _ _) (agDataA_ok hr ag args al ha vals hd) (hobs al ho)
    have hw : CallsIn Fence.wide 0 P f vals.toArray W _ := callsIn_wide.2 hc
    refine CallsIn.mono (F := FR none) hw ?_
    rintro en W' ⟨vs, u, rfl, ⟨v, rfl, rfl⟩, hb, hn⟩
    obtain ⟨xs, h1, h2, h3, ⟨a, c, rfl⟩, h5⟩ := hn.each 0 l _ rfl rfl
    have hnx := hfr nx (Nat.le_refl _) (Nat.lt_succ_self _)
    have hnone : ∀ k, σ.h nx k = .none := fun k => by
      cases hk : σ.h nx k with
      | none => rfl
      | some y => exact absurd (.inr ⟨k, y, hk⟩) hnx
    have hx := dF_ev (ρ := ρ) (s := l.s) (f := l.rows) hs al
    have hstep := step_say (ρ := ρ) (σ := σ) (W := W) (id := nx) (t := l.e) (ks := l.ks) (x := dF l.s l.rows al) (ver := .lit 0) (v := .slice .none 0 0) (W' := W') (xs := xs) (fun i a hi => hr.lt i a hi) (hnone _) (fun u _ => hnone u) hr.inj (fun k hk => by cases hk)
      (by
        rw [hx]
        exact ⟨h1.base hr.base.size, hb.os, hb.tape, hb.output, hb.size, fun k hk _ => hb.block k hk, fun k hk => .inr (h5 k hk), Keep.of_eq (fun k hk => hb.block k hk), a, c, rfl⟩)
      (by rw [hx]; exact fun i row hi => reps_flat hf (h2.2 i row hi)) (by rw [hx]; exact h3)
    exact ⟨_, _, rfl, hout al nx _ _ ⟨⟨a, _, c, rfl⟩, As.say_self⟩, hstep, fun i hi => (say_has hi).imp (fun h => h) (fun h => ⟨by omega, by show i < nx + 1; omega⟩)⟩
  · exact hq.elim
theorem ct_inline (hmix : P.follows .mixedOrders = true) {ct' : Ct} (hce : ct'.all (fun p => entersB P p.1) = true) (hct : ∀ ρ', Agree 0 ρ ρ' → CtOk P ρ' ct') {lt' : Lt} {n : Nat} {f : FuncId} : CtOne P ρ f (fun args mem nx => call P ct' lt' n f args mem nx) :=
  fun args mem nx q h _ => (all_ok hmix (ctEnter_of hce) n n (Nat.le_refl _) ρ hct).call f args mem nx q h
end
end Go.Proofs.Ytcjaembdcfppfaa
/- Neighbours of cells, walks over cells, and a search by rounds that finds the lengths of shortest walks: plain law, no program in sight. -/
namespace Go.Proofs.Ytcjaembdcfppfaa
namespace Grid

def near (w h c : Nat) : List Nat :=
  (if c / w = 0 then [] else [c - w]) ++ (if c % w = 0 then [] else [c - 1]) ++ (if c % w = w - 1 then [] else [c + 1]) ++ (if c / w < h - 1 then [c + w] else [])
theorem mem_near {w h c d : Nat} : d ∈ near w h c ↔ (c / w ≠ 0 ∧ d = c - w) ∨ (c % w ≠ 0 ∧ d = c - 1) ∨ (c % w ≠ w - 1 ∧ d = c + 1) ∨ (c / w < h - 1 ∧ d = c + w) := by
  unfold near
  by_cases h1 : c / w = 0 <;> by_cases h2 : c % w = 0 <;> by_cases h3 : c % w = w - 1 <;> by_cases h4 : c / w < h - 1 <;> simp [h1, h2, h3, h4]
theorem near_iff {w h c d : Nat} (hw : 0 < w) (hc : c < w * h) : d ∈ near w h c ↔ d < w * h ∧ ((d % w = c % w ∧ (d / w + 1 = c / w ∨ d / w = c / w + 1)) ∨ (d / w = c / w ∧ (d % w + 1 = c % w ∨ d % w = c % w + 1))) := by
  have e1 := Nat.div_add_mod c w
  have e2 := Nat.div_add_mod d w
  have l1 := Nat.mod_lt c hw
  have l2 := Nat.mod_lt d hw
  have hch : c / w < h := Nat.div_lt_of_lt_mul hc
  have key : ∀ q r : Nat, r < w → (w * q + r) / w = q ∧ (w * q + r) % w = r := fun q r hr => by
    constructor
    · rw [Nat.mul_add_div hw, Nat.div_eq_of_lt hr, Nat.add_zero]
    · rw [Nat.mul_add_mod, Nat.mod_eq_of_lt hr]
  rw [mem_near]
  generalize hq : c / w = q at *
  generalize hr : c % w = r at *
  constructor
  · rintro (⟨h1, rfl⟩ | ⟨h1, rfl⟩ | ⟨h1, rfl⟩ | ⟨h1, rfl⟩)
    · obtain ⟨q', rfl⟩ : ∃ q', q = q' + 1 := ⟨q - 1, by omega⟩
      have hcw : c - w = w * q' + r := by rw [Nat.mul_succ] at e1; omega
      obtain ⟨k1, k2⟩ := key q' r l1
      rw [hcw, k1, k2]
      refine ⟨?_, .inl ⟨rfl, .inl rfl⟩⟩
      omega
    · have hcw : c - 1 = w * q + (r - 1) := by omega
      obtain ⟨k1, k2⟩ := key q (r - 1) (by omega)
      rw [hcw, k1, k2]
      refine ⟨by omega, .inr ⟨rfl, .inl (by omega)⟩⟩
    · have hcw : c + 1 = w * q + (r + 1) := by omega
      obtain ⟨k1, k2⟩ := key q (r + 1) (by omega)
      rw [hcw, k1, k2]
      refine ⟨?_, .inr ⟨rfl, .inr rfl⟩⟩
      have : w * (q + 1) ≤ w * h := Nat.mul_le_mul_left _ hch
      rw [Nat.mul_succ] at this
      omega
    · have hcw : c + w = w * (q + 1) + r := by rw [Nat.mul_succ]; omega
      obtain ⟨k1, k2⟩ := key (q + 1) r l1
      rw [hcw, k1, k2]
      refine ⟨?_, .inl ⟨rfl, .inr rfl⟩⟩
      have : w * (q + 1 + 1) ≤ w * h := Nat.mul_le_mul_left _ (by omega)
      rw [Nat.mul_succ (m := q + 1)] at this
      omega
  · rintro ⟨hd, hh⟩
    have hdh := Nat.div_lt_of_lt_mul hd
    generalize d / w = q2 at *
    generalize d % w = r2 at *
    rcases hh with ⟨h1, h2 | h2⟩ | ⟨h1, h2 | h2⟩
    · refine .inl ⟨by omega, ?_⟩
      rw [← h2, Nat.mul_succ] at e1
      omega
    · refine .inr (.inr (.inr ⟨by omega, ?_⟩))
      rw [h2, Nat.mul_succ] at e2
      omega
    · refine .inr (.inl ⟨by omega, ?_⟩)
      rw [h1] at e2
      omega
    · refine .inr (.inr (.inl ⟨by omega, ?_⟩))
      rw [h1] at e2
      omega
theorem near_lt {w h c d : Nat} (hw : 0 < w) (hc : c < w * h) (hd : d ∈ near w h c) : d < w * h := ((near_iff hw hc).1 hd).1
theorem near_symm {w h c d : Nat} (hw : 0 < w) (hc : c < w * h) (hd : d ∈ near w h c) : c ∈ near w h d := by
  obtain ⟨h1, h2⟩ := (near_iff hw hc).1 hd
  refine (near_iff hw h1).2 ⟨hc, ?_⟩
  rcases h2 with ⟨h2, h3 | h3⟩ | ⟨h2, h3 | h3⟩ <;> omega

inductive Walk (w h : Nat) (ok : Nat → Prop) (a : Nat) : Nat → Nat → Prop
  | zero : Walk w h ok a 0 a
  | succ {k c d : Nat} : Walk w h ok a k c → d ∈ near w h c → ok d → Walk w h ok a (k + 1) d
section
variable {w h : Nat} {ok : Nat → Prop} {a : Nat}
theorem Walk.lt (hw : 0 < w) (ha : a < w * h) {k c : Nat} (q : Walk w h ok a k c) : c < w * h := by
  induction q with
  | zero => exact ha
  | succ _ hd _ ih => exact near_lt hw ih hd
theorem Walk.good (ha : ok a) {k c : Nat} (q : Walk w h ok a k c) : ok c := by
  cases q with
  | zero => exact ha
  | succ _ _ h => exact h
theorem Walk.trans {b k c l : Nat} (q : Walk w h ok a k b) (r : Walk w h ok b l c) : Walk w h ok a (k + l) c := by
  induction r with
  | zero => exact q
  | succ _ hd ho ih => exact .succ ih hd ho
theorem Walk.one {c : Nat} (hd : c ∈ near w h a) (ho : ok c) : Walk w h ok a 1 c := .succ .zero hd ho
theorem Walk.symm (hw : 0 < w) (hl : a < w * h) (ha : ok a) {k c : Nat} (q : Walk w h ok a k c) : Walk w h ok c k a := by
  induction q with
  | zero => exact .zero
  | succ q hd ho ih =>
    rename_i k c d
    have h1 : Walk w h ok d 1 c := .one (near_symm hw (q.lt hw hl) hd) (q.good ha)
    have := h1.trans ih
    rwa [Nat.add_comm] at this
theorem Walk.leaves {p : Nat → Prop} [DecidablePred p] (h0 : p a) {k c : Nat} (q : Walk w h ok a k c) (hc : ¬ p c) : ∃ j b d, j < k ∧ Walk w h ok a j b ∧ d ∈ near w h b ∧ Grid.Walk w h ok a (j + 1) d ∧ ok d ∧ p b ∧ ¬ p d := by
  induction q with
  | zero => exact absurd h0 hc
  | succ q hd ho ih =>
    rename_i k c d
    by_cases hp : p c
    · exact ⟨k, c, d, by omega, q, hd, .succ q hd ho, ho, hp, hc⟩
    · obtain ⟨j, b, e, h1, h2⟩ := ih hp
      exact ⟨j, b, e, by omega, h2⟩
end

def at_ (l : List Int) (c : Nat) : Int := (l[c]?).getD 0
structure IsDist (w h : Nat) (ok : Nat → Prop) (a : Nat) (out : List Int) : Prop where
  len : out.length = w * h
  none : ∀ c, c < w * h → at_ out c < 0 → at_ out c = -1 ∧ ∀ k, ¬ Walk w h ok a k c
  some : ∀ c, c < w * h → 0 ≤ at_ out c → Walk w h ok a (at_ out c).toNat c ∧ ∀ j : Nat, (j : Int) < at_ out c → ¬ Walk w h ok a j c
theorem list_at {l r : List Int} (hl : l.length = r.length) (h : ∀ c, c < l.length → at_ l c = at_ r c) : l = r := by
  apply List.ext_getElem hl
  intro i h1 h2
  have := h i h1
  simp only [at_, List.getElem?_eq_getElem h1, List.getElem?_eq_getElem h2, Option.getD_some] at this
  exact this
section
variable {w h : Nat} {ok : Nat → Prop} {a : Nat}
theorem IsDist.eq {l r : List Int} (hl : IsDist w h ok a l) (hr : IsDist w h ok a r) : l = r := by
  refine list_at (by rw [hl.len, hr.len]) (fun c hc => ?_)
  rw [hl.len] at hc
  rcases Int.lt_or_le (at_ l c) 0 with h1 | h1
  · rcases Int.lt_or_le (at_ r c) 0 with h2 | h2
    · rw [(hl.none c hc h1).1, (hr.none c hc h2).1]
    · exact absurd (hr.some c hc h2).1 ((hl.none c hc h1).2 _)
  · rcases Int.lt_or_le (at_ r c) 0 with h2 | h2
    · exact absurd (hl.some c hc h1).1 ((hr.none c hc h2).2 _)
    · have e1 := hl.some c hc h1
      have e2 := hr.some c hc h2
      have k1 : ¬ at_ l c < at_ r c := fun q => e2.2 (at_ l c).toNat (by omega) e1.1
      have k2 : ¬ at_ r c < at_ l c := fun q => e1.2 (at_ r c).toNat (by omega) e2.1
      omega
theorem at_set {l : List Int} {d c : Nat} {v : Int} (hd : d < l.length) : at_ (l.set d v) c = if c = d then v else at_ l c := by
  unfold at_
  rw [List.getElem?_set]
  by_cases e : d = c
  · subst e; simp [hd]
  · simp [e, Ne.symm e]

/-! ### The search -/
theorem nodup_len : ∀ (n : Nat) (l : List Nat), l.Nodup → (∀ x ∈ l, x < n) → l.length ≤ n
  | 0, l, _, h => by
    cases l with
    | nil => simp
    | cons x l => exact absurd (h x (List.mem_cons_self ..)) (Nat.not_lt_zero _)
  | n + 1, l, hn, h => by
    by_cases hm : n ∈ l
    · have h1 := nodup_len n (l.erase n) (hn.erase n) (fun x hx => by
        have hx' := hn.mem_erase_iff.1 hx
        have := h x hx'.2
        omega)
      rw [List.length_erase_of_mem hm] at h1
      omega
    · have := nodup_len n l hn (fun x hx => by
        have h1 := h x hx
        have : x ≠ n := fun e => hm (e ▸ hx)
        omega)
      omega
structure Mid (w h : Nat) (ok : Nat → Prop) (a c : Nat) (seen : List Nat) (out : List Int) (q : List Nat) : Prop where
  len : out.length = w * h
  cl : c < w * h
  low : ∀ x, x < w * h → at_ out x < 0 → at_ out x = -1
  dist : ∀ x, x < w * h → 0 ≤ at_ out x → Walk w h ok a (at_ out x).toNat x ∧ ∀ j : Nat, (j : Int) < at_ out x → ¬ Walk w h ok a j x
  start : at_ out a = 0
  c0 : 0 ≤ at_ out c
  qlt : ∀ x ∈ q, x < w * h
  nodup : (c :: q).Nodup
  sort : ∀ (i j x y : Nat), i < j → q[i]? = some x → q[j]? = some y → at_ out x ≤ at_ out y
  from_ : ∀ x ∈ q, at_ out c ≤ at_ out x
  upto : ∀ x ∈ q, at_ out x ≤ at_ out c + 1
  shut : ∀ x, x < w * h → 0 ≤ at_ out x → x = c ∨ x ∈ q ∨ ∀ d ∈ near w h x, ok d → 0 ≤ at_ out d
  seen : ∀ d ∈ seen, ok d → 0 ≤ at_ out d
structure Wait (w h : Nat) (ok : Nat → Prop) (a : Nat) (out : List Int) (q : List Nat) : Prop where
  len : out.length = w * h
  low : ∀ x, x < w * h → at_ out x < 0 → at_ out x = -1
  dist : ∀ x, x < w * h → 0 ≤ at_ out x → Walk w h ok a (at_ out x).toNat x ∧ ∀ j : Nat, (j : Int) < at_ out x → ¬ Walk w h ok a j x
  start : at_ out a = 0
  qlt : ∀ x ∈ q, x < w * h ∧ 0 ≤ at_ out x
  nodup : q.Nodup
  sort : ∀ (i j x y : Nat), i < j → q[i]? = some x → q[j]? = some y → at_ out x ≤ at_ out y
  span : ∀ x ∈ q, ∀ y ∈ q, at_ out y ≤ at_ out x + 1
  shut : ∀ x, x < w * h → 0 ≤ at_ out x → x ∈ q ∨ ∀ d ∈ near w h x, ok d → 0 ≤ at_ out d
theorem Wait.begin (ha : a < w * h) : Wait w h ok a ((List.replicate (w * h) (-1)).set a 0) [a] := by
  have hl : a < (List.replicate (w * h) (-1 : Int)).length := by simpa using ha
  have key : ∀ x, x < w * h → at_ ((List.replicate (w * h) (-1 : Int)).set a 0) x = if x = a then 0 else -1 := fun x hx => by
    rw [at_set hl]
    simp [at_, hx]
  refine ⟨by simp, fun x hx h1 => ?_, fun x hx h1 => ?_, by rw [key a ha]; simp, fun x hx => ?_, by simp, fun i j x y h1 h2 h3 => ?_, fun x hx y hy => ?_, fun x hx h1 => ?_⟩
  · rw [key x hx] at h1 ⊢
    split at h1
    · omega
    · rename_i e; simp [e]
  · rw [key x hx] at h1 ⊢
    split at h1
    · rename_i e
      subst e
      simp only [if_true]
      exact ⟨.zero, fun j hj => by omega⟩
    · omega
  · simp only [List.mem_singleton] at hx
    subst hx
    rw [key x ha]
    simp [ha]
  · cases j with
    | zero => omega
    | succ j => simp at h3
  · simp only [List.mem_singleton] at hx hy
    subst hx hy
    omega
  · rw [key x hx] at h1
    split at h1
    · rename_i e; exact .inl (by simp [e])
    · omega
theorem Wait.take {out : List Int} {c : Nat} {q : List Nat} (H : Wait w h ok a out (c :: q)) : Mid w h ok a c [] out q where
  len := H.len
  cl := (H.qlt c (List.mem_cons_self ..)).1
  low := H.low
  dist := H.dist
  start := H.start
  c0 := (H.qlt c (List.mem_cons_self ..)).2
  qlt := fun x hx => (H.qlt x (List.mem_cons_of_mem _ hx)).1
  nodup := H.nodup
  sort := fun i j x y h1 h2 h3 => H.sort (i + 1) (j + 1) x y (by omega) (by simpa using h2) (by simpa using h3)
  from_ := fun x hx => by
    obtain ⟨i, hi⟩ := List.getElem?_of_mem hx
    exact H.sort 0 (i + 1) c x (by omega) (by simp) (by simpa using hi)
  upto := fun x hx => H.span c (List.mem_cons_self ..) x (List.mem_cons_of_mem _ hx)
  shut := fun x hx h1 => by
    rcases H.shut x hx h1 with h2 | h2
    · rcases List.mem_cons.1 h2 with h2 | h2
      · exact .inl h2
      · exact .inr (.inl h2)
    · exact .inr (.inr h2)
  seen := fun d hd => by cases hd
theorem Mid.end_ {out : List Int} {c : Nat} {q : List Nat} (H : Mid w h ok a c (near w h c) out q) : Wait w h ok a out q where
  len := H.len
  low := H.low
  dist := H.dist
  start := H.start
  qlt := fun x hx => ⟨H.qlt x hx, by have := H.from_ x hx; have := H.c0; omega⟩
  nodup := (List.nodup_cons.1 H.nodup).2
  sort := H.sort
  span := fun x hx y hy => by have := H.upto y hy; have := H.from_ x hx; omega
  shut := fun x hx h1 => by
    rcases H.shut x hx h1 with h2 | h2 | h2
    · subst h2; exact .inr H.seen
    · exact .inl h2
    · exact .inr h2
theorem Mid.more {out : List Int} {c d : Nat} {seen q : List Nat} (H : Mid w h ok a c seen out q) (hd : ok d → 0 ≤ at_ out d) : Mid w h ok a c (seen ++ [d]) out q :=
  ⟨H.len, H.cl, H.low, H.dist, H.start, H.c0, H.qlt, H.nodup, H.sort, H.from_, H.upto, H.shut, fun x hx ho => by
    rcases List.mem_append.1 hx with h1 | h1
    · exact H.seen x h1 ho
    · simp only [List.mem_singleton] at h1; subst h1; exact hd ho⟩
theorem Mid.room {out : List Int} {c d : Nat} {seen q : List Nat} (H : Mid w h ok a c seen out q) (hd : d < w * h) (h1 : at_ out d < 0) : q.length + 1 < w * h := by
  have hq : d ∉ c :: q := fun hm => by
    rcases List.mem_cons.1 hm with e | hm
    · subst e; have := H.c0; omega
    · have := H.from_ d hm; have := H.c0; omega
  have := nodup_len (w * h) (d :: c :: q) (List.nodup_cons.2 ⟨hq, H.nodup⟩) (fun x hx => by
    rcases List.mem_cons.1 hx with e | hx
    · subst e; exact hd
    · rcases List.mem_cons.1 hx with e | hx
      · subst e; exact H.cl
      · exact H.qlt x hx)
  simp only [List.length_cons] at this
  omega
theorem Mid.push (hw : 0 < w) (ha : a < w * h) {out : List Int} {c d : Nat} {seen q : List Nat} (H : Mid w h ok a c seen out q) (hd : d ∈ near w h c) (ho : ok d) (h1 : at_ out d < 0) :
    Mid w h ok a c (seen ++ [d]) (out.set d (at_ out c + 1)) (q ++ [d]) := by
  have hdl := near_lt hw H.cl hd
  have hdo : d < out.length := by rw [H.len]; exact hdl
  have hdc : c ≠ d := fun e => by subst e; have := H.c0; omega
  have hdq : d ∉ q := fun hm => by have := H.from_ d hm; have := H.c0; omega
  have hda : a ≠ d := fun e => by subst e; have := H.start; omega
  have key : ∀ x, at_ (out.set d (at_ out c + 1)) x = if x = d then at_ out c + 1 else at_ out x := fun x => at_set hdo
  have old : ∀ x, x ≠ d → at_ (out.set d (at_ out c + 1)) x = at_ out x := fun x hx => by rw [key, if_neg hx]
  have oldq : ∀ x ∈ q, at_ (out.set d (at_ out c + 1)) x = at_ out x := fun x hx => old x (fun e => hdq (e ▸ hx))
  have new : at_ (out.set d (at_ out c + 1)) d = at_ out c + 1 := by rw [key, if_pos rfl]
  have c0 := H.c0
  have hc := H.dist c H.cl c0
  have up : ∀ x, 0 ≤ at_ out x → 0 ≤ at_ (out.set d (at_ out c + 1)) x := fun x hx => by rw [key]; split <;> omega
  refine ⟨by simpa using H.len, H.cl, fun x hx h2 => ?_, fun x hx h2 => ?_, by rw [old a hda]; exact H.start, by rw [old c hdc]; exact c0, fun x hx => ?_, ?_, fun i j x y hij hi hj => ?_, fun x hx => ?_, fun x hx => ?_, fun x hx h2 => ?_, fun x hx hox => ?_⟩
  · rw [key] at h2 ⊢
    split at h2
    · omega
    · rename_i e; rw [if_neg e]; exact H.low x hx h2
  · rw [key] at h2 ⊢
    split
    · rename_i e
      subst e
      have ek : (at_ out c + 1).toNat = (at_ out c).toNat + 1 := by omega
      rw [ek]
      refine ⟨.succ hc.1 hd ho, fun j hj hwk => ?_⟩
      have hp0 : (0 : Int) ≤ at_ out a := by rw [H.start]; omega
      obtain ⟨i, b, e, h3, h4, h5, _, h6, h7, h8⟩ := hwk.leaves (p := fun x => 0 ≤ at_ out x) hp0 (by omega)
      have hbl := h4.lt hw ha
      have hb := H.dist b hbl h7
      have hbi : at_ out b ≤ i := by
        rcases Int.lt_or_le i (at_ out b) with q | q
        · exact absurd h4 (hb.2 i q)
        · exact q
      rcases H.shut b hbl h7 with h9 | h9 | h9
      · subst h9; omega
      · have := H.from_ b h9; omega
      · exact h8 (h9 e h5 h6)
    · rename_i e
      rw [if_neg e] at h2
      exact H.dist x hx h2
  · rcases List.mem_append.1 hx with h2 | h2
    · exact H.qlt x h2
    · simp only [List.mem_singleton] at h2; subst h2; exact hdl
  · have := H.nodup
    rw [List.nodup_cons] at this ⊢
    refine ⟨fun hm => ?_, ?_⟩
    · rcases List.mem_append.1 hm with h2 | h2
      · exact this.1 h2
      · simp only [List.mem_singleton] at h2; exact hdc h2
    · rw [List.nodup_append]
      refine ⟨this.2, by simp, fun x hx y hy e => ?_⟩
      simp only [List.mem_singleton] at hy
      subst hy e
      exact hdq hx
  · rw [List.getElem?_append] at hi hj
    split at hj
    · rename_i hjl
      rw [if_pos (by omega)] at hi
      rw [oldq x (List.mem_of_getElem? hi), oldq y (List.mem_of_getElem? hj)]
      exact H.sort i j x y hij hi hj
    · rename_i hjl
      have hj0 : j - q.length = 0 := by
        cases hk : j - q.length with
        | zero => rfl
        | succ k => rw [hk] at hj; simp at hj
      rw [hj0] at hj
      simp only [List.getElem?_cons_zero, Option.some.injEq] at hj
      subst hj
      rw [if_pos (by omega)] at hi
      have hxq := List.mem_of_getElem? hi
      rw [oldq x hxq, new]
      exact H.upto x hxq
  · rw [old c hdc]
    rcases List.mem_append.1 hx with h2 | h2
    · rw [oldq x h2]; exact H.from_ x h2
    · simp only [List.mem_singleton] at h2; subst h2; rw [new]; omega
  · rw [old c hdc]
    rcases List.mem_append.1 hx with h2 | h2
    · rw [oldq x h2]; exact H.upto x h2
    · simp only [List.mem_singleton] at h2; subst h2; rw [new]; omega
  · by_cases e : x = d
    · exact .inr (.inl (by simp [e]))
    · rw [old x e] at h2
      rcases H.shut x hx h2 with h3 | h3 | h3
      · exact .inl h3
      · exact .inr (.inl (List.mem_append_left _ h3))
      · exact .inr (.inr (fun y hy hoy => up y (h3 y hy hoy)))
  · rcases List.mem_append.1 hx with h2 | h2
    · exact up x (H.seen x h2 hox)
    · simp only [List.mem_singleton] at h2; subst h2; rw [new]; omega
theorem Wait.dist_end (hw : 0 < w) (ha : a < w * h) {out : List Int} (H : Wait w h ok a out []) : IsDist w h ok a out := by
  refine ⟨H.len, fun c hc h1 => ⟨H.low c hc h1, fun k hk => ?_⟩, H.dist⟩
  have hp0 : (0 : Int) ≤ at_ out a := by rw [H.start]; omega
  obtain ⟨i, b, e, _, h4, h5, _, h6, h7, h8⟩ := hk.leaves (p := fun x => 0 ≤ at_ out x) hp0 (by omega)
  rcases H.shut b (h4.lt hw ha) h7 with h9 | h9
  · cases h9
  · exact h8 (h9 e h5 h6)
end
end Grid
end Go.Proofs.Ytcjaembdcfppfaa
/- Waters of a grid: the numbers that are given to connected cells. Plain law. -/
namespace Go.Proofs.Ytcjaembdcfppfaa
namespace Grid

def Deep (D : List Int) (need : Int) (c : Nat) : Prop := need ≤ at_ D c
def relax (w h : Nat) (D : List Int) (need : Int) (k : Int) (l : List Int) : List Int :=
  (List.range (w * h)).map fun c => if 0 ≤ at_ l c then at_ l c else if decide (need ≤ at_ D c) && (near w h c).any (fun e => at_ l e == k) then k + 1 else -1
def stepsN (w h : Nat) (D : List Int) (need : Int) (a : Nat) : Nat → List Int
  | 0 => (List.range (w * h)).map fun c => if c = a then 0 else -1
  | k + 1 => relax w h D need k (stepsN w h D need a k)
def stepsF (w h : Nat) (D : List Int) (need : Int) (a : Nat) : List Int := stepsN w h D need a (w * h)
structure Upto (w h : Nat) (ok : Nat → Prop) (a k : Nat) (l : List Int) : Prop where
  len : l.length = w * h
  none : ∀ c, c < w * h → at_ l c < 0 → at_ l c = -1 ∧ ∀ j, j ≤ k → ¬ Walk w h ok a j c
  some : ∀ c, c < w * h → 0 ≤ at_ l c → at_ l c ≤ k ∧ Walk w h ok a (at_ l c).toNat c ∧ ∀ j : Nat, (j : Int) < at_ l c → ¬ Walk w h ok a j c
theorem at_range {n : Nat} {f : Nat → Int} {c : Nat} (hc : c < n) : at_ ((List.range n).map f) c = f c := by simp [at_, hc]
theorem stepsN_upto {w h : Nat} {D : List Int} {need : Int} {a : Nat} (hw : 0 < w) (ha : a < w * h) : ∀ k, Upto w h (Deep D need) a k (stepsN w h D need a k)
  | 0 => by
    refine ⟨by simp [stepsN], fun c hc h1 => ?_, fun c hc h1 => ?_⟩
    · rw [stepsN, at_range hc] at h1 ⊢
      split at h1
      · omega
      · rename_i e
        rw [if_neg e]
        refine ⟨rfl, fun j hj hk => ?_⟩
        obtain rfl : j = 0 := by omega
        cases hk
        exact e rfl
    · rw [stepsN, at_range hc] at h1 ⊢
      split at h1
      · rename_i e
        subst e
        rw [if_pos rfl]
        exact ⟨Int.le_refl _, .zero, fun j hj => by omega⟩
      · omega
  | k + 1 => by
    have H := stepsN_upto (D := D) (need := need) hw ha k
    generalize hl : stepsN w h D need a k = l at H
    have key : ∀ c, c < w * h → at_ (stepsN w h D need a (k + 1)) c = if 0 ≤ at_ l c then at_ l c else if decide (need ≤ at_ D c) && (near w h c).any (fun e => at_ l e == (k : Int)) then (k : Int) + 1 else -1 := fun c hc => by
      rw [stepsN, hl, relax, at_range hc]
    refine ⟨by simp [stepsN, relax], fun c hc h1 => ?_, fun c hc h1 => ?_⟩
    · rw [key c hc] at h1 ⊢
      split at h1
      · omega
      · rename_i h2
        rw [if_neg h2]
        split at h1
        · omega
        · rename_i h3
          rw [if_neg h3]
          refine ⟨rfl, fun j hj hk => ?_⟩
          have hn := (H.none c hc (by omega)).2
          by_cases e : j ≤ k
          · exact hn j e hk
          · obtain rfl : j = k + 1 := by omega
            cases hk with
            | succ q hd ho =>
              rename_i d
              have hdl := q.lt hw ha
              apply h3
              rw [Bool.and_eq_true, decide_eq_true_eq, List.any_eq_true]
              refine ⟨ho, d, near_symm hw hdl hd, ?_⟩
              rcases Int.lt_or_le (at_ l d) 0 with g | g
              · exact absurd q ((H.none d hdl g).2 k (Nat.le_refl _))
              · obtain ⟨g1, g2, g3⟩ := H.some d hdl g
                have : ¬ at_ l d < k := fun g4 => hn ((at_ l d).toNat + 1) (by omega) (.succ g2 hd ho)
                simp only [beq_iff_eq]
                omega
    · rw [key c hc] at h1 ⊢
      by_cases h2 : 0 ≤ at_ l c
      · rw [if_pos h2]
        obtain ⟨g1, g2, g3⟩ := H.some c hc h2
        exact ⟨by omega, g2, g3⟩
      · rw [if_neg h2] at h1 ⊢
        split at h1
        · rename_i h3
          rw [if_pos h3]
          rw [Bool.and_eq_true, decide_eq_true_eq, List.any_eq_true] at h3
          obtain ⟨ho, d, hd, hk⟩ := h3
          simp only [beq_iff_eq] at hk
          have hdl := near_lt hw hc hd
          obtain ⟨_, g2, _⟩ := H.some d hdl (by omega)
          rw [hk] at g2
          have e1 : ((k : Int) + 1).toNat = k + 1 := by omega
          rw [e1]
          refine ⟨by omega, .succ g2 (near_symm hw hc hd) ho, fun j hj => ?_⟩
          exact (H.none c hc (by omega)).2 j (by omega)
        · omega
theorem levels {w h : Nat} {ok : Nat → Prop} {a : Nat} (hw : 0 < w) (ha : a < w * h) : ∀ (m c : Nat), Walk w h ok a m c → (∀ j, j < m → ¬ Walk w h ok a j c) →
    ∃ l : List Nat, l.length = m + 1 ∧ l.Nodup ∧ ∀ x ∈ l, x < w * h ∧ ∃ j, j ≤ m ∧ Walk w h ok a j x ∧ ∀ i, i < j → ¬ Walk w h ok a i x
  | 0, c, hk, hm => ⟨[c], rfl, by simp, fun x hx => by
      simp only [List.mem_singleton] at hx
      subst hx
      exact ⟨hk.lt hw ha, 0, Nat.le_refl _, hk, hm⟩⟩
  | m + 1, c, hk, hm => by
    have hcl := hk.lt hw ha
    cases hk with
    | succ q hd ho =>
      rename_i d
      obtain ⟨l, l1, l2, l3⟩ := levels hw ha m d q (fun j hj hw' => hm (j + 1) (by omega) (.succ hw' hd ho))
      refine ⟨c :: l, by simp [l1], List.nodup_cons.2 ⟨fun hx => ?_, l2⟩, fun x hx => ?_⟩
      · obtain ⟨_, j, j1, j2, _⟩ := l3 c hx
        exact hm j (by omega) j2
      · rcases List.mem_cons.1 hx with e | hx
        · subst e; exact ⟨hcl, m + 1, Nat.le_refl _, .succ q hd ho, hm⟩
        · obtain ⟨x1, j, j1, j2⟩ := l3 x hx
          exact ⟨x1, j, by omega, j2⟩
theorem stepsF_is {w h : Nat} {D : List Int} {need : Int} {a : Nat} (hw : 0 < w) (ha : a < w * h) : IsDist w h (Deep D need) a (stepsF w h D need a) := by
  have H := stepsN_upto (D := D) (need := need) hw ha (w * h)
  refine ⟨H.len, fun c hc h1 => ⟨(H.none c hc h1).1, fun k hk => ?_⟩, fun c hc h1 => (H.some c hc h1).2⟩
  have least : ∀ k, Walk w h (Deep D need) a k c → ∃ m, m ≤ k ∧ Walk w h (Deep D need) a m c ∧ ∀ j, j < m → ¬ Walk w h (Deep D need) a j c := by
    intro k
    induction k using Nat.strongRecOn with
    | _ k ih =>
      intro hk
      by_cases hq : ∃ j, j < k ∧ Walk w h (Deep D need) a j c
      · obtain ⟨j, j1, j2⟩ := hq
        obtain ⟨m, m1, m2⟩ := ih j j1 j2
        exact ⟨m, by omega, m2⟩
      · exact ⟨k, Nat.le_refl _, hk, fun j j1 j2 => hq ⟨j, j1, j2⟩⟩
  obtain ⟨m, _, m1, m2⟩ := least k hk
  obtain ⟨l, l1, l2, l3⟩ := levels hw ha m c m1 m2
  have := nodup_len (w * h) l l2 (fun x hx => (l3 x hx).1)
  exact (H.none c hc h1).2 m (by omega) m1
theorem stepsF_eq {w h : Nat} {D : List Int} {need : Int} {a : Nat} (hw : 0 < w) (ha : a < w * h) {out : List Int} (H : IsDist w h (Deep D need) a out) : out = stepsF w h D need a := H.eq (stepsF_is hw ha)
def Conn (w h : Nat) (ok : Nat → Prop) (a b : Nat) : Prop := ∃ k, Walk w h ok a k b
section
variable {w h : Nat} {ok : Nat → Prop}
theorem Conn.refl (a : Nat) : Conn w h ok a a := ⟨0, .zero⟩
theorem Conn.trans {a b c : Nat} (p : Conn w h ok a b) (q : Conn w h ok b c) : Conn w h ok a c := let ⟨_, p⟩ := p; let ⟨_, q⟩ := q; ⟨_, p.trans q⟩
theorem Conn.symm (hw : 0 < w) {a b : Nat} (ha : a < w * h) (ho : ok a) (p : Conn w h ok a b) : Conn w h ok b a := let ⟨_, p⟩ := p; ⟨_, p.symm hw ha ho⟩
theorem Conn.good {a b : Nat} (ho : ok a) (p : Conn w h ok a b) : ok b := let ⟨_, p⟩ := p; p.good ho
theorem Conn.lt (hw : 0 < w) {a b : Nat} (ha : a < w * h) (p : Conn w h ok a b) : b < w * h := let ⟨_, p⟩ := p; p.lt hw ha
end
theorem IsDist.conn {w h : Nat} {ok : Nat → Prop} {a : Nat} {out : List Int} (H : IsDist w h ok a out) {c : Nat} (hc : c < w * h) : 0 ≤ at_ out c ↔ Conn w h ok a c := by
  constructor
  · intro h1; exact ⟨_, (H.some c hc h1).1⟩
  · rintro ⟨k, hk⟩
    rcases Int.lt_or_le (at_ out c) 0 with h1 | h1
    · exact absurd hk ((H.none c hc h1).2 k)
    · exact h1

def fillF (s : List Int) (num : Int) (out : List Int) : List Int := (List.range out.length).map fun k => if 0 ≤ at_ s k then num else at_ out k
theorem at_fill {s out : List Int} {num : Int} {k : Nat} (hk : k < out.length) : at_ (fillF s num out) k = if 0 ≤ at_ s k then num else at_ out k := by simp [fillF, at_, hk]
theorem fill_len (s out : List Int) (num : Int) : (fillF s num out).length = out.length := by simp [fillF]
def waterStep (w h : Nat) (D : List Int) (need : Int) (st : List Int × Int) (c : Nat) : List Int × Int :=
  if at_ D c < need ∨ 0 < at_ st.1 c then st else (fillF (stepsF w h D need c) (st.2 + 1) st.1, st.2 + 1)
def waterN (w h : Nat) (D : List Int) (need : Int) : Nat → List Int × Int
  | 0 => (List.replicate (w * h) 0, 0)
  | k + 1 => waterStep w h D need (waterN w h D need k) k
def waterF (w h : Nat) (D : List Int) (need : Int) : List Int := (waterN w h D need (w * h)).1
structure WInv (w h : Nat) (ok : Nat → Prop) (k : Nat) (out : List Int) (m : Int) : Prop where
  len : out.length = w * h
  m0 : 0 ≤ m
  rng : ∀ x, x < w * h → 0 ≤ at_ out x ∧ at_ out x ≤ m
  shoal : ∀ x, x < w * h → ¬ ok x → at_ out x = 0
  pos : ∀ x, x < w * h → ok x → (0 < at_ out x ↔ ∃ r, r < k ∧ ok r ∧ Conn w h ok r x)
  same : ∀ x y, x < w * h → y < w * h → 0 < at_ out x → 0 < at_ out y → (at_ out x = at_ out y ↔ Conn w h ok x y)
  rep : ∀ v, 1 ≤ v → v ≤ m → ∃ r, r < k ∧ at_ out r = v
  first : ∀ x, x < k → 1 < at_ out x → ∃ y, y < x ∧ at_ out y = at_ out x - 1
theorem winv (w h : Nat) (D : List Int) (need : Int) (hw : 0 < w) : ∀ k, k ≤ w * h → WInv w h (Deep D need) k (waterN w h D need k).1 (waterN w h D need k).2
  | 0, _ => by
    have z : ∀ x, x < w * h → at_ (List.replicate (w * h) (0 : Int)) x = 0 := fun x hx => by simp [at_, hx]
    refine ⟨by simp [waterN], Int.le_refl _, fun x hx => ?_, fun x hx _ => z x hx, fun x hx _ => ?_, fun x y hx _ h1 => ?_, fun v h1 h2 => ?_, fun x hx => by omega⟩
    · simp only [waterN]; rw [z x hx]; omega
    · simp only [waterN]; rw [z x hx]
      exact ⟨fun h1 => by omega, fun ⟨r, h1, _⟩ => by omega⟩
    · simp only [waterN] at h1; rw [z x hx] at h1; omega
    · simp only [waterN] at h2; omega
  | k + 1, hk => by
    have H := winv w h D need hw k (by omega)
    have hkl : k < w * h := by omega
    simp only [waterN, waterStep]
    generalize hst : waterN w h D need k = st at H ⊢
    obtain ⟨out, m⟩ := st
    simp only at H ⊢
    by_cases hc : at_ D k < need ∨ 0 < at_ out k
    · rw [if_pos hc]
      refine ⟨H.len, H.m0, H.rng, H.shoal, fun x hx ho => ?_, H.same, fun v h1 h2 => ?_, fun x hx h1 => ?_⟩
      · rw [H.pos x hx ho]
        constructor
        · rintro ⟨r, h1, h2⟩; exact ⟨r, by omega, h2⟩
        · rintro ⟨r, h1, h2, h3⟩
          by_cases e : r = k
          · subst e
            rcases hc with hc | hc
            · exact absurd h2 (by unfold Deep; omega)
            · obtain ⟨r', k1, k2, k3⟩ := (H.pos r hkl h2).1 hc
              exact ⟨r', k1, k2, k3.trans h3⟩
          · exact ⟨r, by omega, h2, h3⟩
      · obtain ⟨r, k1, k2⟩ := H.rep v h1 h2; exact ⟨r, by omega, k2⟩
      · by_cases e : x = k
        · subst e
          have hr := H.rng x hkl
          simp only at h1
          obtain ⟨r, k1, k2⟩ := H.rep (at_ out x - 1) (by omega) (by omega)
          exact ⟨r, k1, k2⟩
        · exact H.first x (by omega) h1
    · rw [if_neg hc]
      simp only [not_or, Int.not_lt] at hc
      obtain ⟨hc1, hc2⟩ := hc
      have hok : Deep D need k := hc1
      have hk0 : at_ out k = 0 := by have := H.rng k hkl; omega
      have S := stepsF_is (D := D) (need := need) hw hkl
      generalize stepsF w h D need k = s at S
      have hs : ∀ x, x < w * h → (0 ≤ at_ s x ↔ Conn w h (Deep D need) k x) := fun x hx => S.conn hx
      have key : ∀ x, x < w * h → at_ (fillF s (m + 1) out) x = if 0 ≤ at_ s x then m + 1 else at_ out x := fun x hx => at_fill (by rw [H.len]; exact hx)
      have m0 := H.m0
      have hz : ∀ x, x < w * h → 0 ≤ at_ s x → at_ out x = 0 := fun x hx h1 => by
        have hcx := (hs x hx).1 h1
        have hox := hcx.good hok
        have hr := H.rng x hx
        rcases Int.lt_or_le 0 (at_ out x) with q | q
        · obtain ⟨r, k1, k2, k3⟩ := (H.pos x hx hox).1 q
          have : 0 < at_ out k := (H.pos k hkl hok).2 ⟨r, k1, k2, k3.trans (hcx.symm hw hkl hok)⟩
          omega
        · omega
      refine ⟨by rw [fill_len]; exact H.len, by omega, fun x hx => ?_, fun x hx ho => ?_, fun x hx ho => ?_, fun x y hx hy h1 h2 => ?_, fun v h1 h2 => ?_, fun x hx h1 => ?_⟩
      · rw [key x hx]; have := H.rng x hx; split <;> omega
      · rw [key x hx]
        rw [if_neg (fun q => ho (((hs x hx).1 q).good hok))]
        exact H.shoal x hx ho
      · rw [key x hx]
        by_cases q : 0 ≤ at_ s x
        · rw [if_pos q]
          exact ⟨fun _ => ⟨k, by omega, hok, (hs x hx).1 q⟩, fun _ => by omega⟩
        · rw [if_neg q, H.pos x hx ho]
          constructor
          · rintro ⟨r, h1, h2⟩; exact ⟨r, by omega, h2⟩
          · rintro ⟨r, h1, h2, h3⟩
            by_cases e : r = k
            · subst e; exact absurd ((hs x hx).2 h3) q
            · exact ⟨r, by omega, h2, h3⟩
      · rw [key x hx] at h1 ⊢
        rw [key y hy] at h2 ⊢
        by_cases qx : 0 ≤ at_ s x <;> by_cases qy : 0 ≤ at_ s y
        · rw [if_pos qx, if_pos qy]
          exact ⟨fun _ => (((hs x hx).1 qx).symm hw hkl hok).trans ((hs y hy).1 qy), fun _ => rfl⟩
        · rw [if_pos qx, if_neg qy]
          have := H.rng y hy
          exact ⟨fun e => by omega, fun e => absurd ((hs y hy).2 (((hs x hx).1 qx).trans e)) qy⟩
        · rw [if_neg qx, if_pos qy]
          have := H.rng x hx
          refine ⟨fun e => by omega, fun e => absurd ((hs x hx).2 (((hs y hy).1 qy).trans ?_)) qx⟩
          rw [if_neg qx] at h1
          have hox : Deep D need x := Classical.byContradiction fun q => by have := H.shoal x hx q; omega
          exact e.symm hw hx hox
        · rw [if_neg qx] at h1 ⊢
          rw [if_neg qy] at h2 ⊢
          exact H.same x y hx hy h1 h2
      · by_cases e : v = m + 1
        · refine ⟨k, by omega, ?_⟩
          rw [key k hkl, if_pos ((hs k hkl).2 (.refl k)), e]
        · obtain ⟨r, k1, k2⟩ := H.rep v h1 (by omega)
          refine ⟨r, by omega, ?_⟩
          have hrl : r < w * h := by omega
          rw [key r hrl, if_neg (fun q => by have := hz r hrl q; omega)]
          exact k2
      · by_cases e : x = k
        · subst e
          rw [key x hkl, if_pos ((hs x hkl).2 (.refl x))] at h1 ⊢
          obtain ⟨r, k1, k2⟩ := H.rep m (by omega) (Int.le_refl _)
          have hrl : r < w * h := by omega
          refine ⟨r, k1, ?_⟩
          rw [key r hrl, if_neg (fun q => by have := hz r hrl q; omega)]
          omega
        · have hxl : x < w * h := by omega
          have hns : ∀ y, y < k → ¬ 0 ≤ at_ s y := fun y hy q => by
            have hyl : y < w * h := by omega
            have hcy := (hs y hyl).1 q
            have := (H.pos y hyl (hcy.good hok)).2 ⟨y, hy, hcy.good hok, .refl y⟩
            have := hz y hyl q
            omega
          rw [key x hxl, if_neg (hns x (by omega))] at h1 ⊢
          obtain ⟨y, k1, k2⟩ := H.first x (by omega) h1
          exact ⟨y, k1, by rw [key y (by omega), if_neg (hns y (by omega))]; exact k2⟩
theorem waterF_is (w h : Nat) (D : List Int) (need : Int) (hw : 0 < w) : ∃ m, WInv w h (Deep D need) (w * h) (waterF w h D need) m := ⟨_, winv w h D need hw (w * h) (Nat.le_refl _)⟩
theorem water_zero {w h : Nat} {D : List Int} {need : Int} (hw : 0 < w) {c : Nat} (hc : c < w * h) : at_ (waterF w h D need) c = 0 ↔ at_ D c < need := by
  obtain ⟨m, H⟩ := waterF_is w h D need hw
  have hr := H.rng c hc
  constructor
  · intro h1
    rcases Int.lt_or_le (at_ D c) need with q | q
    · exact q
    · have := (H.pos c hc q).2 ⟨c, hc, q, .refl c⟩; omega
  · intro h1; exact H.shoal c hc (fun q => by unfold Deep at q; omega)
theorem water_same {w h : Nat} {D : List Int} {need : Int} (hw : 0 < w) {c d : Nat} (hc : c < w * h) (hd : d < w * h) (h1 : need ≤ at_ D c) (h2 : need ≤ at_ D d) :
    at_ (waterF w h D need) c = at_ (waterF w h D need) d ↔ Conn w h (Deep D need) c d := by
  obtain ⟨m, H⟩ := waterF_is w h D need hw
  exact H.same c d hc hd ((H.pos c hc h1).2 ⟨c, hc, h1, .refl c⟩) ((H.pos d hd h2).2 ⟨d, hd, h2, .refl d⟩)
end Grid
end Go.Proofs.Ytcjaembdcfppfaa
/- Shortest ways over a grid's cells: the one that always goes to the first neighbour that is nearer is the first of the shortest ones. Plain law. -/
namespace Go.Proofs.Ytcjaembdcfppfaa
namespace Grid

def nextF (w h : Nat) (left : List Int) (c : Nat) : Nat := ((near w h c).find? fun d => at_ left d == at_ left c - 1).getD c
def pathF (w h : Nat) (left : List Int) : Nat → Nat → List Nat
  | 0, _ => []
  | k + 1, c => nextF w h left c :: pathF w h left k (nextF w h left c)
def wayF (w h : Nat) (left : List Int) (a : Nat) : List Nat := a :: pathF w h left (at_ left a).toNat a
theorem near_sorted {w h c : Nat} (hw : 0 < w) : (near w h c).Pairwise (· < ·) := by
  have one : ∀ x : Nat, 1 < w ∨ w = 1 := fun x => by omega
  have pA : ∀ x, x ∈ (if c / w = 0 then [] else [c - w]) → x = c - w ∧ w ≤ c := fun x hx => by
    split at hx
    · cases hx
    · rename_i q
      simp only [List.mem_singleton] at hx
      refine ⟨hx, ?_⟩
      rcases Nat.lt_or_ge c w with k | k
      · exact absurd (Nat.div_eq_of_lt k) q
      · exact k
  have pB : ∀ x, x ∈ (if c % w = 0 then [] else [c - 1]) → x = c - 1 ∧ 1 < w ∧ 0 < c := fun x hx => by
    split at hx
    · cases hx
    · rename_i q
      simp only [List.mem_singleton] at hx
      refine ⟨hx, ?_, ?_⟩
      · rcases one 0 with k | k
        · exact k
        · subst k; exact absurd (Nat.mod_one c) q
      · rcases Nat.eq_zero_or_pos c with k | k
        · subst k; exact absurd (Nat.zero_mod w) q
        · exact k
  have pC : ∀ x, x ∈ (if c % w = w - 1 then [] else [c + 1]) → x = c + 1 ∧ 1 < w := fun x hx => by
    split at hx
    · cases hx
    · rename_i q
      simp only [List.mem_singleton] at hx
      refine ⟨hx, ?_⟩
      rcases one 0 with k | k
      · exact k
      · subst k; exact absurd (by simp [Nat.mod_one]) q
  have pD : ∀ x, x ∈ (if c / w < h - 1 then [c + w] else []) → x = c + w := fun x hx => by
    split at hx
    · simpa using hx
    · cases hx
  unfold near
  simp only [List.pairwise_append, List.mem_append]
  refine ⟨⟨⟨?_, ?_, fun a ha b hb => ?_⟩, ?_, fun a ha b hb => ?_⟩, ?_, fun a ha b hb => ?_⟩
  · split <;> simp
  · split <;> simp
  · have := pA a ha; have := pB b hb; omega
  · split <;> simp
  · have h2 := pC b hb
    rcases ha with ha | ha
    · have := pA a ha; omega
    · have := pB a ha; omega
  · split <;> simp
  · have h2 := pD b hb
    rcases ha with (ha | ha) | ha
    · have := pA a ha; omega
    · have := pB a ha; omega
    · have := pC a ha; omega
section
variable {w h : Nat} {ok : Nat → Prop} {b : Nat} {left : List Int}
theorem IsDist.le (H : IsDist w h ok b left) {k c : Nat} (hc : c < w * h) (q : Walk w h ok b k c) : 0 ≤ at_ left c ∧ at_ left c ≤ k := by
  rcases Int.lt_or_le (at_ left c) 0 with h1 | h1
  · exact absurd q ((H.none c hc h1).2 k)
  · refine ⟨h1, ?_⟩
    rcases Int.lt_or_le k (at_ left c) with h2 | h2
    · exact absurd q ((H.some c hc h1).2 k h2)
    · exact h2
theorem IsDist.near_le (H : IsDist w h ok b left) {c d : Nat} (hc : c < w * h) (hd : d < w * h) (ho : ok c) (hn : c ∈ near w h d) (h1 : 0 ≤ at_ left d) : 0 ≤ at_ left c ∧ at_ left c ≤ at_ left d + 1 := by
  have := H.le hc (Walk.succ (H.some d hd h1).1 hn ho)
  omega
theorem IsDist.step (H : IsDist w h ok b left) (hw : 0 < w) (hb : b < w * h) {c : Nat} (hc : c < w * h) (h0 : 0 < at_ left c) : ∃ d, d ∈ near w h c ∧ at_ left d = at_ left c - 1 := by
  have hs := H.some c hc (by omega)
  obtain ⟨k, hk⟩ : ∃ k, (at_ left c).toNat = k + 1 := ⟨(at_ left c).toNat - 1, by omega⟩
  have hw' := hs.1
  rw [hk] at hw'
  cases hw' with
  | succ q hd ho =>
    rename_i d
    have hdl := q.lt hw hb
    refine ⟨d, near_symm hw hdl hd, ?_⟩
    have h1 := H.le hdl q
    have h2 := H.near_le hc hdl ho hd h1.1
    omega
theorem next_spec (H : IsDist w h ok b left) (hw : 0 < w) (hb : b < w * h) {c : Nat} (hc : c < w * h) (h0 : 0 < at_ left c) :
    nextF w h left c ∈ near w h c ∧ at_ left (nextF w h left c) = at_ left c - 1 ∧ ∀ d, d ∈ near w h c → at_ left d = at_ left c - 1 → nextF w h left c ≤ d := by
  obtain ⟨d, h1, h2⟩ := H.step hw hb hc h0
  unfold nextF
  cases hf : (near w h c).find? fun d => at_ left d == at_ left c - 1 with
  | none => exact absurd (List.find?_eq_none.1 hf d h1) (by simp [h2])
  | some e =>
    have h3 := List.find?_some hf
    simp only [beq_iff_eq] at h3
    simp only [Option.getD_some]
    refine ⟨List.mem_of_find?_eq_some hf, h3, fun x hx he => ?_⟩
    obtain ⟨_, xs, ys, e1, e2⟩ := List.find?_eq_some_iff_append.1 hf
    have hp := near_sorted (h := h) (c := c) hw
    rw [e1] at hp hx
    rcases List.mem_append.1 hx with q | q
    · have := e2 x q
      simp [he] at this
    · rcases List.mem_cons.1 q with q | q
      · omega
      · have := (List.pairwise_cons.1 (List.pairwise_append.1 hp).2.1).1 x q
        omega
structure IsWay (w h : Nat) (ok : Nat → Prop) (l : List Nat) (a b : Nat) : Prop where
  head : l[0]? = some a
  last : l[l.length - 1]? = some b
  all : ∀ x ∈ l, x < w * h ∧ ok x
  step : ∀ i x y, l[i]? = some x → l[i + 1]? = some y → y ∈ near w h x
theorem IsWay.tail {l : List Nat} {a b c : Nat} (H : IsWay w h ok (a :: c :: l) a b) : IsWay w h ok (c :: l) c b :=
  ⟨rfl, by have := H.last; simpa using this, fun x hx => H.all x (List.mem_cons_of_mem _ hx), fun i x y h1 h2 => H.step (i + 1) x y (by simpa using h1) (by simpa using h2)⟩
theorem IsWay.walk (hw : 0 < w) : ∀ {l : List Nat} {a b : Nat}, IsWay w h ok (a :: l) a b → Walk w h ok b l.length a
  | [], a, b, H => by
    have := H.last
    simp only [List.length_singleton, Nat.sub_self, List.getElem?_cons_zero, Option.some.injEq] at this
    subst this
    exact .zero
  | c :: l, a, b, H => by
    have h1 := IsWay.walk hw H.tail
    have hc := H.all c (by simp)
    have ha := H.all a (by simp)
    exact .succ h1 (near_symm hw ha.1 (H.step 0 a c rfl rfl)) ha.2
theorem path_len (w h : Nat) (left : List Int) : ∀ k c, (pathF w h left k c).length = k
  | 0, _ => rfl
  | k + 1, c => by simp [pathF, path_len w h left k]
theorem path_way (H : IsDist w h ok b left) (hw : 0 < w) (hb : b < w * h) (hob : ok b) : ∀ k c, c < w * h → at_ left c = (k : Nat) → IsWay w h ok (c :: pathF w h left k c) c b
  | 0, c, hc, h0 => by
    have hs := H.some c hc (by omega)
    rw [h0] at hs
    have hwk := hs.1
    simp only [Int.toNat_natCast] at hwk
    cases hwk
    refine ⟨rfl, rfl, fun x hx => ?_, fun i x y h1 h2 => ?_⟩
    · simp only [pathF, List.mem_singleton] at hx; subst hx; exact ⟨hb, hob⟩
    · simp [pathF] at h2
  | k + 1, c, hc, h0 => by
    obtain ⟨n1, n2, _⟩ := next_spec H hw hb hc (by omega)
    have hn := near_lt hw hc n1
    have ih := path_way H hw hb hob k (nextF w h left c) hn (by omega)
    have hoc : ok c := (H.some c hc (by omega)).1.good hob
    refine ⟨rfl, ?_, fun x hx => ?_, fun i x y h1 h2 => ?_⟩
    · have := ih.last
      simp only [pathF, List.length_cons, Nat.add_sub_cancel] at this ⊢
      rw [List.getElem?_cons_succ]
      exact this
    · rcases List.mem_cons.1 hx with e | hx
      · subst e; exact ⟨hc, hoc⟩
      · exact ih.all x hx
    · cases i with
      | zero =>
        simp only [List.getElem?_cons_zero, Option.some.injEq, pathF, Nat.zero_add, List.getElem?_cons_succ] at h1 h2
        subst h1 h2
        exact n1
      | succ i => exact ih.step i x y (by simpa [pathF] using h1) (by simpa [pathF] using h2)
theorem way_is (H : IsDist w h ok b left) (hw : 0 < w) (hb : b < w * h) (hob : ok b) {a : Nat} (ha : a < w * h) (h0 : 0 ≤ at_ left a) : IsWay w h ok (wayF w h left a) a b :=
  path_way H hw hb hob _ a ha (by omega)
theorem way_len (a : Nat) : (wayF w h left a).length = (at_ left a).toNat + 1 := by simp [wayF, path_len]
theorem way_least (H : IsDist w h ok b left) (hw : 0 < w) {l : List Nat} {a : Nat} (hl : IsWay w h ok l a b) : 0 ≤ at_ left a ∧ (wayF w h left a).length ≤ l.length := by
  cases l with
  | nil => have := hl.head; simp at this
  | cons x l =>
    have := hl.head
    simp only [List.getElem?_cons_zero, Option.some.injEq] at this
    subst this
    have := H.le (hl.all x (by simp)).1 (hl.walk hw)
    rw [way_len]
    simp only [List.length_cons]
    omega
theorem path_first (H : IsDist w h ok b left) (hw : 0 < w) (hb : b < w * h) : ∀ (k c : Nat) (l : List Nat), c < w * h → at_ left c = (k : Nat) → IsWay w h ok (c :: l) c b → l.length = k →
    ∀ (i x y : Nat), (∀ j : Nat, j < i → (pathF w h left k c)[j]? = l[j]?) → (pathF w h left k c)[i]? = some x → l[i]? = some y → x ≠ y → x < y
  | 0, c, l, _, _, _, _, i, x, y, _, hx, _, _ => by simp [pathF] at hx
  | k + 1, c, [], _, _, _, hl, i, x, y, _, hx, hy, _ => by simp at hl
  | k + 1, c, d :: l, hc, h0, hway, hl, i, x, y, hp, hx, hy, hne => by
    obtain ⟨n1, n2, n3⟩ := next_spec H hw hb hc (by omega)
    have hd := hway.all d (by simp)
    have hoc := hway.all c (by simp)
    have hdn := hway.step 0 c d rfl rfl
    have hl' : l.length = k := by simpa using hl
    have h1 := H.le hd.1 (hway.tail.walk hw)
    have h2 := H.near_le hc hd.1 hoc.2 (near_symm hw hc hdn) h1.1
    have hdk : at_ left d = (k : Nat) := by omega
    cases i with
    | zero =>
      simp only [pathF, List.getElem?_cons_zero, Option.some.injEq] at hx hy
      subst hx hy
      have := n3 d hdn (by omega)
      omega
    | succ i =>
      have e0 := hp 0 (by omega)
      simp only [pathF, List.getElem?_cons_zero, Option.some.injEq] at e0
      refine path_first H hw hb k d l hd.1 hdk hway.tail hl' i x y (fun j hj => ?_) ?_ ?_ hne
      · have := hp (j + 1) (by omega)
        simpa [pathF, e0] using this
      · simpa [pathF, e0] using hx
      · simpa using hy
theorem way_first (H : IsDist w h ok b left) (hw : 0 < w) (hb : b < w * h) {l : List Nat} {a : Nat} (hl : IsWay w h ok l a b) (hn : l.length = (wayF w h left a).length) {i x y : Nat}
    (hp : ∀ j : Nat, j < i → (wayF w h left a)[j]? = l[j]?) (hx : (wayF w h left a)[i]? = some x) (hy : l[i]? = some y) (hne : x ≠ y) : x < y := by
  have h0 := way_least H hw hl
  cases l with
  | nil => have := hl.head; simp at this
  | cons c l =>
    have := hl.head
    simp only [List.getElem?_cons_zero, Option.some.injEq] at this
    subst this
    cases i with
    | zero => simp only [wayF, List.getElem?_cons_zero, Option.some.injEq] at hx hy; omega
    | succ i =>
      rw [way_len] at hn
      refine path_first H hw hb (at_ left c).toNat c l (hl.all c (by simp)).1 (by omega) hl (by simpa using hn) i x y (fun j hj => ?_) ?_ ?_ hne
      · have := hp (j + 1) (by omega)
        simpa [wayF] using this
      · simpa [wayF] using hx
      · simpa using hy
theorem conn_way (hw : 0 < w) {l : List Nat} {a : Nat} (hl : IsWay w h ok l a b) : Conn w h ok b a := by
  cases l with
  | nil => have := hl.head; simp at this
  | cons c l =>
    have := hl.head
    simp only [List.getElem?_cons_zero, Option.some.injEq] at this
    subst this
    exact ⟨_, hl.walk hw⟩
end
end Grid
end Go.Proofs.Ytcjaembdcfppfaa
