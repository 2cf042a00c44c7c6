/- MZ, merged: Zx, Yf, Yg, Yk, Yl, Yj0, Ym, Yn. -/
import Derived.Test.YtbbjlleaofgddaaGreatMK
import Derived.Test.YtbbjlleaofgddaaGreatMD
import Derived.Test.YtbbjlleaofgddaaGreatMY
set_option linter.unusedSimpArgs false
set_option linter.unusedVariables false
/- Contracts of functions that answer with new lists, and with parts of their arguments (slices of the caller's). -/
namespace Go.Proofs.YtbbjlleaofgddaaGreat
open Go.RowKit

/-! ### Arguments without blocks of the call's own -/
def argE (sh : Sh) (v : V) : Option AL := match sh, v with
  | .one k, .v (.one s) => cellA0 k s
  | .agg ks, .v (.agg cs) => rowA cellA0 ks cs
  | _, _ => none
def argsE : List Sh → List V → Option AL
  | [], [] => some .nil
  | s :: sh, v :: vs => match argE s v, argsE sh vs with | some a, some b => some (a.app b) | _, _ => none
  | _, _ => none
theorem argsE_ok {ρ : Env} {σ : As} : ∀ (sh : List Sh) (args : List V) (a : AL), argsE sh args = some a → ∀ vals, DL (V.den ρ σ) args vals → repSh ρ.w sh vals (a.ev ρ)
  | [], [], a, h, vals, hd => by
    simp only [argsE, Option.some.injEq] at h
    subst h
    exact ⟨DL.nil_inv hd, by simp [AL.ev]⟩
  | s :: sh, v :: vs, a, h, vals, hd => by
    simp only [argsE] at h
    split at h
    · rename_i a1 a2 h1 h2
      simp only [Option.some.injEq] at h
      subst h
      obtain ⟨u, us, rfl, e1, e2⟩ := DL.cons_inv hd
      refine ⟨u, us, a1.ev ρ, a2.ev ρ, rfl, AL.app_ev _ _ _, ?_, argsE_ok sh vs a2 h2 us e2⟩
      unfold argE at h1
      split at h1
      · obtain ⟨d, e3, e4⟩ := cellA0_ok (W := ρ.w) (Below.refl _ _) _ _ _ h1 u e1
        exact ⟨d, e3, e4⟩
      · obtain ⟨ws, e3, rfl⟩ := e1
        exact ⟨ws, rfl, rowA_ok (cellA0_ok (W := ρ.w) (Below.refl _ _)) _ _ _ h1 ws e3⟩
      · cases h1
    · cases h
  | [], _ :: _, a, h, _, _ => by simp [argsE] at h
  | _ :: _, [], a, h, _, _ => by simp [argsE] at h

/-! ### New lists -/
structure NL where
  e : TypeId
  ks : List CK
  s : Nat
  rows : List D → Rows
def memN : List NL → AL → Nat → Mem
  | [], _, _ => []
  | l :: r, al, n => (n, .own l.e l.ks (.fn l.s al) (.lit 0)) :: memN r al (n + 1)
theorem memN_get {al : AL} : ∀ {nl : List NL} {n i : Nat}, (memN nl al n).get i = if n ≤ i then (nl[i - n]?).map fun l => Blk.own l.e l.ks (.fn l.s al) (.lit 0) else none
  | [], n, i => by simp [memN, Mem.get]
  | l :: r, n, i => by
    simp only [memN, Mem.get]
    by_cases e : n = i
    · subst e; simp
    · rw [if_neg (by simpa using e), memN_get (nl := r)]
      by_cases h : n ≤ i
      · rw [if_pos (by omega), if_pos h, show i - n = (i - (n + 1)) + 1 by omega, List.getElem?_cons_succ]
      · rw [if_neg (by omega), if_neg h]
def NewL (w0 W W' : World) (ds : List D) (l : NL) (v : Value) : Prop := ∃ xs, OwnRow W' w0.heap.size l.e l.ks.length v (l.rows ds).length xs ∧ RowsAt w0 l.ks xs (l.rows ds) ∧ (l.rows ds).length ≤ 281474976710656 ∧ (∃ a c, v = .slice a (l.rows ds).length c) ∧ ∀ k, roomOf v = some k → W.heap.size ≤ k ∧ k < W'.heap.size
structure NewLs (w0 W W' : World) (ds : List D) (nl : List NL) (vs : List Value) : Prop where
  len : vs.length = nl.length
  each : ∀ (k : Nat) (l : NL) (v : Value), nl[k]? = some l → vs[k]? = some v → NewL w0 W W' ds l v
  apart : ∀ (i j : Nat) (vi vj : Value) (a : Nat), vs[i]? = some vi → vs[j]? = some vj → roomOf vi = some a → roomOf vj = some a → i = j
def As.sayN (σ : As) (nx : Nat) (vs : List Value) : As := { σ with h := fun i m => if nx ≤ i ∧ i < nx + vs.length ∧ m = 0 then vs[i - nx]? else σ.h i m }
section
variable {P : Program} {ρ : Env} {σ : As} {nx : Nat} {vs : List Value}
theorem sayN_in {i : Nat} (h : nx ≤ i) (h2 : i < nx + vs.length) : (σ.sayN nx vs).h i 0 = vs[i - nx]? := if_pos ⟨h, h2, rfl⟩
theorem sayN_out {i : Nat} {m : Int} (h : ¬ (nx ≤ i ∧ i < nx + vs.length ∧ m = 0)) : (σ.sayN nx vs).h i m = σ.h i m := if_neg h
theorem sayN_own {i k : Nat} (h : (σ.sayN nx vs).own i k) : σ.own i k ∨ (nx ≤ i ∧ i < nx + vs.length ∧ ∃ v, vs[i - nx]? = some v ∧ roomOf v = some k) := by
  rcases h with h | ⟨m, u, h1, h2⟩
  · exact .inl (.inl h)
  · by_cases e : nx ≤ i ∧ i < nx + vs.length ∧ m = 0
    · obtain ⟨e1, e2, rfl⟩ := e
      rw [sayN_in e1 e2] at h1
      exact .inr ⟨e1, e2, u, h1, h2⟩
    · rw [sayN_out e] at h1
      exact .inl (.inr ⟨m, u, h1, h2⟩)
theorem step_sayN {mem : Mem} {W W' : World} {ds : List D} {nl : List NL} {al : AL} (hr : RelM ρ σ mem W) (hfr : ∀ i, nx ≤ i → i < nx + nl.length → ¬ σ.has i) (hb : Below W.heap.size W W') (hn : NewLs ρ.w W W' ds nl vs) (hs : ∀ l ∈ nl, (X.fn l.s al).ev ρ = l.rows ds) :
    Step ρ σ W (memN nl al nx) (σ.sayN nx vs) W' := by
  have none_h : ∀ i, nx ≤ i → i < nx + vs.length → ∀ m, σ.h i m = none := fun i h1 h2 m => by
    cases q : σ.h i m with
    | none => rfl
    | some y => exact absurd (.inr ⟨m, y, q⟩) (hfr i h1 (by rw [← hn.len]; exact h2))
  have room : ∀ i v k, vs[i]? = some v → roomOf v = some k → W.heap.size ≤ k ∧ k < W'.heap.size := fun i v k h1 h2 => by
    have hi : i < nl.length := by rw [← hn.len]; exact (List.getElem?_eq_some_iff.1 h1).1
    obtain ⟨xs, _, _, _, _, q⟩ := hn.each i nl[i] v (List.getElem?_eq_getElem hi) h1
    exact q k h2
  refine ⟨⟨fun _ _ h => h, fun i n u h => ?_⟩, hb.os, hb.tape, hb.output, hb.size, fun k hk _ => hb.block k hk, fun i hi _ => ?_, fun i a hi => ?_, fun hinj i j a hi hj => ?_, fun i b hi => ?_, Keep.of_eq (fun k hk => hb.block k hk)⟩
  · by_cases e : nx ≤ i ∧ i < nx + vs.length ∧ n = 0
    · rw [none_h i e.1 e.2.1] at h; cases h
    · rw [sayN_out e]; exact h
  · funext m
    refine sayN_out fun e => ?_
    rw [memN_get, if_pos e.1, Option.map_eq_none_iff, List.getElem?_eq_none_iff] at hi
    have := hn.len
    omega
  · rcases sayN_own hi with h | ⟨_, _, v, h1, h2⟩
    · exact .inl h
    · exact .inr (room _ _ _ h1 h2)
  · rcases sayN_own hi with h | ⟨a1, a2, v, h1, h2⟩
    · rcases sayN_own hj with h' | ⟨b1, b2, v', h1', h2'⟩
      · exact hinj i j a h h'
      · have q1 := hr.lt i a h
        have q2 := room _ _ _ h1' h2'
        omega
    · rcases sayN_own hj with h' | ⟨b1, b2, v', h1', h2'⟩
      · have q1 := hr.lt j a h'
        have q2 := room _ _ _ h1 h2
        omega
      · have q := hn.apart _ _ _ _ a h1 h1' h2 h2'
        omega
  · rw [memN_get] at hi
    by_cases hle : nx ≤ i
    · rw [if_pos hle, Option.map_eq_some_iff] at hi
      obtain ⟨l, hl, rfl⟩ := hi
      have hlt : i - nx < nl.length := (List.getElem?_eq_some_iff.1 hl).1
      have hlt' : i - nx < vs.length := by rw [hn.len]; exact hlt
      have hv := List.getElem?_eq_getElem hlt'
      obtain ⟨xs, h1, h2, h3, h4, h5⟩ := hn.each _ _ _ hl hv
      have ex : (X.fn l.s al).ev ρ = l.rows ds := hs l (List.mem_of_getElem? hl)
      refine ⟨vs[i - nx], xs, ?_, fun u hu => ?_, by rw [ex]; exact h1, by rw [ex]; exact h2.2, by rw [ex]; exact h3⟩
      · show (σ.sayN nx vs).h i 0 = _
        rw [sayN_in hle (by omega)]
        exact hv
      · have hu : (0 : Int) < u := hu
        rw [sayN_out (by omega)]
        exact none_h i hle (by omega) u
    · rw [if_neg hle] at hi; cases hi

def GivesN (P : Program) (f : FuncId) (sh : List Sh) (nl : List NL) (ok : List D → Prop) (res : World → List D → List Value → Value → Prop) : Prop :=
  ∀ (w0 W : World) (vals : List Value) (ds : List D), Below w0.heap.size w0 W → repSh w0 sh vals ds → ok ds → Calls P f vals.toArray W (fun en W' => ∃ vs u, en = .returned u ∧ res w0 ds vs u ∧ Below W.heap.size W W' ∧ NewLs w0 W W' ds nl vs)
def ctN (nl : List NL) (obs : List Ob) (out : V) (al : AL) (nx : Nat) : T OpR := T.obs obs (.ret (out, memN nl al nx, nx + nl.length))
theorem ctN_ok {f : FuncId} {sh : List Sh} {nl : List NL} {ok : List D → Prop} {res : World → List D → List Value → Value → Prop} (hg : GivesN P f sh nl ok res) {args : List V} {al : AL} (ha : argsE sh args = some al) {obs : List Ob} {out : V}
    (hobs : (∀ o ∈ obs, o.ok ρ) → ok (al.ev ρ)) (hs : ∀ l ∈ nl, ∀ a, ρ.fd l.s a = l.rows a) {q : OpR} (hq : (ctN nl obs out al nx).res ρ q)
    (hout : ∀ (σ' : As) vs u, (∀ k v, vs[k]? = some v → σ'.h (nx + k) 0 = some v ∧ ∃ a n c, v = .slice a n c) → vs.length = nl.length → res ρ.w (al.ev ρ) vs u → out.den ρ σ' u)
    {mem : Mem} {W : World} {vals : List Value} (hr : RelM ρ σ mem W) (hfr : Fr nx q.2.2 σ) (hd : DL (V.den ρ σ) args vals) : CallsIn (FR none) 0 P f vals.toArray W (RetTo ρ σ W nx q) := by
  obtain ⟨ho, hq⟩ := T.res_obs hq
  obtain rfl := res_ret hq
  have hc := hg ρ.w W vals (al.ev ρ) hr.base (argsE_ok sh args al ha vals hd) (hobs ho)
  have hw : CallsIn Fence.wide 0 P f vals.toArray W _ := callsIn_wide.2 hc
  refine CallsIn.mono (F := FR none) hw ?_
  rintro en W' ⟨vs, u, rfl, hres, hb, hn⟩
  have hstep := step_sayN (nx := nx) (al := al) hr (fun i h1 h2 => hfr i h1 h2) hb hn (fun l hl => by simp only [X.ev]; exact hs l hl _)
  refine ⟨u, σ.sayN nx vs, rfl, hout _ vs u (fun k v hk => ?_) hn.len hres, hstep, fun i hi => ?_⟩
  · have hlt : k < vs.length := (List.getElem?_eq_some_iff.1 hk).1
    have hk' : k < nl.length := by rw [← hn.len]; exact hlt
    obtain ⟨xs, _, _, _, ⟨a, c, e⟩, _⟩ := hn.each k _ v (List.getElem?_eq_getElem hk') hk
    refine ⟨?_, a, _, c, e⟩
    rw [sayN_in (by omega) (by omega), Nat.add_sub_cancel_left]
    exact hk
  · rcases hi with h | ⟨m, v, h⟩
    · exact .inl (.inl h)
    · by_cases e : nx ≤ i ∧ i < nx + vs.length ∧ m = 0
      · exact .inr ⟨e.1, by rw [hn.len] at e; exact e.2.1⟩
      · rw [sayN_out e] at h
        exact .inl (.inr ⟨m, v, h⟩)

structure LsAre (ρ : Env) (q : OpR) (nl : List NL) (ds : List D) (ss : List S0) : Prop where
  len : ss.length = nl.length
  each : ∀ (k : Nat) (l : NL) (s : S0), nl[k]? = some l → ss[k]? = some s → ∃ x, lrows q.2.1 l.e l.ks s = some x ∧ x.ev ρ = l.rows ds
  apart : ∀ (i j id : Nat) (v v' : E), ss[i]? = some (.own id v) → ss[j]? = some (.own id v') → i = j
theorem lsAre_nil {q : OpR} {ds : List D} : LsAre ρ q [] ds [] := ⟨rfl, fun k l s h => by simp at h, fun i j id v v' h => by simp at h⟩
theorem lsAre_one {q : OpR} {l : NL} {ds : List D} {s : S0} {x : X} (h : lrows q.2.1 l.e l.ks s = some x) (hx : x.ev ρ = l.rows ds) : LsAre ρ q [l] ds [s] := by
  refine ⟨rfl, fun k l' s' hk hs => ?_, fun i j id v v' hi hj => ?_⟩
  · cases k with
    | zero =>
      simp only [List.getElem?_cons_zero, Option.some.injEq] at hk hs
      subst hk hs
      exact ⟨x, h, hx⟩
    | succ k => simp at hk
  · cases i with
    | zero => cases j with
      | zero => rfl
      | succ j => simp at hj
    | succ i => simp at hi
variable {ct : Ct} {lt : Lt}
theorem fn_givesN (I : Interp) (hmix : P.follows .mixedOrders = true) (hct : ∀ ρ, ρ.has I → CtOk P ρ ct) (hce : ct.all (fun p => entersB P p.1) = true) {n : Nat} {f : FuncId} {sh : List Sh} {tr : TT OpR} (he : T.norm 0 (call P ct lt n f (symArgs 0 sh) [] 0) TT.ret = tr)
    (hlow : tr.low 1000 = true) (hsh : shLen sh ≤ 1000) {nl : List NL} {ok : List D → Prop} {res : World → List D → List Value → Value → Prop}
    (hs : ∀ w0 vals ds, repSh w0 sh vals ds → ok ds → tr.sat (envOf I w0 ds) (fun ρ q => ∃ ss, LsAre ρ q nl ds ss ∧ ∀ (σ : As) u, ρ.w = w0 → q.1.den ρ σ u → ∃ vs, DL (S0.den ρ σ) ss vs ∧ res w0 ds vs u) (fun _ _ => False)) : GivesN P f sh nl ok res := by
  intro w0 W vals ds hbase hrep hok
  obtain ⟨ρ', q, h1, ⟨ss, h2, h4⟩, _, h5⟩ := exec_flat (lt := lt) hmix (fun ρ' ha => hct ρ' ⟨ha.fi.symm, ha.fb.symm, ha.fd.symm⟩) (ctEnter_of hce) he hlow (hs w0 vals ds hrep hok) (σ := As.none) (W := W) (vals := vals)
    (fun ρ' ha => ⟨fun id b h => by simp [Mem.get] at h, fun i j a h => absurd h (none_own _ _), fun i a h => absurd h (none_own _ _), fun i a h => absurd h (none_own _ _), by rw [← ha.w]; exact hbase⟩) (fun k _ => none_has k) (fun ρ' ha => symArgs_den ha sh 0 vals [] ds rfl rfl (by omega) hrep)
  refine (callsIn_wide (n := 0)).1 ?_
  have h' : CallsIn Fence.wide 0 P f vals.toArray W (RetTo ρ' As.none W 0 q) := h5
  have hw : ρ'.w = w0 := by rw [← h1.w]; rfl
  refine CallsIn.mono h' ?_
  rintro en W' ⟨u, σ', rfl, e1, e2, e3⟩
  obtain ⟨vs, hd, hres⟩ := h4 σ' u hw e1
  have hb : Below W.heap.size W W' := ⟨e2.os, e2.tape, e2.output, e2.size, fun k hk => e2.frame k hk (fun i b _ e => none_own _ _ e)⟩
  have hinj := e2.inj (fun i j a h => absurd h (none_own _ _))
  have hl : vs.length = nl.length := by rw [← h2.len]; exact (DL.length hd).symm
  have key : ∀ (k : Nat) (l : NL) (v : Value), nl[k]? = some l → vs[k]? = some v → NewL w0 W W' ds l v ∧ ∀ a, roomOf v = some a → ∃ id ver, ss[k]? = some (S0.own id ver) ∧ σ'.own id a := fun k l v hk hv => by
    have hks : k < ss.length := by rw [h2.len]; exact (List.getElem?_eq_some_iff.1 hk).1
    have hsk := List.getElem?_eq_getElem hks
    obtain ⟨v', hv', hden⟩ := DL.get hd hsk
    obtain rfl : v' = v := by rw [hv'] at hv; exact Option.some.inj hv
    obtain ⟨x, hx1, hx2⟩ := h2.each k l _ hk hsk
    have hsk' : ∀ id ver, ss[k] = S0.own id ver → ss[k]? = some (S0.own id ver) := fun id ver e => by rw [hsk, e]
    generalize ss[k] = s at hx1 hden hsk'
    unfold lrows at hx1
    split at hx1
    · rename_i id ver
      split at hx1
      · rename_i e' ks' x' ver' hm
        split at hx1
        · rename_i hc
          simp only [Bool.and_eq_true] at hc
          obtain ⟨⟨c1, c2⟩, c3⟩ := hc
          have c1 := natb c1
          have c2 := CK.sameL_eq _ _ c2
          have c3 := E.same_eq _ _ c3
          simp only [Option.some.injEq] at hx1
          subst hx1
          obtain ⟨v2, xs, hO⟩ := e2.blk _ _ hm
          obtain ⟨⟨a, m, c, rfl⟩, e5⟩ := hden
          have hvv := hO.now
          rw [← c3, e5] at hvv
          simp only [Option.some.injEq] at hvv
          subst hvv
          have hrow := hO.row
          have hrows := hO.reps
          have hbig := hO.big
          rw [hw, ← c1, ← c2] at hrow
          rw [hw, ← c2] at hrows
          rw [hx2] at hrow hrows hbig
          have hm : m = (l.rows ds).length := by
            rcases hrow with ⟨_, h2⟩ | ⟨h2, _, b, h3⟩
            · rcases h2 with ⟨h2, h3⟩ | ⟨g, cap, cur, h2, _⟩
              · simp only [Value.slice.injEq] at h2; omega
              · simp only [Value.slice.injEq] at h2
                exact h2.2.1
            · simp only [Value.slice.injEq] at h3; omega
          have hown : ∀ k, roomOf (.slice a m c) = some k → σ'.own id k := fun k hk => .inr ⟨_, _, e5, hk⟩
          refine ⟨⟨xs, hrow, ⟨?_, hrows⟩, hbig, ⟨a, c, by rw [hm]⟩, fun k hk => ?_⟩, fun k hk => ⟨id, ver, hsk' _ _ rfl, hown k hk⟩⟩
          · rcases hrow with h | ⟨h3, h4, _⟩
            · exact h.1
            · rw [h3, h4]; simp
          · rcases e2.new id k (hown k hk) with h | h
            · exact absurd h (none_own _ _)
            · exact h
        · cases hx1
      · cases hx1
    · simp only [Option.some.injEq] at hx1
      subst hx1
      obtain rfl : v' = .slice none 0 0 := hden
      have h3 : [] = l.rows ds := by rw [← hx2]; simp [X.ev]
      refine ⟨⟨[], ?_, ?_, ?_, ⟨none, 0, ?_⟩, fun k hk => by simp [roomOf] at hk⟩, fun k hk => by simp [roomOf] at hk⟩
      · rw [← h3]; exact .inl (World.ownsRow_nil _ _ _ _)
      · rw [← h3]; exact RowsAt.nil _ _
      · rw [← h3]; simp
      · rw [← h3]; rfl
    · cases hx1
  refine ⟨vs, u, rfl, hres, hb, hl, fun k l v hk hv => (key k l v hk hv).1, fun i j vi vj a hi hj ha hb' => ?_⟩
  have hi' : i < nl.length := by rw [← hl]; exact (List.getElem?_eq_some_iff.1 hi).1
  have hj' : j < nl.length := by rw [← hl]; exact (List.getElem?_eq_some_iff.1 hj).1
  obtain ⟨id, ver, p1, p2⟩ := (key i _ vi (List.getElem?_eq_getElem hi') hi).2 a ha
  obtain ⟨id', ver', p3, p4⟩ := (key j _ vj (List.getElem?_eq_getElem hj') hj).2 a hb'
  obtain rfl := hinj _ _ _ p2 p4
  exact h2.apart _ _ _ _ _ p1 p3
end
end Go.Proofs.YtbbjlleaofgddaaGreat
/- Contracts of functions one of whose arguments is a function value without variables of its own, or a pointer to cells that hold data. -/
namespace Go.Proofs.YtbbjlleaofgddaaGreat
open Go.RowKit
inductive Ag where | d (sh : Sh) | f (g : FuncId) | p (t : TypeId) (ks : List CK)
def agArgs : Nat → Nat → List Ag → List V
  | _, _, [] => []
  | j, id, .d (.one k) :: r => .v (.one (symCell j k)) :: agArgs (j + 1) id r
  | j, id, .d (.agg ks) :: r => .v (.agg (symCells j ks)) :: agArgs (j + ks.length) id r
  | j, id, .f g :: r => .s0 (.clo g []) :: agArgs j id r
  | j, id, .p _ ks :: r => .s0 (.ptr id 0) :: agArgs (j + ks.length) (id + 1) r
def agMem : Nat → Nat → List Ag → Mem
  | _, _, [] => []
  | j, id, .d (.one _) :: r => agMem (j + 1) id r
  | j, id, .d (.agg ks) :: r => agMem (j + ks.length) id r
  | j, id, .f _ :: r => agMem j id r
  | j, id, .p t ks :: r => (id, .cells t (symCells j ks)) :: agMem (j + ks.length) (id + 1) r
def agWid : List Ag → Nat
  | [] => 0
  | .d (.one _) :: r => agWid r + 1
  | .d (.agg ks) :: r => ks.length + agWid r
  | .f _ :: r => agWid r
  | .p _ ks :: r => ks.length + agWid r
def agN : List Ag → Nat
  | [] => 0
  | .p _ _ :: r => agN r + 1
  | _ :: r => agN r
def agRep (w0 w : World) : List Ag → List Value → List D → List Nat → Prop
  | [], vs, ds, bs => vs = [] ∧ ds = [] ∧ bs = []
  | .d sh :: r, vs, ds, bs => ∃ v vs' d ds', vs = v :: vs' ∧ ds = d ++ ds' ∧ sh.rep w0 v d ∧ agRep w0 w r vs' ds' bs
  | .f g :: r, vs, ds, bs => ∃ vs', vs = .func (.func g) #[] #[] :: vs' ∧ agRep w0 w r vs' ds bs
  | .p t ks :: r, vs, ds, bs => ∃ b vs' us d ds' bs', vs = .pointer (some ⟨b, 0, none⟩) :: vs' ∧ bs = b :: bs' ∧ ds = d ++ ds' ∧ w0.heap.size ≤ b ∧ w.heap[b]? = some (.cells us.toArray t (0, 0)) ∧ CK.reps w0 ks us d ∧ agRep w0 w r vs' ds' bs'
def GivesG (P : Program) (f : FuncId) (l : List Ag) (ok : List D → Prop) (g : List D → Value) : Prop :=
  ∀ (w0 W : World) (vals : List Value) (ds : List D) (bs : List Nat), Below w0.heap.size w0 W → agRep w0 W l vals ds bs → bs.Nodup → ok ds → Calls P f vals.toArray W (fun e W' => e = .returned (g ds) ∧ Below W.heap.size W W')
def asBs (bs : List Nat) : As := { f := fun i => bs[i]?, h := fun _ _ => none }
section
variable {P : Program} {ρ : Env}
theorem asBs_own {bs : List Nat} {i a : Nat} (h : (asBs bs).own i a) : bs[i]? = some a := by
  rcases h with h | ⟨n, v, h, _⟩
  · exact h
  · cases h
theorem agRep_len {w0 w : World} : ∀ {l : List Ag} {vs : List Value} {ds : List D} {bs : List Nat}, agRep w0 w l vs ds bs → bs.length = agN l ∧ ∀ b ∈ bs, w0.heap.size ≤ b ∧ b < w.heap.size
  | [], vs, ds, bs, h => by obtain ⟨_, _, rfl⟩ := h; exact ⟨rfl, fun b hb => by simp at hb⟩
  | .d sh :: r, vs, ds, bs, h => by obtain ⟨_, _, _, _, _, _, _, h⟩ := h; exact agRep_len (l := r) h
  | .f g :: r, vs, ds, bs, h => by obtain ⟨_, _, h⟩ := h; exact agRep_len (l := r) h
  | .p t ks :: r, vs, ds, bs, h => by
    obtain ⟨b, _, _, _, _, bs', _, rfl, _, h1, h2, _, h⟩ := h
    obtain ⟨e1, e2⟩ := agRep_len (l := r) h
    refine ⟨by simp [agN, e1], fun x hx => ?_⟩
    rcases List.mem_cons.1 hx with e | hx
    · subst e; exact ⟨h1, lt_of_heap h2⟩
    · exact e2 x hx
theorem agArgs_den {w0 W : World} {ds0 : List D} {I : Interp} {c : Nat} (ha : Agree c (envOf I w0 ds0) ρ) {bs0 : List Nat} : ∀ (l : List Ag) (j id : Nat) (vs : List Value) (pre ds : List D) (bp bs : List Nat), ds0 = pre ++ ds → pre.length = j → j + agWid l ≤ c → bs0 = bp ++ bs → bp.length = id → agRep w0 W l vs ds bs →
    DL (V.den ρ (asBs bs0)) (agArgs j id l) vs ∧ ∀ i b, (agMem j id l).get i = some b → BlkRel ρ (asBs bs0) i W b
  | [], j, id, vs, pre, ds, bp, bs, _, _, _, _, _, h => by
    obtain ⟨rfl, _, _⟩ := h
    exact ⟨trivial, fun i b hi => by simp [agMem, Mem.get] at hi⟩
  | .d (.one k) :: r, j, id, vs, pre, ds, bp, bs, hds, hj, hc, hb, hid, h => by
    obtain ⟨v, vs', d, ds', rfl, rfl, ⟨d0, rfl, h1⟩, h2⟩ := h
    simp only [agWid] at hc
    obtain ⟨e1, e2⟩ := agArgs_den ha r (j + 1) id vs' (pre ++ [d0]) ds' bp bs (by simp [hds]) (by simp [hj]) (by omega) hb hid h2
    refine ⟨⟨symCell_den ha (by omega) (d := d0) ?_ h1, e1⟩, e2⟩
    rw [hds, ← hj]
    simp
  | .d (.agg ks) :: r, j, id, vs, pre, ds, bp, bs, hds, hj, hc, hb, hid, h => by
    obtain ⟨v, vs', d, ds', rfl, rfl, ⟨us, rfl, h1⟩, h2⟩ := h
    simp only [agWid] at hc
    have hl : d.length = ks.length := (reps_len h1).2
    obtain ⟨e1, e2⟩ := agArgs_den ha r (j + ks.length) id vs' (pre ++ d) ds' bp bs (by simp [hds]) (by simp [hj, hl]) (by omega) hb hid h2
    exact ⟨⟨⟨us, symCells_den ha ks j us pre d ds' (by simp [hds]) hj (by omega) h1, rfl⟩, e1⟩, e2⟩
  | .f g :: r, j, id, vs, pre, ds, bp, bs, hds, hj, hc, hb, hid, h => by
    obtain ⟨vs', rfl, h2⟩ := h
    simp only [agWid] at hc
    obtain ⟨e1, e2⟩ := agArgs_den ha r j id vs' pre ds bp bs hds hj hc hb hid h2
    exact ⟨⟨⟨[], trivial, rfl⟩, e1⟩, e2⟩
  | .p t ks :: r, j, id, vs, pre, ds, bp, bs, hds, hj, hc, hb, hid, h => by
    obtain ⟨b, vs', us, d, ds', bs', rfl, rfl, rfl, h0, h1, h3, h2⟩ := h
    simp only [agWid] at hc
    have hl : d.length = ks.length := (reps_len h3).2
    obtain ⟨e1, e2⟩ := agArgs_den (bs0 := bs0) ha r (j + ks.length) (id + 1) vs' (pre ++ d) ds' (bp ++ [b]) bs' (by simp [hds]) (by simp [hj, hl]) (by omega) (by simp [hb]) (by simp [hid]) h2
    have hσ : (asBs bs0) id = some b := by
      show bs0[id]? = some b
      rw [hb, List.getElem?_append_right (by omega), hid, Nat.sub_self]; rfl
    refine ⟨⟨⟨b, hσ, rfl⟩, e1⟩, fun i b' hi => ?_⟩
    simp only [agMem, Mem.get] at hi
    split at hi
    · rename_i hii
      simp only [beq_iff_eq] at hii
      subst hii
      simp only [Option.some.injEq] at hi
      subst hi
      exact ⟨b, hσ, us, symCells_den ha ks j us pre d ds' (by simp [hds]) hj (by omega) h3, h1⟩
    · exact e2 i b' hi
variable {ct : Ct} {lt : Lt}
theorem fn_givesG (I : Interp) (hmix : P.follows .mixedOrders = true) (hct : ∀ ρ, ρ.has I → CtOk P ρ ct) (hce : ct.all (fun p => entersB P p.1) = true) {n : Nat} {f : FuncId} {l : List Ag} {tr : TT OpR} (he : T.norm 0 (call P ct lt n f (agArgs 0 0 l) (agMem 0 0 l) (agN l)) TT.ret = tr)
    (hlow : tr.low 1000 = true) (hsh : agWid l ≤ 1000) {ok : List D → Prop} {g : List D → Value} (hs : ∀ w0 W vals ds bs, agRep w0 W l vals ds bs → ok ds → tr.sat (envOf I w0 ds) (fun ρ q => q.1.plain = true ∧ q.1.val ρ = g ds ∧ q.2.1 = []) (fun _ _ => False)) : GivesG P f l ok g := by
  intro w0 W vals ds bs hbase hr hnd hok
  obtain ⟨hbl, hbb⟩ := agRep_len hr
  obtain ⟨ρ', q, h1, ⟨h2, h3, h4⟩, _, h5⟩ := exec_flat (lt := lt) hmix (fun ρ' ha => hct ρ' ⟨ha.fi.symm, ha.fb.symm, ha.fd.symm⟩) (ctEnter_of hce) he hlow (hs w0 W vals ds bs hr hok) (σ := asBs bs) (W := W) (vals := vals)
    (fun ρ' ha => ⟨(agArgs_den ha l 0 0 vals [] ds [] bs rfl rfl (by omega) rfl rfl hr).2, fun i j a hi hj => (List.getElem?_inj (by
        have := asBs_own hi
        exact (List.getElem?_eq_some_iff.1 this).1) hnd).mp ((asBs_own hi).trans (asBs_own hj).symm), fun i a h => (hbb a (List.mem_of_getElem? (asBs_own h))).2, fun i a h => by rw [← ha.w]; exact (hbb a (List.mem_of_getElem? (asBs_own h))).1, by rw [← ha.w]; exact hbase⟩)
    (fun k hk h => by
      rcases h with ⟨a, h⟩ | ⟨m, v, h⟩
      · have : bs[k]? = some a := h
        have := (List.getElem?_eq_some_iff.1 this).1
        omega
      · cases h) (fun ρ' ha => (agArgs_den ha l 0 0 vals [] ds [] bs rfl rfl (by omega) rfl rfl hr).1)
  refine (callsIn_wide (n := 0)).1 ?_
  have h' : CallsIn Fence.wide 0 P f vals.toArray W (RetTo ρ' (asBs bs) W (agN l) q) := h5
  refine CallsIn.mono h' ?_
  rintro e W' ⟨u, σ', rfl, e1, e2, e3⟩
  refine ⟨by rw [V.den_val h2 e1, h3], ?_⟩
  exact ⟨e2.os, e2.tape, e2.output, e2.size, fun k hk => e2.frame k hk (fun i b hi => by rw [h4] at hi; simp [Mem.get] at hi)⟩
/-! Contracts -/
def fnOk (g : FuncId) : V → Bool
  | .v (.one (.z (.clo g' []))) => Nat.beq g g'
  | _ => false
theorem fnOk_den {σ : As} {g : FuncId} {v : V} (h : fnOk g v = true) {u : Value} (hd : v.den ρ σ u) : u = .func (.func g) #[] #[] := by
  unfold fnOk at h
  split at h
  · obtain rfl := natb h
    obtain ⟨vs, h1, rfl⟩ := hd
    cases vs with
    | nil => rfl
    | cons a b => exact h1.elim
  · cases h
def ptrOk (mem : Mem) (t : TypeId) (ks : List CK) : V → Option (AL × Nat)
  | .v (.one (.z (.ptr id off))) => if Nat.beq off 0 then match mem.get id with
    | some (.cells t' cs) => if Nat.beq t t' then (rowA cellA0 ks cs).map fun a => (a, id) else none
    | _ => none
    else none
  | _ => none
theorem ptrOk_den {σ : As} {mem : Mem} {W : World} (hr : RelM ρ σ mem W) {t : TypeId} {ks : List CK} {v : V} {a : AL} {id : Nat} (h : ptrOk mem t ks v = some (a, id)) {u : Value} (hd : v.den ρ σ u) :
    ∃ b us, u = .pointer (some ⟨b, 0, none⟩) ∧ σ id = some b ∧ W.heap[b]? = some (.cells us.toArray t (0, 0)) ∧ CK.reps ρ.w ks us (a.ev ρ) := by
  unfold ptrOk at h
  split at h
  · rename_i id' off
    split at h
    · rename_i ho
      obtain rfl := natb ho
      split at h
      · rename_i t' cs hm
        split at h
        · rename_i ht
          obtain rfl := natb ht
          rw [Option.map_eq_some_iff] at h
          obtain ⟨a', ha, he⟩ := h
          simp only [Prod.mk.injEq] at he
          obtain ⟨rfl, rfl⟩ := he
          obtain ⟨b, h1, rfl⟩ := hd
          obtain ⟨b', h2, us, h3, h4⟩ := hr.blk _ _ hm
          rw [h1] at h2
          simp only [Option.some.injEq] at h2
          subst h2
          exact ⟨b, us, rfl, h1, h4, rowA_ok (cellA0_ok (W := ρ.w) (Below.refl _ _)) _ _ _ ha us h3⟩
        · cases h
      · cases h
    · cases h
  · cases h
def agData (mem : Mem) : List Ag → List V → Option (AL × List Nat)
  | [], [] => some (.nil, [])
  | .d sh :: r, v :: vs => match argE sh v, agData mem r vs with
    | some a, some (b, l) => some (a.app b, l)
    | _, _ => none
  | .f g :: r, v :: vs => if fnOk g v then agData mem r vs else none
  | .p t ks :: r, v :: vs => match ptrOk mem t ks v, agData mem r vs with
    | some (a, id), some (b, l) => if l.contains id then none else some (a.app b, id :: l)
    | _, _ => none
  | _, _ => none
def ctG (l : List Ag) (out : AL → T V) (args : List V) (mem : Mem) (nx : Nat) : T OpR := match agData mem l args with
  | some (al, _) => (out al).bind fun v => .ret (v, [], nx)
  | none => .stuck "contract"
theorem agData_ok {σ : As} {mem : Mem} {W : World} (hr : RelM ρ σ mem W) : ∀ (l : List Ag) (args : List V) (al : AL) (ids : List Nat), agData mem l args = some (al, ids) → ∀ vals, DL (V.den ρ σ) args vals → ∃ bs, agRep ρ.w W l vals (al.ev ρ) bs ∧ bs.Nodup ∧ ∀ b ∈ bs, ∃ i ∈ ids, σ i = some b
  | [], [], al, ids, h, vals, hd => by
    simp only [agData, Option.some.injEq, Prod.mk.injEq] at h
    obtain ⟨rfl, rfl⟩ := h
    exact ⟨[], ⟨DL.nil_inv hd, by simp [AL.ev], rfl⟩, List.nodup_nil, fun b h => by simp at h⟩
  | .d sh :: r, v :: vs, al, ids, h, vals, hd => by
    simp only [agData] at h
    split at h
    · rename_i a b l' h1 h2
      simp only [Option.some.injEq, Prod.mk.injEq] at h
      obtain ⟨rfl, rfl⟩ := h
      obtain ⟨u, us, rfl, e1, e2⟩ := DL.cons_inv hd
      obtain ⟨bs, g1, g2, g3⟩ := agData_ok hr r vs b l' h2 us e2
      refine ⟨bs, ⟨u, us, a.ev ρ, b.ev ρ, rfl, AL.app_ev _ _ _, ?_, g1⟩, g2, g3⟩
      unfold argE at h1
      split at h1
      · obtain ⟨d, e3, e4⟩ := cellA0_ok (W := ρ.w) (Below.refl _ _) _ _ _ h1 u e1
        exact ⟨d, e3, e4⟩
      · obtain ⟨ws, e3, rfl⟩ := e1
        exact ⟨ws, rfl, rowA_ok (cellA0_ok (W := ρ.w) (Below.refl _ _)) _ _ _ h1 ws e3⟩
      · cases h1
    · cases h
  | .f g :: r, v :: vs, al, ids, h, vals, hd => by
    simp only [agData] at h
    split at h
    · rename_i hf
      obtain ⟨u, us, rfl, e1, e2⟩ := DL.cons_inv hd
      obtain ⟨bs, g1, g2, g3⟩ := agData_ok hr r vs al ids h us e2
      exact ⟨bs, ⟨us, by rw [fnOk_den hf e1], g1⟩, g2, g3⟩
    · cases h
  | .p t ks :: r, v :: vs, al, ids, h, vals, hd => by
    simp only [agData] at h
    split at h
    · rename_i a id b l' h1 h2
      split at h
      · cases h
      · rename_i hn
        simp only [Option.some.injEq, Prod.mk.injEq] at h
        obtain ⟨rfl, rfl⟩ := h
        obtain ⟨u, us, rfl, e1, e2⟩ := DL.cons_inv hd
        obtain ⟨bs, g1, g2, g3⟩ := agData_ok hr r vs b l' h2 us e2
        obtain ⟨c, ws, rfl, q1, q2, q3⟩ := ptrOk_den hr h1 e1
        refine ⟨c :: bs, ⟨c, us, ws, a.ev ρ, b.ev ρ, bs, rfl, rfl, AL.app_ev _ _ _, hr.above _ _ (.inl q1), q2, q3, g1⟩, List.nodup_cons.2 ⟨fun hc => ?_, g2⟩, fun x hx => ?_⟩
        · obtain ⟨i, hi, hs⟩ := g3 c hc
          have := hr.inj i id c (.inl hs) (.inl q1)
          subst this
          exact hn (List.contains_iff_mem.2 hi)
        · rcases List.mem_cons.1 hx with e | hx
          · subst e; exact ⟨id, List.mem_cons_self .., q1⟩
          · obtain ⟨i, hi, hs⟩ := g3 x hx
            exact ⟨i, List.mem_cons_of_mem _ hi, hs⟩
    · cases h
  | [], _ :: _, al, ids, h, _, _ => by simp [agData] at h
  | .d _ :: _, [], al, ids, h, _, _ => by simp [agData] at h
  | .f _ :: _, [], al, ids, h, _, _ => by simp [agData] at h
  | .p _ _ :: _, [], al, ids, h, _, _ => by simp [agData] at h
theorem ctG_if {f : FuncId} {l : List Ag} {out : AL → T V} {ok : List D → Prop} {g : List D → Value} (hg : GivesG P f l ok g) (h : ∀ al v, (out al).res ρ v → v.plain = true ∧ ok (al.ev ρ) ∧ v.val ρ = g (al.ev ρ)) : CtOne P ρ f (ctG l out) := by
  intro args mem nx q hq hle σ W vals hr hfr hd
  unfold ctG at hq
  split at hq
  · rename_i al ids ha
    obtain ⟨v, h1, h2⟩ := T.res_bind hq
    obtain rfl := res_ret h2
    obtain ⟨p1, p2, p3⟩ := h al v h1
    obtain ⟨bs, g1, g2, _⟩ := agData_ok hr l args al ids ha vals hd
    have hc := hg ρ.w W vals (al.ev ρ) bs hr.base g1 g2 p2
    have hw : CallsIn Fence.wide 0 P f vals.toArray W _ := callsIn_wide.2 hc
    refine CallsIn.mono (F := FR none) hw ?_
    rintro e W' ⟨rfl, hb⟩
    exact ⟨_, σ, rfl, by rw [← p3]; exact V.val_den p1, Step.below hb, fun i hi => .inl hi⟩
  · exact hq.elim
def agDataA (mem : Mem) : List Ag → List V → Option AL
  | [], [] => some .nil
  | .d sh :: r, v :: vs => match argA mem sh v, agDataA mem r vs with
    | some a, some b => some (a.app b)
    | _, _ => none
  | .f g :: r, v :: vs => if fnOk g v then agDataA mem r vs else none
  | _, _ => none
def ctGA (l : List Ag) (out : AL → T V) (args : List V) (mem : Mem) (nx : Nat) : T OpR := match agDataA mem l args with
  | some al => (out al).bind fun v => .ret (v, [], nx)
  | none => .stuck "contract"
theorem agDataA_ok {σ : As} {mem : Mem} {W : World} (hr : RelM ρ σ mem W) : ∀ (l : List Ag) (args : List V) (al : AL), agDataA mem l args = some al → ∀ vals, DL (V.den ρ σ) args vals → agRep W W l vals (al.ev ρ) []
  | [], [], al, h, vals, hd => by
    simp only [agDataA, Option.some.injEq] at h
    subst h
    exact ⟨DL.nil_inv hd, by simp [AL.ev], rfl⟩
  | .d sh :: r, v :: vs, al, h, vals, hd => by
    simp only [agDataA] at h
    split at h
    · rename_i a b h1 h2
      simp only [Option.some.injEq] at h
      subst h
      obtain ⟨u, us, rfl, e1, e2⟩ := DL.cons_inv hd
      have g1 := agDataA_ok hr r vs b h2 us e2
      have h1' : argsA mem [sh] [v] = some (a.app .nil) := by simp [argsA, h1]
      obtain ⟨u', us', d, ds', q1, q2, q3, q4, q5⟩ := argsA_ok hr [sh] [v] _ h1' [u] ⟨e1, trivial⟩
      simp only [List.cons.injEq] at q1
      obtain ⟨rfl, rfl⟩ := q1
      subst q5
      rw [AL.app_ev] at q2
      simp only [AL.ev, List.append_nil] at q2
      exact ⟨u, us, a.ev ρ, b.ev ρ, rfl, AL.app_ev _ _ _, by rw [q2]; exact q3, g1⟩
    · cases h
  | .f g :: r, v :: vs, al, h, vals, hd => by
    simp only [agDataA] at h
    split at h
    · rename_i hf
      obtain ⟨u, us, rfl, e1, e2⟩ := DL.cons_inv hd
      exact ⟨us, by rw [fnOk_den hf e1], agDataA_ok hr r vs al h us e2⟩
    · cases h
  | .p t ks :: r, _, al, h, vals, hd => by simp [agDataA] at h
  | [], _ :: _, al, h, _, _ => by simp [agDataA] at h
  | .d _ :: _, [], al, h, _, _ => by simp [agDataA] at h
  | .f _ :: _, [], al, h, _, _ => by simp [agDataA] at h
theorem ctGA_if {f : FuncId} {l : List Ag} {out : AL → T V} {ok : List D → Prop} {g : List D → Value} (hg : GivesG P f l ok g) (h : ∀ al v, (out al).res ρ v → v.plain = true ∧ ok (al.ev ρ) ∧ v.val ρ = g (al.ev ρ)) : CtOne P ρ f (ctGA l out) := by
  intro args mem nx q hq hle σ W vals hr hfr hd
  unfold ctGA at hq
  split at hq
  · rename_i al ha
    obtain ⟨v, h1, h2⟩ := T.res_bind hq
    obtain rfl := res_ret h2
    obtain ⟨p1, p2, p3⟩ := h al v h1
    have hc := hg W W vals (al.ev ρ) [] (Below.refl _ _) (agDataA_ok hr l args al ha vals hd) List.nodup_nil p2
    have hw : CallsIn Fence.wide 0 P f vals.toArray W _ := callsIn_wide.2 hc
    refine CallsIn.mono (F := FR none) hw ?_
    rintro e W' ⟨rfl, hb⟩
    exact ⟨_, σ, rfl, by rw [← p3]; exact V.val_den p1, Step.below hb, fun i hi => .inl hi⟩
  · exact hq.elim
end
end Go.Proofs.YtbbjlleaofgddaaGreat
/- Contracts of functions that answer with one new list, which may be a beginning of what they have made. -/
namespace Go.Proofs.YtbbjlleaofgddaaGreat
open Go.RowKit
def lrowsP (ws : Mem) (e : TypeId) (ks : List CK) : S0 → Option X
  | .ovw id ver k lo hi full => match ws.get id with
    | some (.own e' ks' x v) => if Nat.beq e e' && CK.sameL ks ks' && E.same ver v && Nat.beq k ks.length && E.same lo (.lit 0) && !full then some (.sub x (.lit 0) hi) else none
    | _ => none
  | s => lrows ws e ks s
section
variable {P : Program} {ct : Ct} {lt : Lt}
theorem roomOf_len {a : Option Addr} {n m c : Nat} : roomOf (.slice a n c) = roomOf (.slice a m c) := by
  cases a with
  | none => rfl
  | some a => cases c <;> rfl
theorem fn_givesN1 (I : Interp) (hmix : P.follows .mixedOrders = true) (hct : ∀ ρ, ρ.has I → CtOk P ρ ct) (hce : ct.all (fun p => entersB P p.1) = true) {n : Nat} {f : FuncId} {sh : List Sh} {tr : TT OpR} (he : T.norm 0 (call P ct lt n f (symArgs 0 sh) [] 0) TT.ret = tr)
    (hlow : tr.low 1000 = true) (hsh : shLen sh ≤ 1000) {l : NL} {ok : List D → Prop} {res : World → List D → Value → Value → Prop}
    (hs : ∀ w0 vals ds, repSh w0 sh vals ds → ok ds → tr.sat (envOf I w0 ds) (fun ρ q => ∃ s x, lrowsP q.2.1 l.e l.ks s = some x ∧ x.ev ρ = l.rows ds ∧ ∀ (σ : As) u, ρ.w = w0 → q.1.den ρ σ u → ∃ v, s.den ρ σ v ∧ res w0 ds v u) (fun _ _ => False)) : GivesN P f sh [l] ok (fun w0 ds vs u => ∃ v, vs = [v] ∧ res w0 ds v u) := by
  intro w0 W vals ds hbase hrep hok
  obtain ⟨ρ', q, h1, ⟨s, x, h2, h3, h4⟩, _, h5⟩ := exec_flat (lt := lt) hmix (fun ρ' ha => hct ρ' ⟨ha.fi.symm, ha.fb.symm, ha.fd.symm⟩) (ctEnter_of hce) he hlow (hs w0 vals ds hrep hok) (σ := As.none) (W := W) (vals := vals)
    (fun ρ' ha => ⟨fun id b h => by simp [Mem.get] at h, fun i j a h => absurd h (none_own _ _), fun i a h => absurd h (none_own _ _), fun i a h => absurd h (none_own _ _), by rw [← ha.w]; exact hbase⟩) (fun k _ => none_has k) (fun ρ' ha => symArgs_den ha sh 0 vals [] ds rfl rfl (by omega) hrep)
  refine (callsIn_wide (n := 0)).1 ?_
  have h' : CallsIn Fence.wide 0 P f vals.toArray W (RetTo ρ' As.none W 0 q) := h5
  have hw : ρ'.w = w0 := by rw [← h1.w]; rfl
  refine CallsIn.mono h' ?_
  rintro en W' ⟨u, σ', rfl, e1, e2, e3⟩
  obtain ⟨v, hd, hres⟩ := h4 σ' u hw e1
  have hb : Below W.heap.size W W' := ⟨e2.os, e2.tape, e2.output, e2.size, fun k hk => e2.frame k hk (fun i b _ e => none_own _ _ e)⟩
  -- the row of a list of the executor's memory
  have whole : ∀ (id : Nat) (ver : E) (x' : X) (ver' : E) (e' : TypeId) (ks' : List CK) (a : Option Addr) (m c : Nat), q.2.1.get id = some (.own e' ks' x' ver') → l.e = e' → l.ks = ks' → ver = ver' → σ'.h id (ver.ev ρ') = some (.slice a m c) →
      ∃ xs, OwnRow W' w0.heap.size l.e l.ks.length (.slice a m c) m xs ∧ RowsAt w0 l.ks xs (x'.ev ρ') ∧ m = (x'.ev ρ').length ∧ m ≤ 281474976710656 ∧ ∀ k, roomOf (.slice a m c) = some k → W.heap.size ≤ k ∧ k < W'.heap.size := by
    intro id ver x' ver' e' ks' a m c hm c1 c2 c3 e5
    subst c1 c2 c3
    obtain ⟨v2, xs, hO⟩ := e2.blk _ _ hm
    have hvv := hO.now
    rw [e5] at hvv
    simp only [Option.some.injEq] at hvv
    subst hvv
    have hrow := hO.row
    have hrows := hO.reps
    have hbig := hO.big
    rw [hw] at hrow
    rw [hw] at hrows
    have hm : m = (x'.ev ρ').length := by
      rcases hrow with ⟨_, h2⟩ | ⟨h2, _, b, h3⟩
      · rcases h2 with ⟨h2, h3⟩ | ⟨g, cap, cur, h2, _⟩
        · simp only [Value.slice.injEq] at h2; omega
        · simp only [Value.slice.injEq] at h2
          exact h2.2.1
      · simp only [Value.slice.injEq] at h3; omega
    refine ⟨xs, by rw [hm] at hrow ⊢; exact hrow, ⟨?_, hrows⟩, hm, by omega, fun k hk => ?_⟩
    · rcases hrow with h | ⟨h3, h4, _⟩
      · exact h.1
      · rw [h3, h4]; simp
    · rcases e2.new id k (.inr ⟨_, _, e5, hk⟩) with h | h
      · exact absurd h (none_own _ _)
      · exact h
  have key : NewL w0 W W' ds l v := by
    unfold lrowsP at h2
    split at h2
    · rename_i id ver k lo hi full
      split at h2
      · rename_i e' ks' x' ver' hm
        split at h2
        · rename_i hc
          simp only [Bool.and_eq_true, Bool.not_eq_true'] at hc
          obtain ⟨⟨⟨⟨⟨c1, c2⟩, c3⟩, c4⟩, c5⟩, c6⟩ := hc
          have c1 := natb c1
          have c2 := CK.sameL_eq _ _ c2
          have c3 := E.same_eq _ _ c3
          obtain rfl := E.same_eq _ _ c5
          simp only [Option.some.injEq] at h2
          subst h2
          obtain ⟨a, m, c, b, c', e5, l1, l2, l3, rfl, l4, l5, l6, l7⟩ := hd
          obtain ⟨rfl, rfl⟩ := l7 (by simp [E.ev]) c6
          obtain ⟨xs, w1, w2, w3, w4, w5⟩ := whole id ver x' ver' e' ks' b m c' hm c1 c2 c3 e5
          have hlo : (E.lit 0).ev ρ' = 0 := rfl
          rw [hlo] at l2 ⊢
          have hz : (hi.ev ρ').toNat - (0 : Int).toNat = (hi.ev ρ').toNat := by simp
          rw [hz]
          have hle : (hi.ev ρ').toNat ≤ m := by omega
          have hev : (X.sub x' (.lit 0) hi).ev ρ' = subR (x'.ev ρ') 0 (hi.ev ρ') := by simp only [X.ev, E.ev]
          have hlen : (l.rows ds).length = (hi.ev ρ').toNat := by
            rw [← h3, hev]; simp only [subR, List.length_take, List.length_drop, Int.toNat_zero]; omega
          have hsub := w2.sub (l := 0) (m := hi.ev ρ') (by omega) (by simp)
          simp only [Int.toNat_zero, Nat.zero_mul, List.drop_zero, Nat.sub_zero] at hsub
          rw [← hev, h3] at hsub
          refine ⟨xs.take ((hi.ev ρ').toNat * l.ks.length), by rw [hlen]; exact w1.first hle, hsub, by omega, ⟨b, c', by rw [hlen]⟩, fun k hk => w5 k (by rw [← hk]; exact roomOf_len)⟩
        · cases h2
      · cases h2
    · unfold lrows at h2
      split at h2
      · rename_i id ver _
        split at h2
        · rename_i e' ks' x' ver' hm
          split at h2
          · rename_i hc
            simp only [Bool.and_eq_true] at hc
            obtain ⟨⟨c1, c2⟩, c3⟩ := hc
            have c1 := natb c1
            have c2 := CK.sameL_eq _ _ c2
            have c3 := E.same_eq _ _ c3
            simp only [Option.some.injEq] at h2
            subst h2
            obtain ⟨⟨a, m, c, rfl⟩, e5⟩ := hd
            obtain ⟨xs, w1, w2, w3, w4, w5⟩ := whole id ver x' ver' e' ks' a m c hm c1 c2 c3 e5
            have hlen : (l.rows ds).length = m := by rw [← h3, w3]
            rw [h3] at w2
            exact ⟨xs, by rw [hlen]; exact w1, w2, by omega, ⟨a, c, by rw [hlen]⟩, w5⟩
          · cases h2
        · cases h2
      · simp only [Option.some.injEq] at h2
        subst h2
        obtain rfl : v = .slice none 0 0 := hd
        have h3 : [] = l.rows ds := by rw [← h3]; simp [X.ev]
        refine ⟨[], ?_, ?_, ?_, ⟨none, 0, ?_⟩, fun k hk => by simp [roomOf] at hk⟩
        · rw [← h3]; exact .inl (World.ownsRow_nil _ _ _ _)
        · rw [← h3]; exact RowsAt.nil _ _
        · rw [← h3]; simp
        · rw [← h3]; rfl
      · cases h2
  refine ⟨[v], u, rfl, ⟨v, rfl, hres⟩, hb, rfl, fun k l' v' hk hv => ?_, fun i j vi vj a hi hj _ _ => ?_⟩
  · cases k with
    | zero =>
      simp only [List.getElem?_cons_zero, Option.some.injEq] at hk hv
      subst hk hv
      exact key
    | succ k => simp at hk
  · cases i with
    | zero => cases j with
      | zero => rfl
      | succ j => simp at hj
    | succ i => simp at hi
end
end Go.Proofs.YtbbjlleaofgddaaGreat
/- A contract that answers with one new list of flat rows: its arguments may lie in the call's own memory, and what is spelt out is reckoned. -/
namespace Go.Proofs.YtbbjlleaofgddaaGreat
open Go.RowKit
def SeesD (ρ : Env) (I : Interp) (c : Nat) : Prop := ∀ n l, n < c → ρ.fd n l = I.fd n l
theorem SeesD.of {ρ : Env} {I : Interp} (h : ρ.has I) (c : Nat) : SeesD ρ I c := fun n l _ => by rw [h.2.2]
def dA : List D → Option AL
  | [] => some .nil
  | .i n :: r => (dA r).map (.i (.lit n))
  | .b x :: r => (dA r).map (.b (.lit x))
  | .l _ :: _ => none
def dX : Rows → Option X
  | [] => some .nil
  | r :: t => match dA r, dX t with | some a, some x => some (.app (.row a) x) | _, _ => none
theorem dA_ev (ρ : Env) : ∀ (r : List D) (a : AL), dA r = some a → a.ev ρ = r
  | [], a, h => by simp only [dA, Option.some.injEq] at h; subst h; simp [AL.ev]
  | .i n :: r, a, h => by
    simp only [dA, Option.map_eq_some_iff] at h
    obtain ⟨b, hb, rfl⟩ := h
    simp [AL.ev, E.ev, dA_ev ρ r b hb]
  | .b n :: r, a, h => by
    simp only [dA, Option.map_eq_some_iff] at h
    obtain ⟨b, hb, rfl⟩ := h
    simp [AL.ev, B.ev, dA_ev ρ r b hb]
  | .l _ :: _, a, h => by simp [dA] at h
theorem dX_ev (ρ : Env) : ∀ (r : Rows) (x : X), dX r = some x → x.ev ρ = r
  | [], x, h => by simp only [dX, Option.some.injEq] at h; subst h; simp [X.ev]
  | r :: t, x, h => by
    simp only [dX] at h
    split at h
    · rename_i a y ha hy
      simp only [Option.some.injEq] at h
      subst h
      simp [X.ev, dA_ev ρ r a ha, dX_ev ρ t y hy]
    · cases h
def dF (s : Nat) (f : List D → Rows) (al : AL) : X := match litA al with
  | some l => match dX (f l) with | some x => x | none => .fn s al
  | none => .fn s al
theorem dF_ev {ρ : Env} {s : Nat} {f : List D → Rows} (h : ∀ l, ρ.fd s l = f l) (al : AL) : (dF s f al).ev ρ = f (al.ev ρ) := by
  unfold dF
  split
  · rename_i l hl
    split
    · rename_i x hx
      rw [dX_ev ρ _ x hx, litA_ev ρ al l hl]
    · simp only [X.ev, h]
  · simp only [X.ev, h]
def cNew1 (sh : List Sh) (l : NL) (obs : AL → List Ob) (args : List V) (mem : Mem) (nx : Nat) : T OpR := match argsA mem sh args with
  | some al => .obs (obs al) (.ret (.s0 (.own nx (.lit 0)), [(nx, .own l.e l.ks (dF l.s l.rows al) (.lit 0))], nx + 1))
  | none => .stuck "new list"
theorem cNew1_ok {P : Program} {ρ : Env} {f : FuncId} {sh : List Sh} {l : NL} {ok : List D → Prop} (hg : GivesN P f sh [l] ok (fun _ _ vs u => ∃ v, vs = [v] ∧ u = v)) (hf : l.ks.all CK.flat = true) {obs : AL → List Ob}
    (hobs : ∀ al, (∀ o ∈ obs al, o.ok ρ) → ok (al.ev ρ)) (hs : ∀ a, ρ.fd l.s a = l.rows a) : CtOne P ρ f (cNew1 sh l obs) := by
  intro args mem nx q hq hle σ W vals hr hfr hd
  unfold cNew1 at hq
  split at hq
  · rename_i al ha
    obtain ⟨ho, hq⟩ := T.res_obs hq
    obtain rfl := res_ret hq
    have hc := hg W W vals (al.ev ρ) (Below.refl _ _) (argsA_ok hr sh args al ha vals hd) (hobs al ho)
    have hw : CallsIn Fence.wide 0 P f vals.toArray W _ := callsIn_wide.2 hc
    refine CallsIn.mono (F := FR none) hw ?_
    rintro en W' ⟨vs, u, rfl, ⟨v, rfl, rfl⟩, hb, hn⟩
    obtain ⟨xs, h1, h2, h3, ⟨a, c, rfl⟩, h5⟩ := hn.each 0 l _ rfl rfl
    have hnx := hfr nx (Nat.le_refl _) (Nat.lt_succ_self _)
    have hnone : ∀ k, σ.h nx k = .none := fun k => by
      cases hk : σ.h nx k with
      | none => rfl
      | some y => exact absurd (.inr ⟨k, y, hk⟩) hnx
    have hx := dF_ev (ρ := ρ) (s := l.s) (f := l.rows) hs al
    have hstep := step_say (ρ := ρ) (σ := σ) (W := W) (id := nx) (t := l.e) (ks := l.ks) (x := dF l.s l.rows al) (ver := .lit 0) (v := .slice .none 0 0) (W' := W') (xs := xs) (fun i a hi => hr.lt i a hi) (hnone _) (fun u _ => hnone u) hr.inj (fun k hk => by cases hk)
      (by
        rw [hx]
        exact ⟨h1.base hr.base.size, hb.os, hb.tape, hb.output, hb.size, fun k hk _ => hb.block k hk, fun k hk => .inr (h5 k hk), Keep.of_eq (fun k hk => hb.block k hk), a, c, rfl⟩)
      (by rw [hx]; exact fun i row hi => reps_flat hf (h2.2 i row hi)) (by rw [hx]; exact h3)
    exact ⟨_, _, rfl, ⟨⟨a, _, c, rfl⟩, As.say_self⟩, hstep, fun i hi => (say_has hi).imp (fun h => h) (fun h => ⟨by omega, by show i < nx + 1; omega⟩)⟩
  · exact hq.elim
def cNewT (sh : List Sh) (l : NL) (obs : AL → List Ob) (out : AL → Nat → V) (args : List V) (mem : Mem) (nx : Nat) : T OpR := match argsA mem sh args with
  | some al => .obs (obs al) (.ret (out al nx, [(nx, .own l.e l.ks (dF l.s l.rows al) (.lit 0))], nx + 1))
  | none => .stuck "new list"
theorem cNewT_ok {P : Program} {ρ : Env} {f : FuncId} {sh : List Sh} {l : NL} {ok : List D → Prop} {res : List D → Value → Value} (hg : GivesN P f sh [l] ok (fun _ ds vs u => ∃ v, vs = [v] ∧ u = res ds v)) (hf : l.ks.all CK.flat = true) {obs : AL → List Ob}
    (hobs : ∀ al, (∀ o ∈ obs al, o.ok ρ) → ok (al.ev ρ)) (hs : ∀ a, ρ.fd l.s a = l.rows a) {out : AL → Nat → V}
    (hout : ∀ (al : AL) (nx : Nat) (σ' : As) (v : Value), (S0.own nx (.lit 0)).den ρ σ' v → (out al nx).den ρ σ' (res (al.ev ρ) v)) : CtOne P ρ f (cNewT sh l obs out) := by
  intro args mem nx q hq hle σ W vals hr hfr hd
  unfold cNewT at hq
  split at hq
  · rename_i al ha
    obtain ⟨ho, hq⟩ := T.res_obs hq
    obtain rfl := res_ret hq
    have hc := hg W W vals (al.ev ρ) (Below.refl _ _) (argsA_ok hr sh args al ha vals hd) (hobs al ho)
    have hw : CallsIn Fence.wide 0 P f vals.toArray W _ := callsIn_wide.2 hc
    refine CallsIn.mono (F := FR none) hw ?_
    rintro en W' ⟨vs, u, rfl, ⟨v, rfl, rfl⟩, hb, hn⟩
    obtain ⟨xs, h1, h2, h3, ⟨a, c, rfl⟩, h5⟩ := hn.each 0 l _ rfl rfl
    have hnx := hfr nx (Nat.le_refl _) (Nat.lt_succ_self _)
    have hnone : ∀ k, σ.h nx k = .none := fun k => by
      cases hk : σ.h nx k with
      | none => rfl
      | some y => exact absurd (.inr ⟨k, y, hk⟩) hnx
    have hx := dF_ev (ρ := ρ) (s := l.s) (f := l.rows) hs al
    have hstep := step_say (ρ := ρ) (σ := σ) (W := W) (id := nx) (t := l.e) (ks := l.ks) (x := dF l.s l.rows al) (ver := .lit 0) (v := .slice .none 0 0) (W' := W') (xs := xs) (fun i a hi => hr.lt i a hi) (hnone _) (fun u _ => hnone u) hr.inj (fun k hk => by cases hk)
      (by
        rw [hx]
        exact ⟨h1.base hr.base.size, hb.os, hb.tape, hb.output, hb.size, fun k hk _ => hb.block k hk, fun k hk => .inr (h5 k hk), Keep.of_eq (fun k hk => hb.block k hk), a, c, rfl⟩)
      (by rw [hx]; exact fun i row hi => reps_flat hf (h2.2 i row hi)) (by rw [hx]; exact h3)
    exact ⟨_, _, rfl, hout al nx _ _ ⟨⟨a, _, c, rfl⟩, As.say_self⟩, hstep, fun i hi => (say_has hi).imp (fun h => h) (fun h => ⟨by omega, by show i < nx + 1; omega⟩)⟩
  · exact hq.elim
end Go.Proofs.YtbbjlleaofgddaaGreat
/- Contracts of functions with function values among their arguments that answer with one new list; a contract that runs the function in line. -/
namespace Go.Proofs.YtbbjlleaofgddaaGreat
open Go.RowKit
def agPure : List Ag → Bool
  | [] => true
  | .p _ _ :: _ => false
  | _ :: r => agPure r
def GivesNG (P : Program) (f : FuncId) (ag : List Ag) (nl : List NL) (ok : List D → Prop) (res : World → List D → List Value → Value → Prop) : Prop :=
  ∀ (w0 W : World) (vals : List Value) (ds : List D), Below w0.heap.size w0 W → agRep w0 W ag vals ds [] → ok ds → Calls P f vals.toArray W (fun en W' => ∃ vs u, en = .returned u ∧ res w0 ds vs u ∧ Below W.heap.size W W' ∧ NewLs w0 W W' ds nl vs)
theorem agRep_world {w0 w w' : World} : ∀ {l : List Ag}, agPure l = true → ∀ {vs : List Value} {ds : List D} {bs : List Nat}, agRep w0 w l vs ds bs → agRep w0 w' l vs ds bs
  | [], _, _, _, _, h => h
  | .d sh :: r, hp, _, _, _, h => by
    obtain ⟨v, vs', d, ds', h1, h2, h3, h4⟩ := h
    exact ⟨v, vs', d, ds', h1, h2, h3, agRep_world (l := r) hp h4⟩
  | .f g :: r, hp, _, _, _, h => by
    obtain ⟨vs', h1, h2⟩ := h
    exact ⟨vs', h1, agRep_world (l := r) hp h2⟩
  | .p t ks :: r, hp, _, _, _, h => by cases hp
theorem asBs_none : asBs [] = As.none := rfl
theorem agPure_den {ρ : Env} {l : List Ag} (_ : agPure l = true) {j id : Nat} {vs : List Value} (h : DL (V.den ρ (asBs [])) (agArgs j id l) vs) : DL (V.den ρ As.none) (agArgs j id l) vs := h
section
variable {P : Program} {ct : Ct} {lt : Lt}
theorem fn_givesNG1 (I : Interp) (hmix : P.follows .mixedOrders = true) (hct : ∀ ρ, ρ.has I → CtOk P ρ ct) (hce : ct.all (fun p => entersB P p.1) = true) {n : Nat} {f : FuncId} {ag : List Ag} (hag : agPure ag = true) {tr : TT OpR} (he : T.norm 0 (call P ct lt n f (agArgs 0 0 ag) [] 0) TT.ret = tr)
    (hlow : tr.low 1000 = true) (hsh : agWid ag ≤ 1000) {l : NL} {ok : List D → Prop} {res : World → List D → Value → Value → Prop}
    (hs : ∀ w0 vals ds, agRep w0 w0 ag vals ds [] → ok ds → tr.sat (envOf I w0 ds) (fun ρ q => ∃ s x, lrowsP q.2.1 l.e l.ks s = some x ∧ x.ev ρ = l.rows ds ∧ ∀ (σ : As) u, ρ.w = w0 → q.1.den ρ σ u → ∃ v, s.den ρ σ v ∧ res w0 ds v u) (fun _ _ => False)) : GivesNG P f ag [l] ok (fun w0 ds vs u => ∃ v, vs = [v] ∧ res w0 ds v u) := by
  intro w0 W vals ds hbase hrep hok
  obtain ⟨ρ', q, h1, ⟨s, x, h2, h3, h4⟩, _, h5⟩ := exec_flat (lt := lt) hmix (fun ρ' ha => hct ρ' ⟨ha.fi.symm, ha.fb.symm, ha.fd.symm⟩) (ctEnter_of hce) he hlow (hs w0 vals ds (agRep_world hag hrep) hok) (σ := As.none) (W := W) (vals := vals)
    (fun ρ' ha => ⟨fun id b h => by simp [Mem.get] at h, fun i j a h => absurd h (none_own _ _), fun i a h => absurd h (none_own _ _), fun i a h => absurd h (none_own _ _), by rw [← ha.w]; exact hbase⟩) (fun k _ => none_has k) (fun ρ' ha => agPure_den hag (agArgs_den (bs0 := []) ha ag 0 0 vals [] ds [] [] rfl rfl (by omega) rfl rfl hrep).1)
  refine (callsIn_wide (n := 0)).1 ?_
  have h' : CallsIn Fence.wide 0 P f vals.toArray W (RetTo ρ' As.none W 0 q) := h5
  have hw : ρ'.w = w0 := by rw [← h1.w]; rfl
  refine CallsIn.mono h' ?_
  rintro en W' ⟨u, σ', rfl, e1, e2, e3⟩
  obtain ⟨v, hd, hres⟩ := h4 σ' u hw e1
  have hb : Below W.heap.size W W' := ⟨e2.os, e2.tape, e2.output, e2.size, fun k hk => e2.frame k hk (fun i b _ e => none_own _ _ e)⟩
  -- the row of a list of the executor's memory
  have whole : ∀ (id : Nat) (ver : E) (x' : X) (ver' : E) (e' : TypeId) (ks' : List CK) (a : Option Addr) (m c : Nat), q.2.1.get id = some (.own e' ks' x' ver') → l.e = e' → l.ks = ks' → ver = ver' → σ'.h id (ver.ev ρ') = some (.slice a m c) →
      ∃ xs, OwnRow W' w0.heap.size l.e l.ks.length (.slice a m c) m xs ∧ RowsAt w0 l.ks xs (x'.ev ρ') ∧ m = (x'.ev ρ').length ∧ m ≤ 281474976710656 ∧ ∀ k, roomOf (.slice a m c) = some k → W.heap.size ≤ k ∧ k < W'.heap.size := by
    intro id ver x' ver' e' ks' a m c hm c1 c2 c3 e5
    subst c1 c2 c3
    obtain ⟨v2, xs, hO⟩ := e2.blk _ _ hm
    have hvv := hO.now
    rw [e5] at hvv
    simp only [Option.some.injEq] at hvv
    subst hvv
    have hrow := hO.row
    have hrows := hO.reps
    have hbig := hO.big
    rw [hw] at hrow
    rw [hw] at hrows
    have hm : m = (x'.ev ρ').length := by
      rcases hrow with ⟨_, h2⟩ | ⟨h2, _, b, h3⟩
      · rcases h2 with ⟨h2, h3⟩ | ⟨g, cap, cur, h2, _⟩
        · simp only [Value.slice.injEq] at h2; omega
        · simp only [Value.slice.injEq] at h2
          exact h2.2.1
      · simp only [Value.slice.injEq] at h3; omega
    refine ⟨xs, by rw [hm] at hrow ⊢; exact hrow, ⟨?_, hrows⟩, hm, by omega, fun k hk => ?_⟩
    · rcases hrow with h | ⟨h3, h4, _⟩
      · exact h.1
      · rw [h3, h4]; simp
    · rcases e2.new id k (.inr ⟨_, _, e5, hk⟩) with h | h
      · exact absurd h (none_own _ _)
      · exact h
  have key : NewL w0 W W' ds l v := by
    unfold lrowsP at h2
    split at h2
    · rename_i id ver k lo hi full
      split at h2
      · rename_i e' ks' x' ver' hm
        split at h2
        · rename_i hc
          simp only [Bool.and_eq_true, Bool.not_eq_true'] at hc
          obtain ⟨⟨⟨⟨⟨c1, c2⟩, c3⟩, c4⟩, c5⟩, c6⟩ := hc
          have c1 := natb c1
          have c2 := CK.sameL_eq _ _ c2
          have c3 := E.same_eq _ _ c3
          obtain rfl := E.same_eq _ _ c5
          simp only [Option.some.injEq] at h2
          subst h2
          obtain ⟨a, m, c, b, c', e5, l1, l2, l3, rfl, l4, l5, l6, l7⟩ := hd
          obtain ⟨rfl, rfl⟩ := l7 (by simp [E.ev]) c6
          obtain ⟨xs, w1, w2, w3, w4, w5⟩ := whole id ver x' ver' e' ks' b m c' hm c1 c2 c3 e5
          have hlo : (E.lit 0).ev ρ' = 0 := rfl
          rw [hlo] at l2 ⊢
          have hz : (hi.ev ρ').toNat - (0 : Int).toNat = (hi.ev ρ').toNat := by simp
          rw [hz]
          have hle : (hi.ev ρ').toNat ≤ m := by omega
          have hev : (X.sub x' (.lit 0) hi).ev ρ' = subR (x'.ev ρ') 0 (hi.ev ρ') := by simp only [X.ev, E.ev]
          have hlen : (l.rows ds).length = (hi.ev ρ').toNat := by
            rw [← h3, hev]; simp only [subR, List.length_take, List.length_drop, Int.toNat_zero]; omega
          have hsub := w2.sub (l := 0) (m := hi.ev ρ') (by omega) (by simp)
          simp only [Int.toNat_zero, Nat.zero_mul, List.drop_zero, Nat.sub_zero] at hsub
          rw [← hev, h3] at hsub
          refine ⟨xs.take ((hi.ev ρ').toNat * l.ks.length), by rw [hlen]; exact w1.first hle, hsub, by omega, ⟨b, c', by rw [hlen]⟩, fun k hk => w5 k (by rw [← hk]; exact roomOf_len)⟩
        · cases h2
      · cases h2
    · unfold lrows at h2
      split at h2
      · rename_i id ver _
        split at h2
        · rename_i e' ks' x' ver' hm
          split at h2
          · rename_i hc
            simp only [Bool.and_eq_true] at hc
            obtain ⟨⟨c1, c2⟩, c3⟩ := hc
            have c1 := natb c1
            have c2 := CK.sameL_eq _ _ c2
            have c3 := E.same_eq _ _ c3
            simp only [Option.some.injEq] at h2
            subst h2
            obtain ⟨⟨a, m, c, rfl⟩, e5⟩ := hd
            obtain ⟨xs, w1, w2, w3, w4, w5⟩ := whole id ver x' ver' e' ks' a m c hm c1 c2 c3 e5
            have hlen : (l.rows ds).length = m := by rw [← h3, w3]
            rw [h3] at w2
            exact ⟨xs, by rw [hlen]; exact w1, w2, by omega, ⟨a, c, by rw [hlen]⟩, w5⟩
          · cases h2
        · cases h2
      · simp only [Option.some.injEq] at h2
        subst h2
        obtain rfl : v = .slice none 0 0 := hd
        have h3 : [] = l.rows ds := by rw [← h3]; simp [X.ev]
        refine ⟨[], ?_, ?_, ?_, ⟨none, 0, ?_⟩, fun k hk => by simp [roomOf] at hk⟩
        · rw [← h3]; exact .inl (World.ownsRow_nil _ _ _ _)
        · rw [← h3]; exact RowsAt.nil _ _
        · rw [← h3]; simp
        · rw [← h3]; rfl
      · cases h2
  refine ⟨[v], u, rfl, ⟨v, rfl, hres⟩, hb, rfl, fun k l' v' hk hv => ?_, fun i j vi vj a hi hj _ _ => ?_⟩
  · cases k with
    | zero =>
      simp only [List.getElem?_cons_zero, Option.some.injEq] at hk hv
      subst hk hv
      exact key
    | succ k => simp at hk
  · cases i with
    | zero => cases j with
      | zero => rfl
      | succ j => simp at hj
    | succ i => simp at hi
variable {ρ : Env}
def cNewTG (ag : List Ag) (l : NL) (obs : AL → List Ob) (out : AL → Nat → V) (args : List V) (mem : Mem) (nx : Nat) : T OpR := match agDataA mem ag args with
  | some al => .obs (obs al) (.ret (out al nx, [(nx, .own l.e l.ks (dF l.s l.rows al) (.lit 0))], nx + 1))
  | none => .stuck "new list"
theorem cNewTG_ok {f : FuncId} {ag : List Ag} {l : NL} {ok : List D → Prop} {res : List D → Value → Value} (hg : GivesNG P f ag [l] ok (fun _ ds vs u => ∃ v, vs = [v] ∧ u = res ds v)) (hf : l.ks.all CK.flat = true) {obs : AL → List Ob}
    (hobs : ∀ al, (∀ o ∈ obs al, o.ok ρ) → ok (al.ev ρ)) (hs : ∀ a, ρ.fd l.s a = l.rows a) {out : AL → Nat → V}
    (hout : ∀ (al : AL) (nx : Nat) (σ' : As) (v : Value), (S0.own nx (.lit 0)).den ρ σ' v → (out al nx).den ρ σ' (res (al.ev ρ) v)) : CtOne P ρ f (cNewTG ag l obs out) := by
  intro args mem nx q hq hle σ W vals hr hfr hd
  unfold cNewTG at hq
  split at hq
  · rename_i al ha
    obtain ⟨ho, hq⟩ := T.res_obs hq
    obtain rfl := res_ret hq
    have hc := hg W W vals (al.ev ρ) (Below.refl _ _) (agDataA_ok hr ag args al ha vals hd) (hobs al ho)
    have hw : CallsIn Fence.wide 0 P f vals.toArray W _ := callsIn_wide.2 hc
    refine CallsIn.mono (F := FR none) hw ?_
    rintro en W' ⟨vs, u, rfl, ⟨v, rfl, rfl⟩, hb, hn⟩
    obtain ⟨xs, h1, h2, h3, ⟨a, c, rfl⟩, h5⟩ := hn.each 0 l _ rfl rfl
    have hnx := hfr nx (Nat.le_refl _) (Nat.lt_succ_self _)
    have hnone : ∀ k, σ.h nx k = .none := fun k => by
      cases hk : σ.h nx k with
      | none => rfl
      | some y => exact absurd (.inr ⟨k, y, hk⟩) hnx
    have hx := dF_ev (ρ := ρ) (s := l.s) (f := l.rows) hs al
    have hstep := step_say (ρ := ρ) (σ := σ) (W := W) (id := nx) (t := l.e) (ks := l.ks) (x := dF l.s l.rows al) (ver := .lit 0) (v := .slice .none 0 0) (W' := W') (xs := xs) (fun i a hi => hr.lt i a hi) (hnone _) (fun u _ => hnone u) hr.inj (fun k hk => by cases hk)
      (by
        rw [hx]
        exact ⟨h1.base hr.base.size, hb.os, hb.tape, hb.output, hb.size, fun k hk _ => hb.block k hk, fun k hk => .inr (h5 k hk), Keep.of_eq (fun k hk => hb.block k hk), a, c, rfl⟩)
      (by rw [hx]; exact fun i row hi => reps_flat hf (h2.2 i row hi)) (by rw [hx]; exact h3)
    exact ⟨_, _, rfl, hout al nx _ _ ⟨⟨a, _, c, rfl⟩, As.say_self⟩, hstep, fun i hi => (say_has hi).imp (fun h => h) (fun h => ⟨by omega, by show i < nx + 1; omega⟩)⟩
  · exact hq.elim
theorem ct_inline (hmix : P.follows .mixedOrders = true) {ct' : Ct} (hce : ct'.all (fun p => entersB P p.1) = true) (hct : ∀ ρ', Agree 0 ρ ρ' → CtOk P ρ' ct') {lt' : Lt} {n : Nat} {f : FuncId} : CtOne P ρ f (fun args mem nx => call P ct' lt' n f args mem nx) :=
  fun args mem nx q h _ => (all_ok hmix (ctEnter_of hce) n n (Nat.le_refl _) ρ hct).call f args mem nx q h
end
end Go.Proofs.YtbbjlleaofgddaaGreat
/- slices.Insert as a contract of the executor. -/
namespace Go.Proofs.YtbbjlleaofgddaaGreat
open Go.RowKit
def X.ins (x : X) (i : E) (y : X) : X := .appS (.appS (.sub x (.lit 0) i) y) (.sub x i (.lenS x))
theorem X.ins_ev (ρ : Env) (x : X) (i : E) (y : X) : (X.ins x i y).ev ρ = subR (x.ev ρ) 0 (i.ev ρ) ++ y.ev ρ ++ subR (x.ev ρ) (i.ev ρ) ((x.ev ρ).length : Nat) := by
  simp only [X.ins, X.appS_ev, X.ev, E.ev, E.lenS_ev]
def cInsert (e : TypeId) (ks : List CK) (args : List V) (mem : Mem) (nx : Nat) : T OpR := match args with
  | [.v (.one (.z (.own id ver))), .v (.one (.z (.int .i64 i))), .v (.one (.z (.sl vid off 1 (some c))))] => match mem.get id with
    | some (.own t ks' x v) => match mem.get vid with
      | some (.cells _ cs) => if E.same ver v && Nat.beq t e && CK.sameL ks ks' && !Nat.beq id vid && decide (1 ≤ c) && decide (off + ks.length ≤ cs.length) then match rowsA cellA0 ks 1 (cs.drop off) with
        | some y => .obs [.tru (.cmpS .leq (.lit 0) i), .tru (.cmpS .leq i (.lenS x)), .tru (.cmpS .lss (.lenS x) (.lit 1000000))] (.ret (.s0 (.own id (.plusS ver (.lit 1))), [(id, .own e ks (X.ins x i y) (.plusS ver (.lit 1)))], nx))
        | none => .stuck "Insert: row" else .stuck "Insert: kinds"
      | _ => .stuck "Insert: what"
    | _ => .stuck "Insert: into"
  | _ => .stuck "Insert"
theorem cInsert_ok {P : Program} {ρ : Env} {f : FuncId} {e : TypeId} {ks : List CK} (hc : InsertOk P f e ks.length) : CtOne P ρ f (cInsert e ks) := by
  intro args mem nx q hq hle σ W vals hr hfr hd
  unfold cInsert at hq
  split at hq
  · rename_i id ver i vid off c
    split at hq
    · rename_i t ks' x v hm
      split at hq
      · rename_i tv cs hmv
        split at hq
        · rename_i hcond
          simp only [Bool.and_eq_true, decide_eq_true_eq, Bool.not_eq_true'] at hcond
          obtain ⟨⟨⟨⟨⟨hv, ht⟩, hk⟩, hid⟩, hc1⟩, hoff⟩ := hcond
          obtain rfl := E.same_eq _ _ hv
          obtain rfl := natb ht
          obtain rfl := CK.sameL_eq _ _ hk
          have hid : id ≠ vid := fun e => by subst e; simp at hid
          split at hq
          · rename_i y hy
            obtain ⟨ho, hq⟩ := T.res_obs hq
            obtain rfl := res_ret hq
            obtain ⟨u1, us, rfl, d1, d2⟩ := DL.cons_inv hd
            obtain ⟨u2, us2, rfl, d3, d4⟩ := DL.cons_inv d2
            obtain ⟨u3, us3, rfl, d5, d6⟩ := DL.cons_inv d4
            obtain rfl := DL.nil_inv d6
            have o1 := ho _ (List.mem_cons_self ..)
            have o2 := ho _ (List.mem_cons_of_mem _ (List.mem_cons_self ..))
            have o3 := ho _ (List.mem_cons_of_mem _ (List.mem_cons_of_mem _ (List.mem_cons_self ..)))
            simp only [Ob.ok, B.cmpS_ev] at o1 o2 o3
            have o1 := of_decide_eq_true o1
            have o2 := of_decide_eq_true o2
            have o3 := of_decide_eq_true o3
            simp only [E.ev, E.lenS_ev] at o1 o2 o3
            obtain ⟨⟨a, n, c0, rfl⟩, hd1⟩ := d1
            obtain rfl : u2 = .int .i64 (i.ev ρ) := d3
            obtain ⟨b, hb, rfl⟩ := d5
            obtain ⟨b', hb', vs, h3, h4⟩ := hr.blk _ _ hmv
            rw [hb] at hb'
            simp only [Option.some.injEq] at hb'
            subst hb'
            obtain ⟨ov, xs, hO⟩ := hr.blk _ _ hm
            have hvv := hO.now
            rw [hd1] at hvv
            simp only [Option.some.injEq] at hvv
            subst hvv
            have hn : n = (x.ev ρ).length := by
              rcases hO.row with ⟨_, h2⟩ | ⟨h2, _, b, h3⟩
              · rcases h2 with ⟨h2, h3⟩ | ⟨g, cap, cur, h2, _⟩
                · simp only [Value.slice.injEq] at h2; omega
                · simp only [Value.slice.injEq] at h2
                  exact h2.2.1
              · simp only [Value.slice.injEq] at h3; omega
            have hl := h3.length
            obtain ⟨e1, e2⟩ := rowsA_ok (cellA0_ok (W := ρ.w) (Below.refl _ _)) ks 1 _ y hy _ (h3.drop off) (by rw [List.length_drop]; omega)
            obtain ⟨k, hki⟩ := Int.eq_ofNat_of_zero_le o1
            have hrows := hO.rows
            have hnews : RowsAt ρ.w ks ((vs.drop off).take ks.length) (y.ev ρ) := by
              refine ⟨by rw [e1, List.length_take, List.length_drop]; omega, fun j row hj => ?_⟩
              have hlt : j < 1 := by rw [← e1]; exact (List.getElem?_eq_some_iff.1 hj).1
              obtain rfl : j = 0 := by omega
              have := e2 0 row hj
              rw [Nat.zero_mul, List.drop_zero] at this ⊢
              rw [List.take_take, Nat.min_self]
              exact this
            have hcalls := hc W ρ.w.heap.size a n c0 k b off c xs vs ((vs.drop off).take ks.length) tv hr.base.size (hn ▸ hO.row) (by omega) h4 rfl (by rw [List.length_take, List.length_drop]; omega)
              (fun k' hk' e => hid (hr.inj id vid k' (.inr ⟨_, _, hd1, hk'⟩) (.inl (by rw [hb, e])))) hnews.all_one hrows.all_one (by omega)
            have hw : CallsIn Fence.wide 0 P f #[.slice a n c0, .int .i64 k, .slice (some ⟨b, off, none⟩) 1 c] W _ := callsIn_wide.2 hcalls
            rw [hki]
            refine CallsIn.mono (F := FR none) hw ?_
            rintro en W' ⟨v', rfl, happ⟩
            have hver : (E.plusS ver (.lit 1)).ev ρ = ver.ev ρ + 1 := by rw [E.plusS_ev]; rfl
            obtain ⟨b2, c2, hb2⟩ := happ.sl
            have hev := X.ins_ev ρ x i y
            have s1 := hrows.sub (l := 0) (m := i.ev ρ) (by omega) (by omega)
            have s2 := hrows.sub (l := i.ev ρ) (m := ((x.ev ρ).length : Nat)) (by omega) (by omega)
            have hall := (s1.app hnews).app s2
            have hxl := hrows.1
            have e0 : (xs.drop ((0 : Int).toNat * ks.length)).take (((i.ev ρ).toNat - (0 : Int).toNat) * ks.length) ++ (vs.drop off).take ks.length ++ (xs.drop ((i.ev ρ).toNat * ks.length)).take ((((x.ev ρ).length : Int).toNat - (i.ev ρ).toNat) * ks.length) = xs.take (k * ks.length) ++ (vs.drop off).take ks.length ++ xs.drop (k * ks.length) := by
              rw [hki]
              simp only [Int.toNat_zero, Nat.zero_mul, List.drop_zero, Nat.sub_zero, Int.ofNat_eq_natCast, Int.toNat_natCast]
              congr 1
              rw [List.take_of_length_le]
              rw [List.length_drop, hxl, Nat.sub_mul]
              omega
            rw [e0, ← hev] at hall
            have hlen : ((X.ins x i y).ev ρ).length = n + 1 := by
              rw [hev]
              simp only [subR, List.length_append, List.length_take, List.length_drop, Int.toNat_zero, e1, Int.toNat_natCast]
              omega
            have hstep := step_say (ρ := ρ) (σ := σ) (W := W) (id := id) (t := t) (ks := ks) (x := X.ins x i y) (ver := .plusS ver (.lit 1)) (v := .slice a n c0) (v' := v') (W' := W') (xs := xs.take (k * ks.length) ++ (vs.drop off).take ks.length ++ xs.drop (k * ks.length)) (fun i a hi => hr.lt i a hi) (by rw [hver]; exact hO.last _ (by omega)) (fun u hu => hO.last u (by rw [hver] at hu; omega)) hr.inj
              (fun k' hk' => .inr ⟨_, _, hd1, hk'⟩) (by rw [hlen]; exact happ) hall.2 (by rw [hlen]; omega)
            refine ⟨_, _, rfl, ⟨⟨b2, _, c2, hb2⟩, As.say_self⟩, hstep, fun j hj => ?_⟩
            rcases say_has hj with h | h
            · exact .inl h
            · exact .inl (.inr ⟨_, _, by rw [h]; exact hO.now⟩)
          · exact hq.elim
        · exact hq.elim
      · exact hq.elim
    · exact hq.elim
  · exact hq.elim
def ftK : List CK := [.int .i64, .int .i64, .int .i64, .int .i64, .int .i64, .sl [.int .i64, .int .i64], .int .i64, .int .i64, .sl [.int .i64, .int .i64, .int .i64, .int .i64, .int .i64, .int .i64]]
end Go.Proofs.YtbbjlleaofgddaaGreat
/- slices.Delete of one element: what is meant, and what its walk wants. -/
namespace Go.Proofs.YtbbjlleaofgddaaGreat
open Go.RowKit
section
variable {P : Program}
theorem wpList_clear_run {ops : Array Oper} {rest : List Oper} {o : Oper} {a : Act} {W : World} {Q : Exit → Act → World → Prop} (hgd : o.guard = none) (d : Operand) (t : TypeId)
    (ho : o.op = .call { callee := .builtin .clear, args := #[d], argTypes := #[t] }) (v : Value) (hd : a.eval d = v) {v' : Value} {W' : World} (hr : (Builtin.clear_ #[t] o.type #[v]).run P W = .ok v' W')
    (h : wpList P ops Q rest (a.put o.dst v') W') : wpList P ops Q (o :: rest) a W := by
  refine wpList_plain hgd fun K hK => ?_
  unfold Oper.wp execOp
  simp only [ho, resolve, invoke, builtin, Sem.run_bind, Sem.run_pure, Result.andThen_ok, List.map_toArray, List.map_cons, List.map_nil, hd]
  rw [hr]
  exact hK _ _ h
theorem step_append_runI {ops : Array Oper} {o : Oper} {a : Act} {w : World} {K : Act → World → Prop} {Q : Exit → Act → World → Prop} {E : Prop}
    (hg : o.guard = none) (d x : Operand) (dT sT : TypeId) (hop : o.op = Op.call { callee := Callee.builtin Builtin.append, args := #[d, x], argTypes := #[dT, sT] })
    (v u : Value) (hd : a.eval d = v) (hx : a.eval x = u) {v' : Value} {w' : World} (hr : (Builtin.append_ #[dT, sT] o.type #[v, u]).run P w = .ok v' w') (hK : K (a.put o.dst v') w') :
    if Region.wanted o (yielded ops a.tmps) = true then Oper.wp P o a w K Q else E := by
  have hw : Region.wanted o (yielded ops a.tmps) = true := by simp [Region.wanted, hg]
  rw [if_pos hw]
  unfold Oper.wp execOp
  simp only [hop, resolve, invoke, builtin, Sem.run_bind, Sem.run_pure, Result.andThen_ok, List.map_toArray, List.map_cons, List.map_nil, hd, hx]
  rw [hr]
  exact hK
theorem run_append_rows (W : World) {t ty e bt : TypeId} {i : TypeInfo} (ht : P.underlying t = some (.slice e)) (hi : P.info? e = some i) (g sLen sCap : Nat) (cur : List Value) (hg : W.heap[g]? = some (.cells cur.toArray bt (0, 0)))
    (a : Addr) (m c : Nat) (news : List Value) (hl : news.length = m * i.size) (hcell : ∀ j v, news[j]? = some v → W.cell? (a.add j) = some v) (h1 : ∀ u ∈ news, u.oneCell' = true) (hroom : sLen + m ≤ sCap) (hfit : sLen * i.size + news.length ≤ cur.length) :
    (Builtin.append_ #[t, t] ty #[.slice (some ⟨g, 0, none⟩) sLen sCap, .slice (some a) m c]).run P W = .ok (.slice (some ⟨g, 0, none⟩) (sLen + m) sCap) (W.setCells g (sLen * i.size) news) := by
  obtain ⟨e1, _⟩ := setCells_heap (P := P) W g (sLen * i.size) cur hg news h1 hfit
  have hf := run_firstCells_some (P := P) W i.size m a m c news hl hcell
  simp [Builtin.append_, run_underlying ht, sizeOf, typeInfo, hi, Builtin.lenOf, hroom, hf, Addr.add_lit, e1]
theorem run_append_nought (W : World) {t ty e : TypeId} {i : TypeInfo} (ht : P.underlying t = some (.slice e)) (hi : P.info? e = some i) (g sLen sCap : Nat) (hle : sLen ≤ sCap) (ad : Option Addr) (c : Nat) :
    (Builtin.append_ #[t, t] ty #[.slice (some ⟨g, 0, none⟩) sLen sCap, .slice ad 0 c]).run P W = .ok (.slice (some ⟨g, 0, none⟩) sLen sCap) W := by
  cases ad with
  | none => simp [Builtin.append_, run_underlying ht, sizeOf, typeInfo, hi, Builtin.lenOf, hle, Builtin.firstCells, storeCells]
  | some b =>
    have hf := run_firstCells_some (P := P) W i.size 0 b 0 c [] (by simp) (by simp)
    simp [Builtin.append_, run_underlying ht, sizeOf, typeInfo, hi, Builtin.lenOf, hle, hf, storeCells]
theorem run_clear_row (W : World) {t ty e bt : TypeId} {i : TypeInfo} {z : Value} (ht : P.underlying t = some (.slice e)) (hi : P.info? e = some i) (hz : i.zero = some z) (g o : Nat) (cur : List Value) (hg : W.heap[g]? = some (.cells cur.toArray bt (0, 0)))
    (h1 : ∀ u ∈ z.cells.toList, u.oneCell' = true) (hfit : o + z.cells.size ≤ cur.length) (c : Nat) :
    (Builtin.clear_ #[t] ty #[.slice (some ⟨g, o, none⟩) 1 c]).run P W = .ok (.tuple #[]) (W.setCells g o z.cells.toList) := by
  obtain ⟨e1, _⟩ := setCells_heap (P := P) W g o cur hg z.cells.toList h1 (by simpa using hfit)
  have hzc : (Builtin.zeroCells z.cells 1).toList = z.cells.toList := by
    unfold Builtin.zeroCells
    rw [Array.toList_map, Array.toList_range, Nat.one_mul]
    apply List.ext_getElem
    · simp
    · intro j h1 h2
      have h3 : j < z.cells.size := by simpa using h1
      simp [Nat.mod_eq_of_lt h3, getElem!_pos, h3]
  simp [Builtin.clear_, run_underlying ht, zeroValue, typeInfo, hi, hz, hzc, e1]
theorem setL_delete {cur xs zs : List Value} {p s m : Nat} (hx : cur.take m = xs) (hxl : xs.length = m) (hp : p + s ≤ m) (hz : zs.length = s) (hfit : m ≤ cur.length) :
    (setL (setL cur p (xs.drop (p + s))) (m - s) zs).take (m - s) = xs.take p ++ xs.drop (p + s) ∧ (setL (setL cur p (xs.drop (p + s))) (m - s) zs).length = cur.length := by
  have hd : (xs.drop (p + s)).length = m - (p + s) := by rw [List.length_drop, hxl]
  have l1 : (setL cur p (xs.drop (p + s))).length = cur.length := setL_len (by omega)
  have l2 : (setL (setL cur p (xs.drop (p + s))) (m - s) zs).length = cur.length := by rw [setL_len (by omega), l1]
  refine ⟨List.ext_getElem? fun j => ?_, l2⟩
  have hxj : ∀ j, j < m → cur[j]? = xs[j]? := fun j hj => by rw [← hx, List.getElem?_take_of_lt hj]
  rcases Nat.lt_or_ge j (m - s) with q | q
  · rw [List.getElem?_take_of_lt q, setL_get (by omega), setL_get (by omega), if_neg (by omega)]
    rcases Nat.lt_or_ge j p with q1 | q1
    · rw [if_neg (by omega), List.getElem?_append_left (by rw [List.length_take]; omega), List.getElem?_take_of_lt q1, hxj j (by omega)]
    · rw [if_pos (by omega), List.getElem?_append_right (by rw [List.length_take]; omega)]
      congr 1
      rw [List.length_take]; omega
  · rw [List.getElem?_eq_none (by rw [List.length_take]; omega), List.getElem?_eq_none (by rw [List.length_append, List.length_take, hd]; omega)]
theorem AppRes.shrunk {W W' : World} {base : Nat} {e : TypeId} {size g n k cap : Nat} {cur cur' : List Value} {ys : List Value} (hbg : base ≤ g) (hg : W.heap[g]? = some (.cells cur.toArray e (0, 0))) (hn : k ≤ cap) (hc : 0 < cap) (hcm : cap ≤ maxLen) (hcs : cur'.length = cap * size)
    (hg' : W'.heap[g]? = some (.cells cur'.toArray e (0, 0))) (hl : ys.length = k * size) (htk : cur'.take (k * size) = ys) (h1 : W'.os = W.os) (h2 : W'.tape = W.tape) (h3 : W'.output = W.output) (h4 : W.heap.size ≤ W'.heap.size)
    (h5 : ∀ q, q ≠ g → q < W.heap.size → W'.heap[q]? = W.heap[q]?) : AppRes W base e size (.slice (some ⟨g, 0, none⟩) n cap) k ys (.slice (some ⟨g, 0, none⟩) k cap) W' := by
  obtain ⟨c', rfl⟩ : ∃ c', cap = c' + 1 := ⟨cap - 1, by omega⟩
  refine ⟨.inl ⟨hl, .inr ⟨g, _, _, rfl, hbg, hg', hn, hcm, by simpa using hcs, by simpa using htk⟩⟩, h1, h2, h3, h4, fun k hk hr => h5 k (fun e => hr (by rw [e]; rfl)) hk, fun k hk => .inl hk, fun k L hL => ?_, _, _, rfl⟩
  have hkg : k ≠ g := fun e => by subst e; rw [hg] at hL; cases hL
  exact ⟨L, by rw [h5 k hkg (lt_of_heap hL)]; exact hL, rfl, rfl, rfl, rfl⟩
def DeleteOk (P : Program) (f : FuncId) (e : TypeId) (size : Nat) : Prop := ∀ (W : World) (base : Nat) (a : Option Addr) (n c i : Nat) (xs : List Value),
  base ≤ W.heap.size → OwnRow W base e size (.slice a n c) n xs → i < n → (∀ u ∈ xs, u.oneCell' = true) → n < 1000000 →
  Calls P f #[.slice a n c, .int .i64 i, .int .i64 ((i : Int) + 1)] W (fun en W' => ∃ v', en = .returned v' ∧ AppRes W base e size (.slice a n c) (n - 1) (xs.take (i * size) ++ xs.drop ((i + 1) * size)) v' W')
end
end Go.Proofs.YtbbjlleaofgddaaGreat
/- slices.Delete of one element as a contract of the executor. -/
namespace Go.Proofs.YtbbjlleaofgddaaGreat
open Go.RowKit
def X.cut (x : X) (i j : E) : X := .appS (.sub x (.lit 0) i) (.sub x j (.lenS x))
theorem X.cut_ev (ρ : Env) (x : X) (i j : E) : (X.cut x i j).ev ρ = subR (x.ev ρ) 0 (i.ev ρ) ++ subR (x.ev ρ) (j.ev ρ) ((x.ev ρ).length : Nat) := by
  simp only [X.cut, X.appS_ev, X.ev, E.ev, E.lenS_ev]
def cDelete (e : TypeId) (ks : List CK) (args : List V) (mem : Mem) (nx : Nat) : T OpR := match args with
  | [.v (.one (.z (.own id ver))), .v (.one (.z (.int .i64 i))), .v (.one (.z (.int .i64 j)))] => match mem.get id with
    | some (.own t ks' x v) => if E.same ver v && Nat.beq t e && CK.sameL ks ks' then
        .obs [.tru (.cmpS .leq (.lit 0) i), .tru (.cmpS .lss i (.lenS x)), .tru (.cmpS .eql j (.plusS i (.lit 1))), .tru (.cmpS .lss (.lenS x) (.lit 1000000))] (.ret (.s0 (.own id (.plusS ver (.lit 1))), [(id, .own e ks (X.cut x i j) (.plusS ver (.lit 1)))], nx)) else .stuck "Delete: kinds"
    | _ => .stuck "Delete: from"
  | _ => .stuck "Delete"
theorem cDelete_ok {P : Program} {ρ : Env} {f : FuncId} {e : TypeId} {ks : List CK} (hc : DeleteOk P f e ks.length) : CtOne P ρ f (cDelete e ks) := by
  intro args mem nx q hq hle σ W vals hr hfr hd
  unfold cDelete at hq
  split at hq
  · rename_i id ver i j
    split at hq
    · rename_i t ks' x v hm
      split at hq
      · rename_i hcond
        simp only [Bool.and_eq_true] at hcond
        obtain ⟨⟨hv, ht⟩, hk⟩ := hcond
        obtain rfl := E.same_eq _ _ hv
        obtain rfl := natb ht
        obtain rfl := CK.sameL_eq _ _ hk
        obtain ⟨ho, hq⟩ := T.res_obs hq
        obtain rfl := res_ret hq
        obtain ⟨u1, us, rfl, d1, d2⟩ := DL.cons_inv hd
        obtain ⟨u2, us2, rfl, d3, d4⟩ := DL.cons_inv d2
        obtain ⟨u3, us3, rfl, d5, d6⟩ := DL.cons_inv d4
        obtain rfl := DL.nil_inv d6
        have o1 := ho _ (List.mem_cons_self ..)
        have o2 := ho _ (List.mem_cons_of_mem _ (List.mem_cons_self ..))
        have o3 := ho _ (List.mem_cons_of_mem _ (List.mem_cons_of_mem _ (List.mem_cons_self ..)))
        have o4 := ho _ (List.mem_cons_of_mem _ (List.mem_cons_of_mem _ (List.mem_cons_of_mem _ (List.mem_cons_self ..))))
        simp only [Ob.ok, B.cmpS_ev] at o1 o2 o3 o4
        have o1 := of_decide_eq_true o1
        have o2 := of_decide_eq_true o2
        have o3 := of_decide_eq_true o3
        have o4 := of_decide_eq_true o4
        simp only [E.ev, E.lenS_ev, E.plusS_ev] at o1 o2 o3 o4
        obtain ⟨⟨a, n, c0, rfl⟩, hd1⟩ := d1
        obtain rfl : u2 = .int .i64 (i.ev ρ) := d3
        obtain rfl : u3 = .int .i64 (j.ev ρ) := d5
        obtain ⟨ov, xs, hO⟩ := hr.blk _ _ hm
        have hvv := hO.now
        rw [hd1] at hvv
        simp only [Option.some.injEq] at hvv
        subst hvv
        have hn : n = (x.ev ρ).length := by
          rcases hO.row with ⟨_, h2⟩ | ⟨h2, _, b, h3⟩
          · rcases h2 with ⟨h2, h3⟩ | ⟨g, cap, cur, h2, _⟩
            · simp only [Value.slice.injEq] at h2; omega
            · simp only [Value.slice.injEq] at h2
              exact h2.2.1
          · simp only [Value.slice.injEq] at h3; omega
        obtain ⟨k, hki⟩ := Int.eq_ofNat_of_zero_le o1
        have hrows := hO.rows
        have hcalls := hc W ρ.w.heap.size a n c0 k xs hr.base.size (hn ▸ hO.row) (by omega) hrows.all_one (by omega)
        have hw : CallsIn Fence.wide 0 P f #[.slice a n c0, .int .i64 k, .int .i64 ((k : Int) + 1)] W _ := callsIn_wide.2 hcalls
        rw [o3, hki]
        refine CallsIn.mono (F := FR none) hw ?_
        rintro en W' ⟨v', rfl, happ⟩
        have hver : (E.plusS ver (.lit 1)).ev ρ = ver.ev ρ + 1 := by rw [E.plusS_ev]; rfl
        obtain ⟨b2, c2, hb2⟩ := happ.sl
        have hev := X.cut_ev ρ x i j
        have s1 := hrows.sub (l := 0) (m := i.ev ρ) (by omega) (by omega)
        have s2 := hrows.sub (l := j.ev ρ) (m := ((x.ev ρ).length : Nat)) (by omega) (by omega)
        have hall := s1.app s2
        have hxl := hrows.1
        have e0 : (xs.drop ((0 : Int).toNat * ks.length)).take (((i.ev ρ).toNat - (0 : Int).toNat) * ks.length) ++ (xs.drop ((j.ev ρ).toNat * ks.length)).take ((((x.ev ρ).length : Int).toNat - (j.ev ρ).toNat) * ks.length) = xs.take (k * ks.length) ++ xs.drop ((k + 1) * ks.length) := by
          have hj : (j.ev ρ).toNat = k + 1 := by omega
          rw [hki, hj]
          simp only [Int.toNat_zero, Nat.zero_mul, List.drop_zero, Nat.sub_zero, Int.ofNat_eq_natCast, Int.toNat_natCast]
          congr 1
          rw [List.take_of_length_le]
          rw [List.length_drop, hxl, Nat.sub_mul]
          omega
        rw [e0, ← hev] at hall
        have hlen : ((X.cut x i j).ev ρ).length = n - 1 := by
          rw [hev]
          simp only [subR, List.length_append, List.length_take, List.length_drop, Int.toNat_zero, Int.toNat_natCast]
          omega
        have hstep := step_say (ρ := ρ) (σ := σ) (W := W) (id := id) (t := t) (ks := ks) (x := X.cut x i j) (ver := .plusS ver (.lit 1)) (v := .slice a n c0) (v' := v') (W' := W') (xs := xs.take (k * ks.length) ++ xs.drop ((k + 1) * ks.length)) (fun i a hi => hr.lt i a hi) (by rw [hver]; exact hO.last _ (by omega)) (fun u hu => hO.last u (by rw [hver] at hu; omega)) hr.inj
          (fun k' hk' => .inr ⟨_, _, hd1, hk'⟩) (by rw [hlen]; exact happ) hall.2 (by rw [hlen]; omega)
        refine ⟨_, _, rfl, ⟨⟨b2, _, c2, hb2⟩, As.say_self⟩, hstep, fun j hj => ?_⟩
        rcases say_has hj with h | h
        · exact .inl h
        · subst h; exact .inl (.inr ⟨_, _, hd1⟩)
      · exact hq.elim
    · exact hq.elim
  · exact hq.elim
end Go.Proofs.YtbbjlleaofgddaaGreat
