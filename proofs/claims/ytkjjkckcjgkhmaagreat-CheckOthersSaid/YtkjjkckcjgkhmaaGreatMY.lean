/- MY, merged: Yv, Yc. -/
import Derived.Test.YtkjjkckcjgkhmaaGreatMK
import Derived.OwnWalk
set_option linter.unusedSimpArgs false
set_option linter.unusedVariables false
/- What a tree without loops answers, as a function: the tree itself reckons it. -/
namespace Go.Proofs.YtkjjkckcjgkhmaaGreat
open Go.RowKit
def W00 : World := { heap := #[], tape := fun _ _ => 0, drawn := 0, os := default, output := #[] }
section
variable (ρ : Env) (w : World)
mutual
theorem E.ev_w : ∀ e : E, e.ev { ρ with w := w } = e.ev ρ
  | .lit _ => rfl
  | .var _ => rfl
  | .ar o k a b => by rw [E.ev, E.ev, E.ev_w a, E.ev_w b]
  | .wr k a => by rw [E.ev, E.ev, E.ev_w a]
  | .mx a b => by rw [E.ev, E.ev, E.ev_w a, E.ev_w b]
  | .mn a b => by rw [E.ev, E.ev, E.ev_w a, E.ev_w b]
  | .fn s l => by rw [E.ev, E.ev, AL.ev_w l]
  | .len x => by rw [E.ev, E.ev, X.ev_w x]
  | .rd x i j => by rw [E.ev, E.ev, X.ev_w x, E.ev_w i]
  | .plus a b => by rw [E.ev, E.ev, E.ev_w a, E.ev_w b]
theorem X.ev_w : ∀ x : X, x.ev { ρ with w := w } = x.ev ρ
  | .var _ => rfl
  | .nil => rfl
  | .rd x i j => by rw [X.ev, X.ev, X.ev_w x, E.ev_w i]
  | .sub x lo hi => by rw [X.ev, X.ev, X.ev_w x, E.ev_w lo, E.ev_w hi]
  | .app x y => by rw [X.ev, X.ev, X.ev_w x, X.ev_w y]
  | .row l => by rw [X.ev, X.ev, AL.ev_w l]
  | .upd x i j l => by rw [X.ev, X.ev, X.ev_w x, E.ev_w i, AL.ev_w l]
  | .fn s l => by rw [X.ev, X.ev, AL.ev_w l]
theorem AL.ev_w : ∀ l : AL, l.ev { ρ with w := w } = l.ev ρ
  | .nil => rfl
  | .i e r => by rw [AL.ev, AL.ev, E.ev_w e, AL.ev_w r]
  | .b e r => by rw [AL.ev, AL.ev, B.ev_w e, AL.ev_w r]
  | .x e r => by rw [AL.ev, AL.ev, X.ev_w e, AL.ev_w r]
theorem B.ev_w : ∀ b : B, b.ev { ρ with w := w } = b.ev ρ
  | .lit _ => rfl
  | .var _ => rfl
  | .cmp o a b => by rw [B.ev, B.ev, E.ev_w a, E.ev_w b]
  | .not a => by rw [B.ev, B.ev, B.ev_w a]
  | .eqb a b => by rw [B.ev, B.ev, B.ev_w a, B.ev_w b]
  | .and a b => by rw [B.ev, B.ev, B.ev_w a, B.ev_w b]
  | .fn s l => by rw [B.ev, B.ev, AL.ev_w l]
  | .rd x i j => by rw [B.ev, B.ev, X.ev_w x, E.ev_w i]
end
end
def TT.evB (ρ : Env) : TT OpR → Bool
  | .ret (.v (.one (.z (.bool b))), _) => b.ev ρ
  | .ite c t e => if c.ev ρ then TT.evB ρ t else TT.evB ρ e
  | _ => false
def TT.tests : TT OpR → Bool
  | .ret (.v (.one (.z (.bool _))), _) => true
  | .ite _ t e => TT.tests t && TT.tests e
  | _ => false
theorem TT.evB_w (ρ : Env) (w : World) : ∀ t : TT OpR, t.evB { ρ with w := w } = t.evB ρ := by
  intro t
  induction t with
  | ret a => unfold TT.evB; split <;> simp [B.ev_w] at *
  | ite c t e i1 i2 => rw [TT.evB, TT.evB, B.ev_w, i1, i2]
  | ob o t ih => rfl
  | stuck s => rfl
  | loop d N init body ih => rfl
  | next d m => rfl
theorem TT.sat_tests {ρ : Env} {K : Env → OpR → Prop} {J : Nat → LV → Prop} : ∀ {t : TT OpR}, t.tests = true → (∀ q, q.1.plain = true → q.1.val ρ = .bool (t.evB ρ) → K ρ q) → t.sat ρ K J := by
  intro t
  induction t with
  | ret a =>
    intro h hk
    obtain ⟨v, m⟩ := a
    unfold TT.tests at h
    split at h
    · rename_i b ws he
      injection he with he
      injection he with h1 h2
      subst h1
      exact hk _ rfl rfl
    · rename_i he; injection he
    · cases h
  | ite c t e i1 i2 =>
    intro h hk
    rw [TT.tests, Bool.and_eq_true] at h
    refine ⟨fun hc => i1 h.1 (fun q p1 p2 => hk q p1 ?_), fun hc => i2 h.2 (fun q p1 p2 => hk q p1 ?_)⟩
    · rw [p2, TT.evB, hc]; rfl
    · rw [p2, TT.evB, hc]; rfl
  | ob o t ih => intro h; cases h
  | stuck s => intro h; cases h
  | loop d N init body ih => intro h; cases h
  | next d m => intro h; cases h
section
variable {P : Program} {ct : Ct} {lt : Lt}
theorem fn_tests (I : Interp) (hmix : P.follows .mixedOrders = true) (hct : ∀ ρ, ρ.has I → CtOk P ρ ct) (hce : ct.all (fun p => entersB P p.1) = true) {n : Nat} {f : FuncId} {sh : List Sh} {tr : TT OpR} (he : T.norm 0 (call P ct lt n f (symArgs 0 sh) [] 0) TT.ret = tr)
    (hlow : tr.low 1000 = true) (hsh : shLen sh ≤ 1000) (ht : tr.tests = true) : Gives P f sh (fun ds => .bool (tr.evB (envOf I W00 ds))) := by
  refine GivesIf.all (fn_gives I hmix hct hce he hlow hsh (fun W vals ds _ _ => TT.sat_tests ht (fun q p1 p2 => ⟨p1, ?_⟩)))
  rw [p2]
  congr 1
  exact TT.evB_w (envOf I W00 ds) W tr
end
end Go.Proofs.YtkjjkckcjgkhmaaGreat
/- Contracts of slices.Clone: a new list with the same content. -/
namespace Go.Proofs.YtkjjkckcjgkhmaaGreat
open Go.RowKit
section
variable {P : Program}
theorem wpList_append_row {ops : Array Oper} {rest : List Oper} {o : Oper} {a : Act} {W : World} {Q : Exit → Act → World → Prop} (hgd : o.guard = none) (s x : Operand) (t : TypeId)
    (ho : o.op = .call { callee := .builtin .append, args := #[s, x], argTypes := #[t, t] }) (base : Nat) (e : TypeId) (i : TypeInfo) (z : Value) (size bytes : Nat) (ht : P.underlying t = some (.slice e)) (hi : P.info? e = some i) (hz : i.zero = some z)
    (hsize : i.size = size) (hby : i.bytes = bytes) (hzs : z.cells.size = size) (v : Value) (n : Nat) (xs : List Value) (hs : a.eval s = v) (hown : OwnRow W base e size v n xs) (hv : ∃ a c, v = .slice a n c)
    (ad : Option Addr) (m c : Nat) (news : List Value) (hx : a.eval x = .slice ad m c) (hl : news.length = m * size) (ha : 0 < m → ad.isSome = true) (hnews : ∀ b, ad = some b → ∀ j u, news[j]? = some u → W.cell? (b.add j) = some u) (h1 : ∀ u ∈ news, u.oneCell' = true)
    (h63 : n + m ≤ maxLen) (hbytes : (n + m) * bytes ≤ 140737488355328) (hbase : base ≤ W.heap.size)
    (h : ∀ v' W', AppRes W base e size v (n + m) (xs ++ news) v' W' → wpList P ops Q rest (a.put o.dst v') W') : wpList P ops Q (o :: rest) a W := by
  refine wpList_plain hgd fun K hK => ?_
  obtain ⟨v', W', hr, h2⟩ := run_append_row (P := P) W (base := base) (t := t) (ty := o.type) (z := z) (size := size) ht hi hz hsize hzs hown hv hl ha hnews h1 h63 (by rw [hby]; exact hbytes) hbase
  unfold Oper.wp execOp
  simp only [ho, resolve, invoke, builtin, Sem.run_bind, Sem.run_pure, Result.andThen_ok, List.map_toArray, List.map_cons, List.map_nil, hs, hx]
  rw [hr]
  exact hK _ _ (h v' W' h2)
theorem run_eq_nil {t e : TypeId} (ht : P.underlying t = some (.slice e)) (a : Option Addr) (n c : Nat) (W : World) : Sem.run P (binOp .eql t (.slice a n c) (.slice none 0 0)) W = .ok (.bool a.isNone) W := by
  have h0 : binOp .eql t (.slice a n c) (.slice none 0 0) = (do pure (.bool (← Op.equal t (.slice a n c) (.slice none 0 0)))) := rfl
  have h1 : ∀ d, Sem.run P (Op.equalIn (d + 1) t (.slice a n c) (.slice none 0 0)) W = .ok a.isNone W := fun d => by
    rw [Op.equalIn]
    simp only [Sem.run_bind, run_underlying ht, Result.andThen_ok]
    cases a <;> rfl
  have h2 : Sem.run P (Op.equal t (.slice a n c) (.slice none 0 0)) W = .ok a.isNone W := h1 _
  rw [h0]
  simp only [Sem.run_bind, h2, Result.andThen_ok, Sem.run_pure]
theorem AppRes.fresh {W W' : World} {o : Obj} {base : Nat} {e : TypeId} {size : Nat} {a : Option Addr} {n m : Nat} {xs : List Value} {v' : Value} (h : AppRes (W.alloc o) base e size (.slice a 0 0) m xs v' W') (hm : m = n) : AppRes W base e size (.slice none 0 0) n xs v' W' := by
  subst hm
  have hr : roomOf (.slice a 0 0) = none := by cases a <;> rfl
  refine ⟨h.row, h.os, h.tape, h.output, ?_, fun k hk _ => ?_, fun k hk => ?_, ?_, h.sl⟩
  · have := h.size
    simp only [World.size_alloc] at this
    omega
  · rw [h.block k (by simp; omega) (by rw [hr]; simp)]
    exact Below.heap_alloc _ _ _ hk
  · rcases h.room k hk with q | q
    · rw [hr] at q; cases q
    · simp only [World.size_alloc] at q
      exact .inr ⟨by omega, q.2⟩
  · exact Keep.trans (Keep.of_eq (fun k hk => Below.heap_alloc _ _ _ hk)) h.keep
def CloneOk (P : Program) (f : FuncId) (e : TypeId) (size : Nat) : Prop := ∀ (W : World) (base : Nat) (a : Option Addr) (n c : Nat) (news : List Value), base ≤ W.heap.size → news.length = n * size → (0 < n → a.isSome = true) →
  (∀ b, a = some b → ∀ j u, news[j]? = some u → W.cell? (b.add j) = some u) → (∀ u ∈ news, u.oneCell' = true) → n ≤ 1000000 → Calls P f #[.slice a n c] W (fun en W' => ∃ v', en = .returned v' ∧ AppRes W base e size (.slice none 0 0) n news v' W')
def cClone (e : TypeId) (ks : List CK) (args : List V) (mem : Mem) (nx : Nat) : T OpR := match args with
  | [.v (.one (.z s))] => match srcX mem ks s with
    | some x => .obs [lenOk x] (.ret (.s0 (.own nx (.lit 0)), [(nx, .own e ks x (.lit 0))], nx + 1))
    | none => .stuck "Clone"
  | _ => .stuck "Clone"
theorem cClone_ok {ρ : Env} {f : FuncId} {e : TypeId} {ks : List CK} (hc : CloneOk P f e ks.length) : CtOne P ρ f (cClone e ks) := by
  intro args mem nx q hq hle σ W vals hr hfr hd
  unfold cClone at hq
  split at hq
  · rename_i s
    split at hq
    · rename_i x hx
      obtain ⟨ho, hq⟩ := T.res_obs hq
      obtain rfl := res_ret hq
      obtain ⟨u1, us, rfl, d1, d2⟩ := DL.cons_inv hd
      obtain rfl := DL.nil_inv d2
      have hlen := lenOk_spec (ho _ (List.mem_singleton.2 rfl))
      obtain ⟨a, n, c, xs, rfl, hsrc, hnb, _⟩ := srcX_spec hx d1 hr
      have hml := hsrc.len
      have hcalls := hc W ρ.w.heap.size a n c xs hr.base.size (by rw [hsrc.rows.1, ← hml]) hsrc.there hsrc.cell hsrc.rows.all_one (by omega)
      have hw : CallsIn Fence.wide 0 P f #[.slice a n c] W _ := callsIn_wide.2 hcalls
      refine CallsIn.mono (F := FR none) hw ?_
      rintro en W' ⟨v', rfl, happ⟩
      have hnx := hfr nx (Nat.le_refl _) (Nat.lt_succ_self _)
      have hnone : ∀ k, σ.h nx k = .none := fun k => by
        cases hk : σ.h nx k with
        | none => rfl
        | some y => exact absurd (.inr ⟨k, y, hk⟩) hnx
      rw [hml] at happ
      have hstep := step_say (ρ := ρ) (σ := σ) (W := W) (id := nx) (t := e) (ks := ks) (x := x) (ver := .lit 0) (v := .slice .none 0 0) (v' := v') (W' := W') (xs := xs) (fun i a hi => hr.lt i a hi) (hnone _) (fun u _ => hnone u) hr.inj (fun k hk => by cases hk) happ hsrc.rows.2 (by omega)
      obtain ⟨a', c', hv'⟩ := happ.sl
      exact ⟨_, _, rfl, ⟨⟨a', _, c', hv'⟩, As.say_self⟩, hstep, fun i hi => (say_has hi).imp id (fun h => ⟨by omega, by show i < nx + 1; omega⟩)⟩
    · exact hq.elim
  · exact hq.elim
end
end Go.Proofs.YtkjjkckcjgkhmaaGreat
