/- What came in, as data: arguments of integers, truth values, slices, structs, arrays. -/
import Derived.Test.YtinfmmofcadjgaaZo
import Derived.ChangeArms
import Derived.OpenShut
import Derived.SizedLaws
import Derived.DataReads
namespace Go.Proofs.Ytinfmmofcadjgaa
open Go.RowKit

/-- Types whose cells stand one behind the other, and whose elements take room. -/
def flatFs (P : Program) (f : TypeId → Bool) : Nat → List Field → Option Nat
  | off, [] => some off
  | off, x :: r => if Nat.beq x.offset off && f x.type then flatFs P f (off + P.cellsOf x.type) r else none
def flatB (P : Program) : Nat → TypeId → Bool
  | 0, _ => false
  | n + 1, t => match P.underlying t with
    | some (.int _) => Nat.beq (P.cellsOf t) 1
    | some .bool => Nat.beq (P.cellsOf t) 1
    | some (.slice e) => Nat.beq (P.cellsOf t) 1 && Nat.ble 1 (P.bytesOf e) && flatB P n e
    | some (.struct fs) => match flatFs P (flatB P n) 0 fs.toList with | some m => Nat.beq m (P.cellsOf t) | none => false
    | some (.array m e) => flatB P n e && Nat.beq (m * P.cellsOf e) (P.cellsOf t)
    | _ => false
theorem kinds_len {P : Program} : ∀ (n : Nat) (t : TypeId) (ks : List CK), kinds P n t = some ks → flatB P n t = true → ks.length = P.cellsOf t
  | 0, t, ks, h, _ => by simp [kinds] at h
  | n + 1, t, ks, h, hf => by
    unfold kinds at h
    unfold flatB at hf
    split at h
    · rename_i k hu
      rw [hu] at hf
      simp only at hf
      simp only [Option.some.injEq] at h
      subst h
      exact (natb hf).symm
    · rename_i hu
      rw [hu] at hf
      simp only at hf
      simp only [Option.some.injEq] at h
      subst h
      exact (natb hf).symm
    · rename_i e hu
      rw [hu] at hf
      simp only at hf
      simp only [Bool.and_eq_true] at hf
      simp only [Option.map_eq_some_iff] at h
      obtain ⟨l, _, rfl⟩ := h
      exact (natb hf.1.1).symm
    · rename_i fs hu
      rw [hu] at hf
      simp only at hf
      have key : ∀ (l : List Field) (off m : Nat) (ks : List CK), flatFs P (flatB P n) off l = some m → kindsL (kinds P n) l = some ks → off + ks.length = m := by
        intro l
        induction l with
        | nil => intro off m ks h1 h2; simp only [flatFs, Option.some.injEq] at h1; simp only [kindsL, Option.some.injEq] at h2; subst h1 h2; rfl
        | cons x l ih =>
          intro off m ks h1 h2
          simp only [flatFs] at h1
          simp only [kindsL] at h2
          split at h1
          · rename_i hc
            simp only [Bool.and_eq_true] at hc
            split at h2
            · rename_i a b ha hb
              simp only [Option.some.injEq] at h2
              subst h2
              have e1 := kinds_len n x.type a ha hc.2
              have e2 := ih _ _ _ h1 hb
              rw [List.length_append]
              omega
            · cases h2
          · cases h1
      split at hf
      · rename_i m hm
        have := key _ _ _ _ hm h
        have := natb hf
        omega
      · cases hf
    · rename_i m e hu
      rw [hu] at hf
      simp only at hf
      simp only [Bool.and_eq_true] at hf
      simp only [Option.map_eq_some_iff] at h
      obtain ⟨l, hl, rfl⟩ := h
      have e1 := kinds_len n e l hl hf.1
      have e2 := natb hf.2
      simp only [List.length_flatten, List.map_replicate, List.sum_replicate_nat, e1]
      exact e2
    · cases h
theorem reps_app {w : World} : ∀ {ks ks' : List CK} {vs vs' : List Value} {ds ds' : List D}, CK.reps w ks vs ds → CK.reps w ks' vs' ds' → CK.reps w (ks ++ ks') (vs ++ vs') (ds ++ ds')
  | [], ks', vs, vs', ds, ds', h, h' => by unfold CK.reps at h; rw [h.1, h.2]; exact h'
  | k :: ks, ks', vs, vs', ds, ds', h, h' => by
    unfold CK.reps at h
    obtain ⟨v, us, d, es, rfl, rfl, h1, h2⟩ := h
    show CK.reps w (k :: (ks ++ ks')) _ _
    unfold CK.reps
    exact ⟨v, us ++ vs', d, es ++ ds', rfl, rfl, h1, reps_app h2 h'⟩
theorem cells_of {w : World} {base : Nat} {a : Addr} {n : Nat} {cs : List Value} (h : w.cells? base a n = some cs) : cs.length = n ∧ ∀ (j : Nat) (v : Value), cs[j]? = some v → w.cell? (a.add j) = some v := by
  obtain ⟨_, h1, h2⟩ := World.cells?_some h
  refine ⟨h1, fun j v hj => ?_⟩
  have hj' : j < n := by have := (List.getElem?_eq_some_iff.1 hj).1; omega
  rw [h2 j hj', hj]
section
variable {H : Type} {enc : TypeId × Value → H} {P : Program} {w : World} {spare : Nat → Bool} {held : Bool}
theorem trod_rep : ∀ (n : Nat) (t : TypeId) (ks : List CK), kinds P n t = some ks → flatB P n t = true → ∀ (fuel : Nat) (cs : List Value) (d : DataW H) (ps : List MemPlace), DataW.trod enc P w 0 spare held fuel t cs = some (d, ps) →
    (d.weights P t).all (· ≤ reachBytes) = true → ∃ ds, CK.reps w ks cs ds
  | 0, t, ks, h, _, _, _, _, _, _, _ => by simp [kinds] at h
  | n + 1, t, ks, h, hf, fuel, cs, d, ps, ht, hw => by
    unfold kinds at h
    unfold flatB at hf
    split at h
    · rename_i k hu
      simp only [Option.some.injEq] at h
      subst h
      obtain ⟨m, rfl, _, _⟩ := DataW.trod_int hu ht
      refine ⟨[.i m], ?_⟩
      unfold CK.reps CK.reps CK.rep
      exact ⟨_, _, _, _, rfl, rfl, ⟨m, rfl, rfl⟩, rfl, rfl⟩
    · rename_i hu
      simp only [Option.some.injEq] at h
      subst h
      obtain ⟨m, rfl, _⟩ := DataW.trod_bool hu ht
      refine ⟨[.b m], ?_⟩
      unfold CK.reps CK.reps CK.rep
      exact ⟨_, _, _, _, rfl, rfl, ⟨m, rfl, rfl⟩, rfl, rfl⟩
    · rename_i e hu
      rw [hu] at hf
      simp only at hf
      simp only [Bool.and_eq_true] at hf
      obtain ⟨⟨_, f2⟩, f3⟩ := hf
      simp only [Option.map_eq_some_iff] at h
      obtain ⟨l, hl, rfl⟩ := h
      have one : ∀ (v : Value) (r : Rows), Sl w l v r false → ∃ ds, CK.reps w [.sl l] [v] ds := fun v r hs => ⟨[.l r], by
        unfold CK.reps CK.reps
        exact ⟨_, _, _, _, rfl, rfl, rep_sl.2 ⟨r, rfl, hs⟩, rfl, rfl⟩⟩
      rcases DataW.trod_slice hu ht with ⟨rfl, _⟩ | ⟨a, len, cap, elems, rest, m, _, rfl, hx, _, hlc, _, hlen, hel, _, _⟩
      · exact one _ [] (nil_sl w l)
      · simp only [Prod.mk.injEq] at hx
        obtain ⟨rfl, _⟩ := hx
        simp only [DataW.weights, hu, List.all_cons, Bool.and_eq_true, decide_eq_true_eq, List.all_append] at hw
        obtain ⟨hw1, hw2, _⟩ := hw
        have hkl := kinds_len n e l hl f3
        -- the elements' data
        have each : ∀ i, i < len → ∃ row vs, CK.reps w l vs row ∧ ∀ (j : Nat) (v : Value), vs[j]? = some v → w.cell? (a.add (i * l.length + j)) = some v := by
          intro i hi
          have h1 := hel i hi
          rw [List.getElem?_eq_getElem (by omega)] at h1
          simp only [Option.bind_eq_some_iff] at h1
          obtain ⟨vs, h2, h3⟩ := h1
          obtain ⟨c1, c2⟩ := cells_of h2
          have hwe : ∀ (l : List (DataW H)) (x : DataW H), x ∈ l → (DataW.weightsAll P e l).all (· ≤ reachBytes) = true → (x.weights P e).all (· ≤ reachBytes) = true := by
            intro l x hx hl
            induction l with
            | nil => simp at hx
            | cons y l ih =>
              simp only [DataW.weightsAll, List.all_append, Bool.and_eq_true] at hl
              rcases List.mem_cons.1 hx with e | hx
              · subst e; exact hl.1
              · exact ih hx hl.2
          obtain ⟨row, hrow⟩ := trod_rep n e l hl f3 m vs (elems[i]'(by omega)).1 (elems[i]'(by omega)).2 h3 (hwe _ _ (List.mem_map.2 ⟨_, List.getElem_mem (by omega), rfl⟩) hw2)
          refine ⟨row, vs, hrow, fun j v hj => ?_⟩
          rw [← add_add, hkl]
          exact c2 j v hj
        obtain ⟨rows, hr1, hr2⟩ : ∃ rows : Rows, rows.length = len ∧ ∀ i row, rows[i]? = some row → ∃ vs, CK.reps w l vs row ∧ ∀ (j : Nat) (v : Value), vs[j]? = some v → w.cell? (a.add (i * l.length + j)) = some v := by
          have : ∀ k, k ≤ len → ∃ rows : Rows, rows.length = k ∧ ∀ i row, rows[i]? = some row → ∃ vs, CK.reps w l vs row ∧ ∀ (j : Nat) (v : Value), vs[j]? = some v → w.cell? (a.add (i * l.length + j)) = some v := by
            intro k
            induction k with
            | zero => intro _; exact ⟨[], rfl, fun i row h => by simp at h⟩
            | succ k ih =>
              intro hk
              obtain ⟨rows, e1, e2⟩ := ih (by omega)
              obtain ⟨row, vs, e3, e4⟩ := each k (by omega)
              refine ⟨rows ++ [row], by simp [e1], fun i row' hi => ?_⟩
              rcases Nat.lt_or_ge i k with q | q
              · rw [List.getElem?_append_left (by omega)] at hi
                exact e2 i row' hi
              · rw [List.getElem?_append_right (by omega)] at hi
                have hik : i = k := by
                  rcases Nat.lt_or_ge k i with q2 | q2
                  · rw [List.getElem?_eq_none (by simp; omega)] at hi; simp at hi
                  · omega
                subst hik
                rw [e1, Nat.sub_self] at hi
                simp only [List.getElem?_cons_zero, Option.some.injEq] at hi
                subst hi
                exact ⟨vs, e3, e4⟩
          exact this len (Nat.le_refl _)
        refine one _ rows ⟨some a, len, cap, rfl, ⟨hr1, hlc, ?_, fun _ => rfl, fun b hb => ?_⟩, by simp⟩
        · have f2 := ble_le f2
          simp only [List.length_map] at hw1
          have : elems.length ≤ (elems.length + rest.length) * P.bytesOf e := Nat.le_trans (Nat.le_add_right _ _) (Nat.le_mul_of_pos_right _ f2)
          have hb : reachBytes < 281474976710656 := by decide
          omega
        · simp only [Option.some.injEq] at hb
          subst hb
          exact hr2
    · rename_i fs hu
      rw [hu] at hf
      simp only at hf
      split at hf
      · rename_i mm hm
        have hmm := natb hf
        obtain ⟨xs, m, _, hx, hcl, hxl, hxs⟩ := DataW.trod_struct hu ht
        simp only [Prod.mk.injEq] at hx
        obtain ⟨rfl, _⟩ := hx
        simp only [DataW.weights, hu] at hw
        have key : ∀ (l : List Field) (off mm i : Nat) (ks : List CK) (ys : List (DataW H × List MemPlace)), flatFs P (flatB P n) off l = some mm → kindsL (kinds P n) l = some ks → fs.toList.drop i = l → xs.drop i = ys →
            (DataW.weightsEach P (l.map (·.type)) (ys.map (·.1))).all (· ≤ reachBytes) = true → mm ≤ cs.length → ∃ ds, CK.reps w ks ((cs.drop off).take (mm - off)) ds := by
          intro l
          induction l with
          | nil =>
            intro off mm i ks ys h1 h2 _ _ _ _
            simp only [flatFs, Option.some.injEq] at h1
            simp only [kindsL, Option.some.injEq] at h2
            subst h1 h2
            exact ⟨[], by unfold CK.reps; simp⟩
          | cons x l ih =>
            intro off mm i ks ys h1 h2 h3 h4 h5 h6
            simp only [flatFs] at h1
            simp only [kindsL] at h2
            split at h1
            · rename_i hc
              simp only [Bool.and_eq_true] at hc
              have hoff := natb hc.1
              split at h2
              · rename_i a b ha hb
                simp only [Option.some.injEq] at h2
                subst h2
                have hi : fs[i]? = some x := by
                  have : (fs.toList.drop i)[0]? = some x := by rw [h3]; rfl
                  rw [List.getElem?_drop] at this
                  simpa using this
                have hlen : i < xs.length := by rw [hxl]; exact (Array.getElem?_eq_some_iff.1 hi).1
                have h7 := hxs i x hi
                rw [List.getElem?_eq_getElem hlen, hoff] at h7
                cases ys with
                | nil => exfalso; have := congrArg List.length h4; simp at this; omega
                | cons y ys =>
                  have hy : xs[i] = y := by
                    have : (xs.drop i)[0]? = some y := by rw [h4]; rfl
                    rw [List.getElem?_drop] at this
                    simpa [List.getElem?_eq_getElem hlen] using this
                  simp only [List.map_cons, DataW.weightsEach, List.all_append, Bool.and_eq_true] at h5
                  rw [hy] at h7
                  obtain ⟨d1, e1⟩ := trod_rep n x.type a ha hc.2 m _ y.1 y.2 h7 h5.1
                  have hka := kinds_len n x.type a ha hc.2
                  obtain ⟨d2, e2⟩ := ih (off + P.cellsOf x.type) mm (i + 1) b ys h1 hb (by rw [← List.drop_drop, h3]; rfl) (by rw [← List.drop_drop, h4]; rfl) h5.2 h6
                  have hle : off + P.cellsOf x.type ≤ mm := by
                    have : ∀ (l : List Field) (o m : Nat), flatFs P (flatB P n) o l = some m → o ≤ m := by
                      intro l
                      induction l with
                      | nil => intro o m h; simp only [flatFs, Option.some.injEq] at h; omega
                      | cons z l ihl =>
                        intro o m h
                        simp only [flatFs] at h
                        split at h
                        · have := ihl _ _ h; omega
                        · cases h
                    exact this _ _ _ h1
                  refine ⟨d1 ++ d2, ?_⟩
                  have e3 := reps_app e1 e2
                  have e4 : (cs.drop off).take (P.cellsOf x.type) ++ (cs.drop (off + P.cellsOf x.type)).take (mm - (off + P.cellsOf x.type)) = (cs.drop off).take (mm - off) := by
                    rw [← List.drop_drop, show mm - off = P.cellsOf x.type + (mm - (off + P.cellsOf x.type)) by omega, List.take_add]
                  rw [e4] at e3
                  exact e3
              · cases h2
            · cases h1
        obtain ⟨ds, hd⟩ := key fs.toList 0 mm 0 ks xs hm h rfl rfl hw (by omega)
        refine ⟨ds, ?_⟩
        rw [List.drop_zero, Nat.sub_zero, List.take_of_length_le (by omega)] at hd
        exact hd
      · cases hf
    · rename_i mm e hu
      rw [hu] at hf
      simp only at hf
      simp only [Bool.and_eq_true] at hf
      obtain ⟨f1, f2⟩ := hf
      have f2 := natb f2
      simp only [Option.map_eq_some_iff] at h
      obtain ⟨l, hl, rfl⟩ := h
      obtain ⟨xs, m, _, hx, hcl, hxl, hxs⟩ := DataW.trod_array hu ht
      simp only [Prod.mk.injEq] at hx
      obtain ⟨rfl, _⟩ := hx
      simp only [DataW.weights, hu] at hw
      have hkl := kinds_len n e l hl f1
      have hwe : ∀ (l : List (DataW H)) (x : DataW H), x ∈ l → (DataW.weightsAll P e l).all (· ≤ reachBytes) = true → (x.weights P e).all (· ≤ reachBytes) = true := by
        intro l x hx hl
        induction l with
        | nil => simp at hx
        | cons y l ih =>
          simp only [DataW.weightsAll, List.all_append, Bool.and_eq_true] at hl
          rcases List.mem_cons.1 hx with e | hx
          · subst e; exact hl.1
          · exact ih hx hl.2
      have : ∀ k, k ≤ mm → ∃ ds, CK.reps w (List.replicate k l).flatten (cs.take (k * P.cellsOf e)) ds := by
        intro k
        induction k with
        | zero => intro _; exact ⟨[], by simp [CK.reps]⟩
        | succ k ih =>
          intro hk
          obtain ⟨d1, e1⟩ := ih (by omega)
          have h7 := hxs k (by omega)
          rw [List.getElem?_eq_getElem (by omega)] at h7
          obtain ⟨d2, e2⟩ := trod_rep n e l hl f1 m _ (xs[k]'(by omega)).1 (xs[k]'(by omega)).2 h7 (hwe _ _ (List.mem_map.2 ⟨_, List.getElem_mem (by omega), rfl⟩) hw)
          refine ⟨d1 ++ d2, ?_⟩
          rw [List.replicate_succ', List.flatten_append, Nat.succ_mul, List.take_add]
          have := reps_app e1 e2
          simpa using this
      obtain ⟨ds, hd⟩ := this mm (Nat.le_refl _)
      rw [List.take_of_length_le (by omega)] at hd
      exact ⟨ds, hd⟩
    · cases h
end
end Go.Proofs.Ytinfmmofcadjgaa
