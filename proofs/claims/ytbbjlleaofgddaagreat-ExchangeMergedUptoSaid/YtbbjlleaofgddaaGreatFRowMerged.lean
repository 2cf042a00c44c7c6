/- Chapter 42: the row of ExchangeMerged, where what it reads is of bulk at most 1048576. -/
import Derived.Test.YtbbjlleaofgddaaGreatSG
import Derived.Test.YtbbjlleaofgddaaGreatSH
set_option linter.unusedSimpArgs false
set_option linter.unusedVariables false
namespace Go.Proofs.YtbbjlleaofgddaaGreat
open Go.ChangeShapes Go.WideShapes Go.ChangeAt Go.RowKit
theorem mrg_arg {W : World} {vals vs0 vs1 vs2 : List Value} {v0 v1 v2 : Value} {xs : List D} {b0 b1 b2 : Nat} (h : D8 W [z0, z0, z0] vals xs) (h0 : vals = v0 :: vs0) (h1 : vs0 = v1 :: vs1) (h2 : vs1 = v2 :: vs2) (k0 : ∀ rows, CK.rep W (.sl f7) v0 (.l rows) → rows.length * 2 ≤ b0) (k1 : ∀ rows, CK.rep W (.sl f7) v1 (.l rows) → rows.length * 2 ≤ b1) (k2 : ∀ rows, CK.rep W (.sl f7) v2 (.l rows) → rows.length * 2 ≤ b2) (hb : b0 + b1 + b2 ≤ 1048576) : b3D xs := by
  subst h0 h1 h2
  obtain ⟨u0, us0, d0, ds0, e0, rfl, ⟨x0, rfl, g0⟩, u1, us1, d1, ds1, e1, rfl, ⟨x1, rfl, g1⟩, u2, us2, d2, ds2, e2, rfl, ⟨x2, rfl, g2⟩, _⟩ := h
  simp only [List.cons.injEq] at e0
  obtain ⟨rfl, rfl⟩ := e0
  simp only [List.cons.injEq] at e1
  obtain ⟨rfl, rfl⟩ := e1
  simp only [List.cons.injEq] at e2
  obtain ⟨rfl, rfl⟩ := e2
  obtain ⟨r0, rfl, _⟩ := x9.1 g0
  obtain ⟨r1, rfl, _⟩ := x9.1 g1
  obtain ⟨r2, rfl, _⟩ := x9.1 g2
  have q0 := k0 r0 g0
  have q1 := k1 r1 g1
  have q2 := k2 r2 g2
  show r0.length + r1.length + r2.length ≤ 1000000
  omega
theorem small3 {H : Type} {d0 d1 d2 : DataW H} (h : Rows.uptoSmall H ([d0, d1, d2] ++ []) = true) : Rows.uptoBulk d0 + Rows.uptoBulk d1 + Rows.uptoBulk d2 ≤ 1048576 := by
  have h := of_decide_eq_true h
  simp only [List.append_nil, Rows.uptoBulkAll] at h
  omega
theorem bulk_nots {H : Type} {enc : TypeId × Value → H} {W : World} {sp : Nat → Bool} {held : Bool} {v : Value} {d : DataW H} {p : List MemPlace} (h : DataW.Trod enc Tryz.prog W 0 sp held 32 v d p) {rows : Rows} (hr : CK.rep W (.sl f7) v (.l rows)) : rows.length * 2 ≤ Rows.uptoBulk d :=
  b4K (e := 29) (by kernel_rfl) (by kernel_rfl) h hr
set_option maxRecDepth 100000 in
theorem exchangeMerged_lifted (os : Os) (started : os.Started) (H : Type) (enc : TypeId × Value → H) (F : Stop.Interp) :
    ReturnsInHanded {} Tryz.checked os 10 .any ((Rows.OpenSpec.upto Rows.exchangeMergedSpec).pre6 enc Tryz.prog Tryz.f10 Rows.exchangeMergedUptoRow.domain false) (((Rows.OpenSpec.upto Rows.exchangeMergedSpec).at F).post enc Tryz.prog Tryz.f10 false true false false) := by
  refine a2I (C := Tryz.checked) (s := Rows.OpenSpec.upto Rows.exchangeMergedSpec) rfl Tryz.own started (by kernel_rfl) Tryz.func10
    (OpenSpec.witness (enc := enc) (C := Tryz.checked) (s := Rows.OpenSpec.upto Rows.exchangeMergedSpec) rfl false ⟨#[], #[.slice none 0 0, .slice none 0 0, .slice none 0 0], []⟩ 8 (by kernel_rfl) (by kernel_rfl) (by kernel_rfl) (x := ([.nil, .nil, .nil], [], [])) (by kernel_rfl) (by kernel_rfl) (by kernel_rfl)) ?_
  intro W base args ds gs before hval0 hW hcnd hkk hsz _
  have hval : ∀ (j : Nat) t v, Tryz.f10.params[j]? = some t → args[j]? = some v → Value.okWide Tryz.prog W .any base t v := hval0
  have hW' := hW
  obtain ⟨p, q, hA0, hV, rfl, hfz, hnd⟩ := hW
  have hA : DataW.TrodAll enc Tryz.prog W 0 (fun _ => true) true Tryz.f10.params.toList args.toList ds p := hA0
  obtain ⟨rfl, rfl⟩ := trodVars_none hV
  have hsz : (DataW.weightsEach Tryz.prog Tryz.f10.params.toList ds).all (· ≤ reachBytes) = true := by have h0 := hsz; rw [List.append_nil] at h0; exact h0
  rw [Tryz.params10] at hA hval hsz
  have hAll := hA
  obtain ⟨xs, hxs⟩ := a8L (base := base) _ _ (by kernel_rfl) args.toList ds p hA (fun j t v h1 h2 => hval j t v (by simpa using h1) (by simpa using h2)) hsz
  obtain ⟨v0, vs0, d0, ds0, p0, q0, hargs0, rfl, rfl, h0, r0⟩ := trodAll_cons hA
  obtain ⟨v1, vs1, d1, ds1, p1, q1, hargs1, rfl, rfl, h1, r1⟩ := trodAll_cons r0
  obtain ⟨v2, vs2, d2, ds2, p2, q2, hargs2, rfl, rfl, h2, r2⟩ := trodAll_cons r1
  obtain ⟨hargs3, rfl, rfl⟩ := trodAll_nil r2
  have hcall := c0d W args.toList xs hxs (mrg_arg hxs hargs0 hargs1 hargs2 (fun rows hr => bulk_nots h0 hr) (fun rows hr => bulk_nots h1 hr) (fun rows hr => bulk_nots h2 hr) (small3 hkk))
  rw [Array.toArray_toList] at hcall
  refine hcall.mono fun e W' ⟨he, hw⟩ => ?_
  subst he
  exact ⟨_, rfl, a6S hW' (fun _ _ _ => trodAll_mk1 (shut_bool Tryz.underlying4 true)) (fun sp hsp => a1m Tryz.laidOut hw sp _ _ _ _ (by kernel_rfl) hAll (fun x hx => hW'.lt x (by simpa using hx)) (fun x hx => hsp x (by simpa using hx))) (fun _ _ => rfl) rfl hw
    (ok_one (by kernel_rfl) rfl (okWide_bool_mk Tryz.underlying4 true))⟩

theorem fA {a b : Bool} (h : a = true) (k : b = true) : (a && b) = true := by rw [h, k]; rfl
set_option maxHeartbeats 40000000 in
theorem closedFacts : joinedFacts Tryz.checked.prog 10 Tryz.f10 (Rows.OpenSpec.upto Rows.exchangeMergedSpec).bare Rows.exchangeMergedUptoRow = true := by
  unfold joinedFacts
  refine (fA (fA (fA (fA (fA (fA (fA (fA (fA (fA (fA (fA (fA (fA (fA (fA (fA (fA (fA (fA (fA (fA (fA (fA (fA (fA (fA (fA (fA (fA (fA ?_ ?_) ?_) ?_) ?_) ?_) ?_) ?_) ?_) ?_) ?_) ?_) ?_) ?_) ?_) ?_) ?_) ?_) ?_) ?_) ?_) ?_) ?_) ?_) ?_) ?_) ?_) ?_) ?_) ?_) ?_) ?_)
  all_goals as_aux_lemma => kernel_rfl
theorem exchangeMerged_holds : Rows.ExchangeMergedUptoSaid :=
  OpenClaim.holds_of_cond 10 Tryz.f10 rfl rfl rfl rfl rfl rfl rfl ⟨rfl, rfl, rfl, rfl, rfl⟩ rfl rfl rfl rfl rfl (by kernel_rfl) Tryz.func10 closedFacts
    (of_decide_eq_true (by kernel_rfl)) (by unfold Func.isWrapper; rw [if_neg (of_decide_eq_false (by kernel_rfl))]; exact ⟨rfl, rfl⟩)
    (fun os started H enc _ F => exchangeMerged_lifted os started H enc F)
#print axioms exchangeMerged_holds
end Go.Proofs.YtbbjlleaofgddaaGreat
