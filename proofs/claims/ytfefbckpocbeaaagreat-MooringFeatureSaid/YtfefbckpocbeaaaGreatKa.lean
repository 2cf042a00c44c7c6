/- What the functions of chapter 15 are known to do, for the symbolic executor. -/
import Derived.Test.YtfefbckpocbeaaaGreatZo
import Derived.Test.YtfefbckpocbeaaaGreatC
import Derived.Test.YtfefbckpocbeaaaGreatI
import Derived.Test.YtfefbckpocbeaaaGreatJg
namespace Go.Proofs.YtfefbckpocbeaaaGreat
open Go.RowKit

def aggI (v : Value) (k : Nat) : Int := match v with | .agg a => intIn a[k]? | _ => 0
def kfi : Nat → List Arg → Int
  | 0, [.i a, .i b, .i c, .i d, .i e, .i f, .i g] => (radiusF a b c d e f g).1
  | 1, [.i a, .i b, .i c, .i d, .i e, .i f, .i g] => (radiusF a b c d e f g).2
  | 3, [.i a, .i b, .i c, .i d, .i e, .i f, .i g, .i h] => (holdsF a b c d e f g h).2
  | 11, [.i a, .i b, .i c, .i d, .i e, .i f, .i g, .i h, .i i] => (mfeatF a b c d e f g h i).2
  | 12, [.i a, .i b, .i c, .i d, .i e, .i f, .i g] => (mboxF a b c d e f g).1
  | 13, [.i a, .i b, .i c, .i d, .i e, .i f, .i g] => (mboxF a b c d e f g).2.1
  | 14, [.i a, .i b, .i c, .i d, .i e, .i f, .i g] => (mboxF a b c d e f g).2.2.1
  | 15, [.i a, .i b, .i c, .i d, .i e, .i f, .i g] => (mboxF a b c d e f g).2.2.2.1
  | 16, [.i a, .i b, .i c, .i d, .i e, .i f, .i g] => (mboxF a b c d e f g).2.2.2.2
  | 17, [.i a, .i b, .i c, .i d, .i e] => (chainF a b c d e).1
  | 18, [.i a, .i b, .i c, .i d, .i e] => (chainF a b c d e).2
  | 20, [.i a, .i b, .i c, .i d, .i e, .i f, .i g, .i h, .i i, .i j, .i k] => (allowsF a b c d e f g h i j k).2
  | 100, [.i a, .i b, .i c, .i d, .i e, .i f, .i g, .i h, .i i] => aggI (mfeatF a b c d e f g h i).1 0
  | 101, [.i a, .i b, .i c, .i d, .i e, .i f, .i g, .i h, .i i] => aggI (mfeatF a b c d e f g h i).1 1
  | 102, [.i a, .i b, .i c, .i d, .i e, .i f, .i g, .i h, .i i] => aggI (mfeatF a b c d e f g h i).1 2
  | 103, [.i a, .i b, .i c, .i d, .i e, .i f, .i g, .i h, .i i] => aggI (mfeatF a b c d e f g h i).1 3
  | 104, [.i a, .i b, .i c, .i d, .i e, .i f, .i g, .i h, .i i] => aggI (mfeatF a b c d e f g h i).1 4
  | 106, [.i a, .i b, .i c, .i d, .i e, .i f, .i g, .i h, .i i] => aggI (mfeatF a b c d e f g h i).1 6
  | 107, [.i a, .i b, .i c, .i d, .i e, .i f, .i g, .i h, .i i] => aggI (mfeatF a b c d e f g h i).1 7
  | _, _ => 0
def kfb : Nat → List Arg → Bool
  | 2, [.i a, .i b, .i c, .i d, .i e, .i f, .i g, .i h] => (holdsF a b c d e f g h).1
  | 19, [.i a, .i b, .i c, .i d, .i e, .i f, .i g, .i h, .i i, .i j, .i k] => (allowsF a b c d e f g h i j k).1
  | 21, [.i a, .i b, .i c, .i d, .i e] => moorOk a b c d e
  | 22, [.i a, .i b, .i c, .i d, .i e] => buoyOk a b c d e
  | _, _ => false
def oI (s : Nat) (l : AL) : S := .z (.int .i64 (.fn s l))
def oB (s : Nat) (l : AL) : S := .z (.bool (.fn s l))
def cRadius := ctR [.agg 5, .agg 2] fun l => .tup [.one (oI 0 l), .one (oI 1 l)]
def cHolds := ctR [.agg 5, .i, .agg 2] fun l => .tup [.one (oB 2 l), .one (oI 3 l)]
def cFeature := ctR [.agg 5, .agg 2, .i, .i] fun l => .tup [.agg [oI 100 l, oI 101 l, oI 102 l, oI 103 l, oI 104 l, .z (.const (.slice none 0 0)), oI 106 l, oI 107 l, .z (.const (.slice none 0 0))], .one (oI 11 l)]
def cBox := ctR [.agg 5, .agg 2] fun l => .tup [.agg [oI 12 l, oI 13 l, oI 14 l, oI 15 l], .one (oI 16 l)]
def cChain := ctR [.agg 2, .agg 2, .i] fun l => .tup [.one (oI 17 l), .one (oI 18 l)]
def cAllows := ctR [.agg 5, .agg 2, .agg 4] fun l => .tup [.one (oB 19 l), .one (oI 20 l)]
def cValid := ctR [.agg 5] fun l => .v (.one (oB 21 l))
def cHead := ctR [] fun _ => bV (.lit true)
def ct15 : Ct := [(5, cHead), (6, cValid), (7, cValid), (8, cRadius), (9, cRadius), (10, cHolds), (11, cHolds),
  (12, cFeature), (13, cFeature), (15, cBox), (16, cBox), (17, cChain), (18, cChain), (19, cAllows), (20, cAllows)]

theorem mfeatF_form3 (ax ay dlo dhi ch tlo thi id sym : Int) : ∃ i1 i2 i3 i4 i5 i6 i7 e : Int,
    mfeatF ax ay dlo dhi ch tlo thi id sym = (.agg #[.int .i64 i1, .int .i64 i2, .int .i64 i3, .int .i64 i4, .int .i64 i5, .slice none 0 0, .int .i64 i6, .int .i64 i7, .slice none 0 0], e) := by
  unfold mfeatF
  split
  · split <;> exact ⟨_, _, _, _, _, _, _, _, rfl⟩
  · exact ⟨_, _, _, _, _, _, _, _, rfl⟩

theorem kfi_feat {a b c d e f g h i i1 i2 i3 i4 i5 i6 i7 x : Int} (q : mfeatF a b c d e f g h i = (.agg #[.int .i64 i1, .int .i64 i2, .int .i64 i3, .int .i64 i4, .int .i64 i5, .slice none 0 0, .int .i64 i6, .int .i64 i7, .slice none 0 0], x)) :
    let l := [Arg.i a, .i b, .i c, .i d, .i e, .i f, .i g, .i h, .i i]
    kfi 100 l = i1 ∧ kfi 101 l = i2 ∧ kfi 102 l = i3 ∧ kfi 103 l = i4 ∧ kfi 104 l = i5 ∧ kfi 106 l = i6 ∧ kfi 107 l = i7 ∧ kfi 11 l = x := by
  intro l
  have e1 : (mfeatF a b c d e f g h i).1 = _ := congrArg Prod.fst q
  have e2 : (mfeatF a b c d e f g h i).2 = _ := congrArg Prod.snd q
  refine ⟨?_, ?_, ?_, ?_, ?_, ?_, ?_, e2⟩
  · show aggI (mfeatF a b c d e f g h i).1 0 = i1; rw [e1]; rfl
  · show aggI (mfeatF a b c d e f g h i).1 1 = i2; rw [e1]; rfl
  · show aggI (mfeatF a b c d e f g h i).1 2 = i3; rw [e1]; rfl
  · show aggI (mfeatF a b c d e f g h i).1 3 = i4; rw [e1]; rfl
  · show aggI (mfeatF a b c d e f g h i).1 4 = i5; rw [e1]; rfl
  · show aggI (mfeatF a b c d e f g h i).1 6 = i6; rw [e1]; rfl
  · show aggI (mfeatF a b c d e f g h i).1 7 = i7; rw [e1]; rfl

section
variable {ρ : Env} (hi : ρ.fi = kfi) (hb : ρ.fb = kfb)
include hi in
theorem radius_ct {f : FuncId} (h : ∀ ax ay dlo dhi ch tlo thi w, Calls Tryz.prog f #[.agg #[.int .i64 ax, .int .i64 ay, .int .i64 dlo, .int .i64 dhi, .int .i64 ch], .agg #[.int .i64 tlo, .int .i64 thi]] w
      (Ret w (.tuple #[.int .i64 (radiusF ax ay dlo dhi ch tlo thi).1, .int .i64 (radiusF ax ay dlo dhi ch tlo thi).2]))) : CtOne Tryz.prog ρ f cRadius :=
  ctI_one (fun _ => rfl) fun es hl W => match es, hl with
    | [a, b, c, d, e, g, k], _ => by simp only [V.val, V2.val, S.val, S0.val, List.map, oI, oB, E.ev, B.ev, alE, List.foldr, AL.ev, hi]; exact h _ _ _ _ _ _ _ W
include hi hb in
theorem holds_ct {f : FuncId} (h : ∀ ax ay dlo dhi ch t px py w, Calls Tryz.prog f #[.agg #[.int .i64 ax, .int .i64 ay, .int .i64 dlo, .int .i64 dhi, .int .i64 ch], .int .i64 t, .agg #[.int .i64 px, .int .i64 py]] w
      (Ret w (.tuple #[.bool (holdsF ax ay dlo dhi ch t px py).1, .int .i64 (holdsF ax ay dlo dhi ch t px py).2]))) : CtOne Tryz.prog ρ f cHolds :=
  ctI_one (fun _ => rfl) fun es hl W => match es, hl with
    | [a, b, c, d, e, g, k, l], _ => by simp only [V.val, V2.val, S.val, S0.val, List.map, oI, oB, E.ev, B.ev, alE, List.foldr, AL.ev, hi, hb]; exact h _ _ _ _ _ _ _ _ W
include hi in
theorem feature_ct {f : FuncId} (h : ∀ ax ay dlo dhi ch tlo thi id sym w, Calls Tryz.prog f #[.agg #[.int .i64 ax, .int .i64 ay, .int .i64 dlo, .int .i64 dhi, .int .i64 ch], .agg #[.int .i64 tlo, .int .i64 thi], .int .i64 id, .int .i64 sym] w
      (Ret w (.tuple #[(mfeatF ax ay dlo dhi ch tlo thi id sym).1, .int .i64 (mfeatF ax ay dlo dhi ch tlo thi id sym).2]))) : CtOne Tryz.prog ρ f cFeature :=
  ctI_one (fun _ => rfl) fun es hl W => match es, hl with
    | [a, b, c, d, e, g, k, l, m], _ => by
      simp only [V.val, V2.val, S.val, S0.val, List.map, oI, oB, E.ev, B.ev, alE, List.foldr, AL.ev, hi]
      obtain ⟨i1, i2, i3, i4, i5, i6, i7, x, q⟩ := mfeatF_form3 (a.ev ρ) (b.ev ρ) (c.ev ρ) (d.ev ρ) (e.ev ρ) (g.ev ρ) (k.ev ρ) (l.ev ρ) (m.ev ρ)
      have := h (a.ev ρ) (b.ev ρ) (c.ev ρ) (d.ev ρ) (e.ev ρ) (g.ev ρ) (k.ev ρ) (l.ev ρ) (m.ev ρ) W
      rw [q] at this
      obtain ⟨q1, q2, q3, q4, q5, q6, q7, q8⟩ := kfi_feat q
      rw [q1, q2, q3, q4, q5, q6, q7, q8]
      exact this
include hi in
theorem box_ct {f : FuncId} (h : ∀ ax ay dlo dhi ch tlo thi w, Calls Tryz.prog f #[.agg #[.int .i64 ax, .int .i64 ay, .int .i64 dlo, .int .i64 dhi, .int .i64 ch], .agg #[.int .i64 tlo, .int .i64 thi]] w
      (Ret w (.tuple #[.agg #[.int .i64 (mboxF ax ay dlo dhi ch tlo thi).1, .int .i64 (mboxF ax ay dlo dhi ch tlo thi).2.1, .int .i64 (mboxF ax ay dlo dhi ch tlo thi).2.2.1, .int .i64 (mboxF ax ay dlo dhi ch tlo thi).2.2.2.1], .int .i64 (mboxF ax ay dlo dhi ch tlo thi).2.2.2.2]))) : CtOne Tryz.prog ρ f cBox :=
  ctI_one (fun _ => rfl) fun es hl W => match es, hl with
    | [a, b, c, d, e, g, k], _ => by simp only [V.val, V2.val, S.val, S0.val, List.map, oI, oB, E.ev, B.ev, alE, List.foldr, AL.ev, hi]; exact h _ _ _ _ _ _ _ W
include hi in
theorem chain_ct {f : FuncId} (h : ∀ dlo dhi tlo thi r w, Calls Tryz.prog f #[.agg #[.int .i64 dlo, .int .i64 dhi], .agg #[.int .i64 tlo, .int .i64 thi], .int .i64 r] w
      (Ret w (.tuple #[.int .i64 (chainF dlo dhi tlo thi r).1, .int .i64 (chainF dlo dhi tlo thi r).2]))) : CtOne Tryz.prog ρ f cChain :=
  ctI_one (fun _ => rfl) fun es hl W => match es, hl with
    | [a, b, c, d, e], _ => by simp only [V.val, V2.val, S.val, S0.val, List.map, oI, oB, E.ev, B.ev, alE, List.foldr, AL.ev, hi]; exact h _ _ _ _ _ W
include hi hb in
theorem allows_ct {f : FuncId} (h : ∀ ax ay dlo dhi ch tlo thi a b c d w, Calls Tryz.prog f #[.agg #[.int .i64 ax, .int .i64 ay, .int .i64 dlo, .int .i64 dhi, .int .i64 ch], .agg #[.int .i64 tlo, .int .i64 thi], .agg #[.int .i64 a, .int .i64 b, .int .i64 c, .int .i64 d]] w
      (Ret w (.tuple #[.bool (allowsF ax ay dlo dhi ch tlo thi a b c d).1, .int .i64 (allowsF ax ay dlo dhi ch tlo thi a b c d).2]))) : CtOne Tryz.prog ρ f cAllows :=
  ctI_one (fun _ => rfl) fun es hl W => match es, hl with
    | [a, b, c, d, e, g, k, l, m, n, o], _ => by simp only [V.val, V2.val, S.val, S0.val, List.map, oI, oB, E.ev, B.ev, alE, List.foldr, AL.ev, hi, hb]; exact h _ _ _ _ _ _ _ _ _ _ _ W
include hb in
theorem valid_ct {f : FuncId} (h : ∀ ax ay dlo dhi ch w, Calls Tryz.prog f #[.agg #[.int .i64 ax, .int .i64 ay, .int .i64 dlo, .int .i64 dhi, .int .i64 ch]] w (Ret w (.bool (moorOk ax ay dlo dhi ch)))) : CtOne Tryz.prog ρ f cValid :=
  ctI_one (fun _ => rfl) fun es hl W => match es, hl with
    | [a, b, c, d, e], _ => by simp only [V.val, V2.val, S.val, S0.val, List.map, oI, oB, E.ev, B.ev, alE, List.foldr, AL.ev, hb]; exact h _ _ _ _ _ W
theorem head_ct {f : FuncId} (h : ∀ w, Calls Tryz.prog f #[] w (Ret w (.bool true))) : CtOne Tryz.prog ρ f cHead :=
  ctI_one (fun _ => rfl) fun es hl W => match es, hl with | [], _ => h W
include hi hb in
theorem ct15_ok : CtOk Tryz.prog ct15 ρ :=
  .cons (head_ct head_true) <| .cons (valid_ct hb moor_valid) <| .cons (valid_ct hb r15_valid) <| .cons (radius_ct hi radius_any) <| .cons (radius_ct hi r15_radius) <| .cons (holds_ct hi hb holds_any) <| .cons (holds_ct hi hb r15_holds) <|
  .cons (feature_ct hi mfeat_any) <| .cons (feature_ct hi r15_feat) <| .cons (box_ct hi mbox_any) <| .cons (box_ct hi r15_box) <| .cons (chain_ct hi chain_any) <| .cons (chain_ct hi r15_chain) <| .cons (allows_ct hi hb allows_any) <| .cons (allows_ct hi hb r15_allows) .nil
end
end Go.Proofs.YtfefbckpocbeaaaGreat
