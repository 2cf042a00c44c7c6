/- MC, merged: Ba, Bm, Ca, TCb, Cb, Cc0, TCc, Cc, Cd, Ce0, TCe, Ce, Cf0, TCf, Cf. -/
import Derived.Test.YtbbjlleaofgddaaGreatProg
import Derived.WalkKit
import Derived.WalkSpells
import Derived.WalkLawsBesides
import Derived.Handy
import Derived.Lib.Hide
import Derived.Deep.RegionHeld3
import Derived.Shelf.Bits.Mul64
import Derived.Test.YtbbjlleaofgddaaGreatMK
set_option linter.unusedSimpArgs false
set_option linter.unusedVariables false
/- Shared small lemmas for walks. -/
namespace Go.Proofs.YtbbjlleaofgddaaGreat
open Go.RowKit

theorem run_max2 {P : Program} (w : World) (ts : Array TypeId) (t : TypeId) (k k' : IntKind) (x y : Int) : (Builtin.max_ ts t #[.int k x, .int k' y]).run P w = .ok (.int k (max x y)) w := by
  rw [run_max_int2]; congr 2; split <;> omega
theorem run_min2 {P : Program} (w : World) (ts : Array TypeId) (t : TypeId) (k k' : IntKind) (x y : Int) : (Builtin.min_ ts t #[.int k x, .int k' y]).run P w = .ok (.int k (min x y)) w := by
  rw [run_min_int2]; congr 2; split <;> omega
attribute [local go_sem high] run_max2 run_min2

def Ret (w : World) (v : Value) (e : Ending) (w' : World) : Prop := e = .returned v ∧ Below w.heap.size w w'

theorem bcell {W w1 : World} (hb : Below W.heap.size W w1) : (∀ b o, b < W.heap.size → w1.cell? ⟨b, o, none⟩ = W.cell? ⟨b, o, none⟩) ∧ (∀ b o, b < W.heap.size → w1.frozen? ⟨b, o, none⟩ = W.frozen? ⟨b, o, none⟩) :=
  ⟨fun b o h => hb.cell (p := ⟨b, o, none⟩) h, fun b o h => hb.frozen (p := ⟨b, o, none⟩) h⟩

theorem bcellK {B K : Nat} {W w1 : World} (hb : Below W.heap.size W w1) (hk : B + K ≤ W.heap.size) : (∀ b o, b < B + K → w1.cell? ⟨b, o, none⟩ = W.cell? ⟨b, o, none⟩) ∧ (∀ b o, b < B + K → w1.frozen? ⟨b, o, none⟩ = W.frozen? ⟨b, o, none⟩) :=
  ⟨fun b o h => hb.cell (p := ⟨b, o, none⟩) (Nat.lt_of_lt_of_le h hk), fun b o h => hb.frozen (p := ⟨b, o, none⟩) (Nat.lt_of_lt_of_le h hk)⟩
theorem bcellO {B : Nat} {W w1 : World} (hb : Below W.heap.size W w1) (hk : B ≤ W.heap.size) : (∀ b o, b < B → w1.cell? ⟨b, o, none⟩ = W.cell? ⟨b, o, none⟩) ∧ (∀ b o, b < B → w1.frozen? ⟨b, o, none⟩ = W.frozen? ⟨b, o, none⟩) :=
  ⟨fun b o h => hb.cell (p := ⟨b, o, none⟩) (Nat.lt_of_lt_of_le h hk), fun b o h => hb.frozen (p := ⟨b, o, none⟩) (Nat.lt_of_lt_of_le h hk)⟩

theorem sk_refl (W : World) (n : Nat) : Below W.heap.size W W ∧ ∀ b o, b < n → W.cell? ⟨b, o, none⟩ = W.cell? ⟨b, o, none⟩ := ⟨Below.refl _ _, fun _ _ _ => rfl⟩
theorem sk_dr {W w' : World} {n : Nat} (h : Below W.heap.size W w' ∧ ∀ b o, b < n → w'.cell? ⟨b, o, none⟩ = W.cell? ⟨b, o, none⟩) : Below W.heap.size W w'.drew ∧ ∀ b o, b < n → w'.drew.cell? ⟨b, o, none⟩ = W.cell? ⟨b, o, none⟩ := ⟨h.1.drew, h.2⟩
theorem sk_step {W w' w'' : World} {n : Nat} (hb : Below w'.heap.size w' w'') (h : Below W.heap.size W w' ∧ ∀ b o, b < n → w'.cell? ⟨b, o, none⟩ = W.cell? ⟨b, o, none⟩) (hn : n ≤ W.heap.size) :
    Below W.heap.size W w'' ∧ ∀ b o, b < n → w''.cell? ⟨b, o, none⟩ = W.cell? ⟨b, o, none⟩ :=
  ⟨h.1.trans (hb.mono h.1.size), fun b o hbn => (hb.cell (p := ⟨b, o, none⟩) (Nat.lt_of_lt_of_le hbn (Nat.le_trans hn h.1.size))).trans (h.2 b o hbn)⟩

theorem sk_alloc {W w' : World} {n : Nat} {o : Obj} (h : Below W.heap.size W w' ∧ ∀ b o, b < n → w'.cell? ⟨b, o, none⟩ = W.cell? ⟨b, o, none⟩) (hn : n ≤ W.heap.size) :
    Below W.heap.size W (w'.alloc o) ∧ ∀ b o', b < n → (w'.alloc o).cell? ⟨b, o', none⟩ = W.cell? ⟨b, o', none⟩ :=
  ⟨h.1.alloc h.1.size o, fun b o' hbn => (World.cell?_alloc_lt _ _ _ (show b < w'.heap.size from Nat.lt_of_lt_of_le hbn (Nat.le_trans hn h.1.size))).trans (h.2 b o' hbn)⟩
theorem sk_set {W w' : World} {n : Nat} {a : Addr} {v : Value} (h : Below W.heap.size W w' ∧ ∀ b o, b < n → w'.cell? ⟨b, o, none⟩ = W.cell? ⟨b, o, none⟩) (hn : n ≤ W.heap.size) (ha : W.heap.size ≤ a.block) :
    Below W.heap.size W (w'.setCell a v) ∧ ∀ b o', b < n → (w'.setCell a v).cell? ⟨b, o', none⟩ = W.cell? ⟨b, o', none⟩ :=
  ⟨h.1.setCell ha v, fun b o' hbn => (World.cell?_of_block (Below.heap_setCell w' a v b (by show b ≠ a.block; omega))).trans (h.2 b o' hbn)⟩

theorem tr0 {X a b : Nat} (f : X < a) (h : a ≤ b) : X < b := by omega
theorem tr1 {X a b : Nat} (f : X < a) (h : a + 1 ≤ b) : X < b := by omega
theorem tr2 {X a b : Nat} (f : X < a) (h : a + 1 + 1 ≤ b) : X < b := by omega
theorem fr1 {a b : Nat} (h : a + 1 ≤ b) : a < b := h
theorem fr2 {a b : Nat} (h : a + 1 + 1 ≤ b) : a + 1 < b ∧ a < b := by omega

theorem rb {a b : Bool} (h : (a = true) ↔ (b = true)) : Ending.returned (.bool a) = .returned (.bool b) := by rw [Bool.eq_iff_iff.2 h]

theorem sq_bound (x b : Int) (h1 : -b ≤ x) (h2 : x ≤ b) : 0 ≤ x * x ∧ x * x ≤ b * b := by
  have hb : 0 ≤ b := by omega
  rcases Int.le_total 0 x with h | h
  · exact ⟨Int.mul_nonneg h h, Int.mul_le_mul h2 h2 h hb⟩
  · have e : x * x = (-x) * (-x) := by rw [Int.neg_mul_neg]
    rw [e]
    exact ⟨Int.mul_nonneg (by omega) (by omega), Int.mul_le_mul (by omega) (by omega) (by omega) hb⟩

end Go.Proofs.YtbbjlleaofgddaaGreat
/- The walks of bits.Mul64 and plane.most. -/
namespace Go.Proofs.YtbbjlleaofgddaaGreat
open Go.RowKit
end Go.Proofs.YtbbjlleaofgddaaGreat
/- Chapter 38: contracts for the executor: plane.most. -/
namespace Go.Proofs.YtbbjlleaofgddaaGreat
open Go.RowKit

def i4 : List Sh := [.one (.int .i64), .one (.int .i64), .one (.int .i64), .one (.int .i64)]
def nn (e : E) : List Ob := [.tru (.cmpS .leq (.lit 0) e), .tru (.cmpS .lss e (.lit 9223372036854775808))]
def isLit : E → Bool | .lit _ => true | _ => false
def oMost (al : AL) : T V := match al with
  | .i a (.i b (.i c (.i d .nil))) => T.obs (nn a ++ nn b ++ nn c ++ nn d) (.ret (bV (match a, b, c, d with | .lit x, .lit y, .lit z, .lit u => .lit (decide (x * y ≤ z * u)) | _, _, _, _ => .fn 0 al)))
  | _ => .stuck "most"
def cMost := ctD i4 oMost
end Go.Proofs.YtbbjlleaofgddaaGreat
/- Chapter 38: trees of package plane, from the ground. -/
namespace Go.Proofs.YtbbjlleaofgddaaGreat
open Go.RowKit
def ct0 : Ct := []
def pt : Sh := .agg [.int .i64, .int .i64]
def it : Sh := .one (.int .i64)
-- term trValid: call Tryz.prog ct0 (Lt.of []) 100 126 (symArgs 0 [pt]) [] 0
def trValid : TT OpR :=
(.ite (.cmp .leq (.mx (.var 0) (.var 1)) (.lit 1000000))
 (.ret ((.v (.one (.z (.bool (.cmp .geq (.mn (.var 0) (.var 1)) (.lit (-1000000))))))), [], 1))
 (.ret ((.v (.one (.z (.bool (.lit false))))), [], 1)))
-- end trValid
set_option maxRecDepth 100000 in
theorem trValid_is : T.norm 0 (call Tryz.prog ct0 (Lt.of []) 100 126 (symArgs 0 [pt]) [] 0) TT.ret = trValid := by kernel_rfl
theorem trValid_low : trValid.low 1000 = true := by kernel_rfl
-- term trTurn0: call Tryz.prog ct0 (Lt.of []) 100 174 (symArgs 0 [pt, pt, pt]) [] 0
def trTurn0 : TT OpR :=
(.ite (.cmp .lss (.ar .sub .i64 (.ar .mul .i64 (.ar .sub .i64 (.var 2) (.var 0)) (.ar .sub .i64 (.var 5) (.var 1))) (.ar .mul .i64 (.ar .sub .i64 (.var 3) (.var 1)) (.ar .sub .i64 (.var 4) (.var 0)))) (.lit 0))
 (.ret ((.v (.one (.z (.int .i64 (.lit (-1)))))), [], 11))
 (.ite (.cmp .gtr (.ar .sub .i64 (.ar .mul .i64 (.ar .sub .i64 (.var 2) (.var 0)) (.ar .sub .i64 (.var 5) (.var 1))) (.ar .mul .i64 (.ar .sub .i64 (.var 3) (.var 1)) (.ar .sub .i64 (.var 4) (.var 0)))) (.lit 0))
 (.ret ((.v (.one (.z (.int .i64 (.lit 1))))), [], 11))
 (.ret ((.v (.one (.z (.int .i64 (.lit 0))))), [], 11))))
-- end trTurn0
set_option maxRecDepth 100000 in
theorem trTurn0_is : T.norm 0 (call Tryz.prog ct0 (Lt.of []) 100 174 (symArgs 0 [pt, pt, pt]) [] 0) TT.ret = trTurn0 := by kernel_rfl
theorem trTurn0_low : trTurn0.low 1000 = true := by kernel_rfl
end Go.Proofs.YtbbjlleaofgddaaGreat
/- Chapter 38: what package plane computes, from the ground. -/
namespace Go.Proofs.YtbbjlleaofgddaaGreat
open Go.RowKit

def iAt (ds : List D) (k : Nat) : Int := (ds.getD k (.i 0)).int
def bAt (ds : List D) (k : Nat) : Bool := (ds.getD k (.i 0)).bool
def rAt (ds : List D) (k : Nat) : Rows := (ds.getD k (.i 0)).rows
theorem envOf_i (I : Interp) (W : World) (ds : List D) (k : Nat) : (envOf I W ds).i k = iAt ds k := rfl
theorem envOf_b (I : Interp) (W : World) (ds : List D) (k : Nat) : (envOf I W ds).b k = bAt ds k := rfl
theorem envOf_d (I : Interp) (W : World) (ds : List D) (k : Nat) : (envOf I W ds).d k = rAt ds k := rfl

theorem and_f (a b : Bool) : ((a && b) = false) = ¬ (a = true ∧ b = true) := by cases a <;> cases b <;> simp
def lg (r : Rows) (i : Int) (j : Nat) : Int := (cellAt r i j).int
def lb (r : Rows) (i : Int) (j : Nat) : Bool := (cellAt r i j).bool
def lr (r : Rows) (i : Int) (j : Nat) : Rows := (cellAt r i j).rows
theorem cell_lg (r : Rows) (i : Int) (j : Nat) : (cellAt r i j).int = lg r i j := rfl
theorem cell_lb (r : Rows) (i : Int) (j : Nat) : (cellAt r i j).bool = lb r i j := rfl
theorem cell_lr (r : Rows) (i : Int) (j : Nat) : (cellAt r i j).rows = lr r i j := rfl
def cmpP (o : BinOp) (a b : Int) : Prop :=
  match o with
  | .eql => a = b | .neq => a ≠ b | .lss => a < b | .leq => a ≤ b | .gtr => b < a | .geq => b ≤ a | _ => False
theorem cmp_t (o : BinOp) (a b : Int) : (cmpEv o a b = true) = cmpP o a b := by cases o <;> simp [cmpEv, cmpP]
theorem cmp_f (o : BinOp) (a b : Int) : (cmpEv o a b = false) = ¬ cmpP o a b := by cases o <;> simp [cmpEv, cmpP]

def mostB : List D → Bool
  | [.i a, .i b, .i c, .i d] => decide (a * b ≤ c * d)
  | _ => false
def I0 : Interp := { fi := fun _ _ => 0, fb := fun n l => match n with | 0 => mostB l | _ => false, fd := fun _ _ => [] }

/-! ### plane.most -/
theorem nn_ok {ρ : Env} {e : E} (h : ∀ o ∈ nn e, o.ok ρ) : 0 ≤ e.ev ρ ∧ e.ev ρ < 9223372036854775808 := by
  have h1 := h _ (List.mem_cons_self ..)
  have h2 := h _ (List.mem_cons_of_mem _ (List.mem_cons_self ..))
  simp only [Ob.ok, B.cmpS_ev, cmp_t, cmpP, E.ev] at h1 h2
  exact ⟨h1, h2⟩
/-! ### plane.Valid, plane.turn, plane.near -/
def placeB (x y : Int) : Bool := decide (-1000000 ≤ x ∧ x ≤ 1000000 ∧ -1000000 ≤ y ∧ y ≤ 1000000)
theorem ct0_ok {ρ : Env} (h : ρ.has I0) : CtOk Tryz.prog ρ ct0 := .nil
theorem gValid : Gives Tryz.prog 126 [pt] (fun ds => .bool (placeB (iAt ds 0) (iAt ds 1))) := by
  refine GivesIf.all (fn_gives I0 (by kernel_rfl) (fun ρ h => ct0_ok h) (by kernel_rfl) trValid_is trValid_low (by decide) (fun W vals ds _ _ => ?_))
  simp only [trValid, TT.sat_ret, TT.sat_ite, B.ev, E.ev, cmp_t, cmp_f, V.plain, V2.plain, S.plain, S0.plain, V.val, V2.val, S.val, S0.val, envOf_i, true_and, cmpP]
  refine ⟨fun h => congrArg Value.bool ?_, fun h => congrArg Value.bool ?_⟩
  · rw [Bool.eq_iff_iff, cmp_t]
    simp only [cmpP, placeB, decide_eq_true_eq]
    omega
  · rw [Bool.eq_iff_iff]
    simp only [placeB, decide_eq_true_eq, Bool.false_eq_true, false_iff]
    omega
def crossI (ax ay bx by' cx cy : Int) : Int := (bx - ax) * (cy - ay) - (by' - ay) * (cx - ax)
def sgn (n : Int) : Int := if n < 0 then -1 else if n > 0 then 1 else 0
def turnI (ax ay bx by' cx cy : Int) : Int := sgn (crossI ax ay bx by' cx cy)
theorem wrap_in (n : Int) (h1 : -9223372036854775808 ≤ n) (h2 : n < 9223372036854775808) : IntKind.i64.wrap n = n := IntWalk.i64_in _ (by omega)
theorem mul_abs {a b A B : Int} (ha : -A ≤ a) (ha' : a ≤ A) (hb : -B ≤ b) (hb' : b ≤ B) : -(A * B) ≤ a * b ∧ a * b ≤ A * B := by
  have hA : 0 ≤ A := by omega
  have hB : 0 ≤ B := by omega
  have h1 : 0 ≤ (A - a) * (B + b) := Int.mul_nonneg (by omega) (by omega)
  have h2 : 0 ≤ (A + a) * (B - b) := Int.mul_nonneg (by omega) (by omega)
  have h3 : 0 ≤ (A - a) * (B - b) := Int.mul_nonneg (by omega) (by omega)
  have h4 : 0 ≤ (A + a) * (B + b) := Int.mul_nonneg (by omega) (by omega)
  simp only [Int.sub_mul, Int.add_mul, Int.mul_sub, Int.mul_add] at h1 h2 h3 h4
  omega
theorem w_sub {a b : Int} (ha : -1000000 ≤ a ∧ a ≤ 1000000) (hb : -1000000 ≤ b ∧ b ≤ 1000000) : IntKind.i64.wrap (a - b) = a - b := wrap_in _ (by omega) (by omega)
theorem w_mul {a b c d : Int} (ha : -1000000 ≤ a ∧ a ≤ 1000000) (hb : -1000000 ≤ b ∧ b ≤ 1000000) (hc : -1000000 ≤ c ∧ c ≤ 1000000) (hd : -1000000 ≤ d ∧ d ≤ 1000000) :
    IntKind.i64.wrap ((a - b) * (c - d)) = (a - b) * (c - d) ∧ -4000000000000 ≤ (a - b) * (c - d) ∧ (a - b) * (c - d) ≤ 4000000000000 := by
  have := mul_abs (a := a - b) (b := c - d) (A := 2000000) (B := 2000000) (by omega) (by omega) (by omega) (by omega)
  exact ⟨wrap_in _ (by omega) (by omega), by omega, by omega⟩
theorem w_mul1 {a b c d : Int} (ha : -1000000 ≤ a ∧ a ≤ 1000000) (hb : -1000000 ≤ b ∧ b ≤ 1000000) (hc : -1000000 ≤ c ∧ c ≤ 1000000) (hd : -1000000 ≤ d ∧ d ≤ 1000000) :
    IntKind.i64.wrap ((a - b) * (c - d)) = (a - b) * (c - d) := (w_mul ha hb hc hd).1
theorem w_add {a b c d e f g h : Int} (ha : -1000000 ≤ a ∧ a ≤ 1000000) (hb : -1000000 ≤ b ∧ b ≤ 1000000) (hc : -1000000 ≤ c ∧ c ≤ 1000000) (hd : -1000000 ≤ d ∧ d ≤ 1000000)
    (he : -1000000 ≤ e ∧ e ≤ 1000000) (hf : -1000000 ≤ f ∧ f ≤ 1000000) (hg : -1000000 ≤ g ∧ g ≤ 1000000) (hh : -1000000 ≤ h ∧ h ≤ 1000000) :
    IntKind.i64.wrap ((a - b) * (c - d) + (e - f) * (g - h)) = (a - b) * (c - d) + (e - f) * (g - h) := by
  have := w_mul ha hb hc hd
  have := w_mul he hf hg hh
  exact wrap_in _ (by omega) (by omega)
theorem w_crs {a b c d e f g h : Int} (ha : -1000000 ≤ a ∧ a ≤ 1000000) (hb : -1000000 ≤ b ∧ b ≤ 1000000) (hc : -1000000 ≤ c ∧ c ≤ 1000000) (hd : -1000000 ≤ d ∧ d ≤ 1000000)
    (he : -1000000 ≤ e ∧ e ≤ 1000000) (hf : -1000000 ≤ f ∧ f ≤ 1000000) (hg : -1000000 ≤ g ∧ g ≤ 1000000) (hh : -1000000 ≤ h ∧ h ≤ 1000000) :
    IntKind.i64.wrap ((a - b) * (c - d) - (e - f) * (g - h)) = (a - b) * (c - d) - (e - f) * (g - h) ∧ IntKind.i64.wrap (0 - ((a - b) * (c - d) - (e - f) * (g - h))) = 0 - ((a - b) * (c - d) - (e - f) * (g - h)) := by
  have := w_mul ha hb hc hd
  have := w_mul he hf hg hh
  exact ⟨wrap_in _ (by omega) (by omega), wrap_in _ (by omega) (by omega)⟩
theorem w_sq {d : Int} (hd : 0 ≤ d ∧ d ≤ 3000000) : IntKind.i64.wrap (d * d) = d * d ∧ 0 ≤ d * d ∧ d * d ≤ 9000000000000 := by
  have := mul_abs (a := d) (b := d) (A := 3000000) (B := 3000000) (by omega) (by omega) (by omega) (by omega)
  exact ⟨wrap_in _ (by omega) (by omega), Int.mul_nonneg hd.1 hd.1, by omega⟩
theorem sq_nn (a : Int) : 0 ≤ a * a := by
  rcases Int.le_total 0 a with h | h
  · exact Int.mul_nonneg h h
  · have e : a * a = (-a) * (-a) := by rw [Int.neg_mul_neg]
    rw [e]
    exact Int.mul_nonneg (by omega) (by omega)
def dotI (ax ay bx by' cx cy : Int) : Int := (bx - ax) * (cx - ax) + (by' - ay) * (cy - ay)
def dist2 (ax ay bx by' : Int) : Int := (bx - ax) * (bx - ax) + (by' - ay) * (by' - ay)
def nearB (px py ax ay bx by' d : Int) : Bool :=
  if dotI ax ay bx by' px py ≤ 0 then decide (dist2 ax ay px py ≤ d * d)
  else if dist2 ax ay bx by' ≤ dotI ax ay bx by' px py then decide (dist2 bx by' px py ≤ d * d)
  else decide (crossI ax ay bx by' px py * crossI ax ay bx by' px py ≤ d * d * dist2 ax ay bx by')
def six (ds : List D) : Prop := (-1000000 ≤ iAt ds 0 ∧ iAt ds 0 ≤ 1000000) ∧ (-1000000 ≤ iAt ds 1 ∧ iAt ds 1 ≤ 1000000) ∧ (-1000000 ≤ iAt ds 2 ∧ iAt ds 2 ≤ 1000000) ∧ (-1000000 ≤ iAt ds 3 ∧ iAt ds 3 ≤ 1000000) ∧ (-1000000 ≤ iAt ds 4 ∧ iAt ds 4 ≤ 1000000) ∧ (-1000000 ≤ iAt ds 5 ∧ iAt ds 5 ≤ 1000000)
theorem gTurn0 : GivesIf Tryz.prog 174 [pt, pt, pt] six (fun ds => .int .i64 (turnI (iAt ds 0) (iAt ds 1) (iAt ds 2) (iAt ds 3) (iAt ds 4) (iAt ds 5))) := by
  refine fn_gives I0 (by kernel_rfl) (fun ρ h => ct0_ok h) (by kernel_rfl) trTurn0_is trTurn0_low (by decide) (fun W vals ds _ hok => ?_)
  obtain ⟨h0, h1, h2, h3, h4, h5⟩ := hok
  simp only [trTurn0, TT.sat_ret, TT.sat_ite, B.ev, E.ev, cmp_t, cmp_f, arEv, V.plain, V2.plain, S.plain, S0.plain, V.val, V2.val, S.val, S0.val, envOf_i, true_and, cmpP]
  rw [w_sub h2 h0, w_sub h5 h1, w_sub h3 h1, w_sub h4 h0, (w_mul h2 h0 h5 h1).1, (w_mul h3 h1 h4 h0).1, wrap_in _ (by have := w_mul h2 h0 h5 h1; have := w_mul h3 h1 h4 h0; omega) (by have := w_mul h2 h0 h5 h1; have := w_mul h3 h1 h4 h0; omega)]
  refine ⟨fun h => ?_, fun h => ⟨fun h' => ?_, fun h' => ?_⟩⟩
  all_goals
    simp only [turnI, sgn, crossI]
    congr 1
    (repeat' split) <;> omega
theorem mx_sq (c : Int) : max c (0 - c) * max c (0 - c) = c * c := by
  rcases Int.le_total 0 c with h | h
  · rw [show max c (0 - c) = c by omega]
  · rw [show max c (0 - c) = -c by omega, Int.neg_mul_neg]
theorem mostB4 (a b c d : Int) : I0.fb 0 [.i a, .i b, .i c, .i d] = decide (a * b ≤ c * d) := rfl
end Go.Proofs.YtbbjlleaofgddaaGreat
/- Chapter 38: contracts of package plane's inner functions. -/
namespace Go.Proofs.YtbbjlleaofgddaaGreat
open Go.RowKit

def six6 (ds : List D) : Bool := placeB (iAt ds 0) (iAt ds 1) && placeB (iAt ds 2) (iAt ds 3) && placeB (iAt ds 4) (iAt ds 5)
def turnL (ds : List D) : Int := turnI (iAt ds 0) (iAt ds 1) (iAt ds 2) (iAt ds 3) (iAt ds 4) (iAt ds 5)
def nearL (ds : List D) : Bool := nearB (iAt ds 0) (iAt ds 1) (iAt ds 2) (iAt ds 3) (iAt ds 4) (iAt ds 5) (iAt ds 6)
def placeL (ds : List D) : Bool := placeB (iAt ds 0) (iAt ds 1)
def I1 : Interp := { fi := fun n l => match n with | 0 => turnL l | _ => 0, fb := fun n l => match n with | 0 => mostB l | 1 => six6 l | 2 => nearL l | 3 => placeL l | _ => false, fd := fun _ _ => [] }
def oTurn0 (al : AL) : T V := .ob (.tru (.fn 1 al)) (.ret (iV .i64 (.fn 0 al)))
def oNear0 (al : AL) : T V := match al with
  | .i a (.i b (.i c (.i d (.i e (.i f (.i r .nil)))))) => T.obs [.tru (.fn 1 (.i a (.i b (.i c (.i d (.i e (.i f .nil))))))), .tru (.cmpS .leq (.lit 0) r), .tru (.cmpS .leq r (.lit 3000000))] (.ret (bV (.fn 2 al)))
  | _ => .stuck "near"
def cTurn0 := ctD [pt, pt, pt] oTurn0
def cNear0 := ctD [pt, pt, pt, it] oNear0
def cPlace := ctD [pt] fun al => .ret (bV (.fn 3 al))
theorem placeB_iff {x y : Int} : placeB x y = true ↔ (-1000000 ≤ x ∧ x ≤ 1000000) ∧ -1000000 ≤ y ∧ y ≤ 1000000 := by simp only [placeB, decide_eq_true_eq]; omega
theorem six_of {ds : List D} (h : six6 ds = true) : six ds := by
  simp only [six6, Bool.and_eq_true, placeB_iff] at h
  exact ⟨h.1.1.1, h.1.1.2, h.1.2.1, h.1.2.2, h.2.1, h.2.2⟩
theorem cTurn0_ok {ρ : Env} (h1 : ∀ l, ρ.fb 1 l = six6 l) (h0 : ∀ l, ρ.fi 0 l = turnL l) : CtOne Tryz.prog ρ 174 cTurn0 := by
  refine ctD_if gTurn0 (fun al v hv => ?_)
  obtain ⟨ho, hv⟩ := hv
  obtain rfl := res_ret hv
  have ho : ρ.fb 1 (al.ev ρ) = true := by simpa only [Ob.ok, B.ev] using ho
  rw [h1] at ho
  refine ⟨rfl, six_of ho, ?_⟩
  simp only [iV, V.s0, V.val, V2.val, S.val, S0.val, E.ev, h0, turnL]
theorem cPlace_ok {ρ : Env} (h : ∀ l, ρ.fb 3 l = placeL l) : CtOne Tryz.prog ρ 126 cPlace :=
  ctD_ok gValid (fun _ => rfl) (fun al => by simp only [bV, V.s0, V.val, V2.val, S.val, S0.val, B.ev, h, placeL])
def ct1 : Ct := [(174, cTurn0), (126, cPlace)]
def lt1 : Lt := Lt.of [(173, 0)]
theorem ct1_ok {ρ : Env} (h : ρ.has I1) : CtOk Tryz.prog ρ ct1 :=
  .cons (cTurn0_ok (fun l => by rw [h.2.1]; rfl) (fun l => by rw [h.1]; rfl)) <| .cons (cPlace_ok (fun l => by rw [h.2.1]; rfl)) .nil
end Go.Proofs.YtbbjlleaofgddaaGreat
/- Chapter 38: trees of package plane, its exported functions. -/
namespace Go.Proofs.YtbbjlleaofgddaaGreat
open Go.RowKit
-- term trTurn: call Tryz.prog ct1 lt1 100 161 (symArgs 0 [pt, pt, pt]) [] 0
def trTurn : TT OpR :=
(.ite (.not (.fn 3 (.i (.var 0) (.i (.var 1) .nil))))
 (.ret ((.tup [(.one (.z (.int .i64 (.lit 0)))), (.one (.z (.int .i64 (.lit 1))))]), [], 5))
 (.ite (.not (.fn 3 (.i (.var 2) (.i (.var 3) .nil))))
 (.ret ((.tup [(.one (.z (.int .i64 (.lit 0)))), (.one (.z (.int .i64 (.lit 1))))]), [], 6))
 (.ite (.not (.fn 3 (.i (.var 4) (.i (.var 5) .nil))))
 (.ret ((.tup [(.one (.z (.int .i64 (.lit 0)))), (.one (.z (.int .i64 (.lit 1))))]), [], 7))
 (.ob (.tru (.fn 1 (.i (.var 0) (.i (.var 1) (.i (.var 2) (.i (.var 3) (.i (.var 4) (.i (.var 5) .nil))))))))
 (.ret ((.tup [(.one (.z (.int .i64 (.fn 0 (.i (.var 0) (.i (.var 1) (.i (.var 2) (.i (.var 3) (.i (.var 4) (.i (.var 5) .nil)))))))))), (.one (.z (.int .i64 (.lit 0))))]), [], 7))))))
-- end trTurn
set_option maxRecDepth 100000 in
theorem trTurn_is : T.norm 0 (call Tryz.prog ct1 lt1 100 161 (symArgs 0 [pt, pt, pt]) [] 0) TT.ret = trTurn := by kernel_rfl
theorem trTurn_low : trTurn.low 1000 = true := by kernel_rfl
-- term trOn0: call Tryz.prog ct1 lt1 100 182 (symArgs 0 [pt, pt, pt]) [] 0
def trOn0 : TT OpR :=
(.ob (.tru (.fn 1 (.i (.var 2) (.i (.var 3) (.i (.var 4) (.i (.var 5) (.i (.var 0) (.i (.var 1) .nil))))))))
(.ite (.cmp .eql (.fn 0 (.i (.var 2) (.i (.var 3) (.i (.var 4) (.i (.var 5) (.i (.var 0) (.i (.var 1) .nil))))))) (.lit 0))
 (.ite (.cmp .leq (.mn (.var 2) (.var 4)) (.var 0))
 (.ite (.cmp .leq (.var 0) (.mx (.var 2) (.var 4)))
 (.ite (.cmp .leq (.mn (.var 3) (.var 5)) (.var 1))
 (.ret ((.v (.one (.z (.bool (.cmp .leq (.var 1) (.mx (.var 3) (.var 5))))))), [], 3))
 (.ret ((.v (.one (.z (.bool (.lit false))))), [], 3)))
 (.ret ((.v (.one (.z (.bool (.lit false))))), [], 3)))
 (.ret ((.v (.one (.z (.bool (.lit false))))), [], 3)))
 (.ret ((.v (.one (.z (.bool (.lit false))))), [], 3))))
-- end trOn0
set_option maxRecDepth 100000 in
theorem trOn0_is : T.norm 0 (call Tryz.prog ct1 lt1 100 182 (symArgs 0 [pt, pt, pt]) [] 0) TT.ret = trOn0 := by kernel_rfl
theorem trOn0_low : trOn0.low 1000 = true := by kernel_rfl
end Go.Proofs.YtbbjlleaofgddaaGreat
/- Chapter 38: what package plane's functions answer. -/
namespace Go.Proofs.YtbbjlleaofgddaaGreat
open Go.RowKit

theorem I1fb3 (W : World) (ds l : List D) : (envOf I1 W ds).fb 3 l = placeL l := rfl
theorem I1fb1 (W : World) (ds l : List D) : (envOf I1 W ds).fb 1 l = six6 l := rfl
theorem I1fb2 (W : World) (ds l : List D) : (envOf I1 W ds).fb 2 l = nearL l := rfl
theorem I1fi0 (W : World) (ds l : List D) : (envOf I1 W ds).fi 0 l = turnL l := rfl
theorem iAt0 (a : D) (l : List D) : iAt (a :: l) 0 = a.int := rfl
theorem iAtS (a : D) (l : List D) (k : Nat) : iAt (a :: l) (k + 1) = iAt l k := rfl
theorem placeL_two (a b : Int) : placeL [.i a, .i b] = placeB a b := rfl
theorem six_six (a b c d e f : Int) : six6 [.i a, .i b, .i c, .i d, .i e, .i f] = (placeB a b && placeB c d && placeB e f) := rfl
theorem turn_six (a b c d e f : Int) : turnL [.i a, .i b, .i c, .i d, .i e, .i f] = turnI a b c d e f := rfl
theorem near_sev (a b c d e f r : Int) : nearL [.i a, .i b, .i c, .i d, .i e, .i f, .i r] = nearB a b c d e f r := rfl

def turnV (ds : List D) : Value := if six6 ds then .tuple #[.int .i64 (turnL ds), .int .i64 0] else .tuple #[.int .i64 0, .int .i64 1]
theorem gTurn : Gives Tryz.prog 161 [pt, pt, pt] turnV := by
  refine GivesIf.all (fn_gives I1 (by kernel_rfl) (fun ρ h => ct1_ok h) (by kernel_rfl) trTurn_is trTurn_low (by decide) (fun W vals ds _ _ => ?_))
  simp only [trTurn, TT.sat_ret, TT.sat_ite, TT.sat_ob, Ob.ok, B.ev, E.ev, AL.ev, V.plain, V2.plain, S.plain, S0.plain, V.val, V2.val, S.val, S0.val, List.all_cons, List.all_nil, Bool.and_self, envOf_i, List.map_cons, List.map_nil, true_and, Bool.not_eq_true', Bool.not_eq_false', Bool.and_eq_true, I1fb3, I1fb1, I1fi0, placeL_two, six_six, turn_six]
  simp only [turnV, six6, turnL]
  refine ⟨fun h => ?_, fun h => ⟨fun h' => ?_, fun h' => ⟨fun h'' => ?_, fun h'' => ?_⟩⟩⟩ <;> simp [*]
def onB (px py ax ay bx by' : Int) : Bool := decide (turnI ax ay bx by' px py = 0 ∧ min ax bx ≤ px ∧ px ≤ max ax bx ∧ min ay by' ≤ py ∧ py ≤ max ay by')
def onL (ds : List D) : Bool := onB (iAt ds 0) (iAt ds 1) (iAt ds 2) (iAt ds 3) (iAt ds 4) (iAt ds 5)
theorem gOn0 : GivesIf Tryz.prog 182 [pt, pt, pt] (fun ds => six6 ds = true) (fun ds => .bool (onL ds)) := by
  refine fn_gives I1 (by kernel_rfl) (fun ρ h => ct1_ok h) (by kernel_rfl) trOn0_is trOn0_low (by decide) (fun W vals ds _ hok => ?_)
  simp only [six6, Bool.and_eq_true] at hok
  simp only [trOn0, TT.sat_ret, TT.sat_ite, TT.sat_ob, Ob.ok, B.ev, E.ev, AL.ev, cmp_t, cmp_f, V.plain, V2.plain, S.plain, S0.plain, V.val, V2.val, S.val, S0.val, envOf_i, true_and, Bool.and_eq_true, cmpP, I1fb3, I1fb1, I1fi0, six_six, turn_six]
  simp only [onL, onB, hok, and_self, Value.bool.injEq, true_and]
  refine ⟨fun h => ⟨fun h1 => ⟨fun h2 => ⟨fun h3 => ?_, fun h3 => ?_⟩, fun h2 => ?_⟩, fun h1 => ?_⟩, fun h => ?_⟩
  all_goals first
    | (rw [Bool.eq_iff_iff, cmp_t]; simp only [cmpP, decide_eq_true_eq]; omega)
    | (rw [Bool.eq_iff_iff]; simp only [decide_eq_true_eq, Bool.false_eq_true, false_iff]; omega)
def errV (ok : Bool) (b : Bool) : Value := .tuple #[.bool (ok && b), .int .i64 (if ok then 0 else 1)]
def distB (d : Int) : Bool := decide (0 ≤ d ∧ d ≤ 3000000)
def nearV (ds : List D) : Value := errV (six6 ds && distB (iAt ds 6)) (nearL ds)
end Go.Proofs.YtbbjlleaofgddaaGreat
/- Chapter 38: what plane.Dist answers. -/
namespace Go.Proofs.YtbbjlleaofgddaaGreat
open Go.RowKit

def rootN : Nat → Int → Int → Int
  | 0, r, _ => r
  | k + 1, r, n => rootN k (if (r + ((2 ^ k : Nat) : Int)) * (r + ((2 ^ k : Nat) : Int)) ≤ n then r + ((2 ^ k : Nat) : Int) else r) n
theorem rootN_spec : ∀ (k : Nat) (r n : Int), 0 ≤ r → r * r ≤ n → n < (r + ((2 ^ k : Nat) : Int)) * (r + ((2 ^ k : Nat) : Int)) → 0 ≤ rootN k r n ∧ rootN k r n * rootN k r n ≤ n ∧ n < (rootN k r n + 1) * (rootN k r n + 1)
  | 0, r, n, h0, h1, h2 => by simpa [rootN] using ⟨h0, h1, h2⟩
  | k + 1, r, n, h0, h1, h2 => by
    simp only [rootN]
    have hp : 0 < 2 ^ k := Nat.pow_pos (by omega)
    have e : ((2 ^ (k + 1) : Nat) : Int) = ((2 ^ k : Nat) : Int) + ((2 ^ k : Nat) : Int) := by
      rw [Nat.pow_succ]; omega
    split
    · rename_i h
      refine rootN_spec k _ n (by omega) h ?_
      rw [Int.add_assoc, ← e]
      exact h2
    · rename_i h
      exact rootN_spec k r n h0 h1 (by omega)
def rootI (n : Int) : Int := rootN 23 0 n
def bitN : Nat → Int | 0 => 0 | k + 1 => ((2 ^ k : Nat) : Int)
theorem bitN_pos {k : Nat} (h : 0 < bitN k) : ∃ j, k = j + 1 := by cases k with | zero => simp [bitN] at h | succ j => exact ⟨j, rfl⟩
theorem bitN_half (k : Nat) : (((2 ^ k : Nat) : Int)).fdiv 2 = bitN k := by
  cases k with
  | zero => rfl
  | succ k => simp only [bitN, Nat.pow_succ]; rw [Int.fdiv_eq_ediv_of_nonneg _ (by omega)]; omega
def distLo (ax ay bx by' : Int) : Int := rootI (dist2 ax ay bx by')
def distHi (ax ay bx by' : Int) : Int := if distLo ax ay bx by' * distLo ax ay bx by' = dist2 ax ay bx by' then distLo ax ay bx by' else distLo ax ay bx by' + 1
def four4 (ds : List D) : Bool := placeB (iAt ds 0) (iAt ds 1) && placeB (iAt ds 2) (iAt ds 3)
def distV (ds : List D) : Value := .tuple #[.agg #[.int .i64 (if four4 ds then distLo (iAt ds 0) (iAt ds 1) (iAt ds 2) (iAt ds 3) else 0), .int .i64 (if four4 ds then distHi (iAt ds 0) (iAt ds 1) (iAt ds 2) (iAt ds 3) else 0)], .int .i64 (if four4 ds then 0 else 1)]
theorem dist_self (x y : Int) : distLo x y x y = 0 ∧ distHi x y x y = 0 := by
  have e : dist2 x y x y = 0 := by unfold dist2; simp
  have h : distLo x y x y = 0 := by unfold distLo; rw [e]; kernel_rfl
  refine ⟨h, ?_⟩
  unfold distHi
  rw [h, e]
  rfl
theorem dist2_le {ax ay bx by' : Int} (h1 : placeB ax ay = true) (h2 : placeB bx by' = true) : 0 ≤ dist2 ax ay bx by' ∧ dist2 ax ay bx by' ≤ 8000000000000 := by
  rw [placeB_iff] at h1 h2
  have a1 := w_mul h2.1 h1.1 h2.1 h1.1
  have a2 := w_mul h2.2 h1.2 h2.2 h1.2
  have n1 := sq_nn (bx - ax)
  have n2 := sq_nn (by' - ay)
  unfold dist2
  omega
end Go.Proofs.YtbbjlleaofgddaaGreat
/- Chapter 38: contracts of package plane's exported functions. -/
namespace Go.Proofs.YtbbjlleaofgddaaGreat
open Go.RowKit

def distIL (ds : List D) : Int := if four4 ds then distLo (iAt ds 0) (iAt ds 1) (iAt ds 2) (iAt ds 3) else 0
def distIH (ds : List D) : Int := if four4 ds then distHi (iAt ds 0) (iAt ds 1) (iAt ds 2) (iAt ds 3) else 0
def distIE (ds : List D) : Int := if four4 ds then 0 else 1
def I2 : Interp := { fi := fun n l => match n with | 10 => distIL l | 11 => distIH l | 12 => distIE l | _ => 0, fb := fun n l => match n with | 3 => placeL l | _ => false, fd := fun _ _ => [] }
def sI (s : Nat) (al : AL) : S := .z (.int .i64 (.fn s al))
def sB (s : Nat) (al : AL) : S := .z (.bool (.fn s al))
def cDist := ctD [pt, pt] fun al => .ret (.tup [.agg [sI 10 al, sI 11 al], .one (sI 12 al)])
def ct2 : Ct := [(126, cPlace)]
theorem ct2_ok {ρ : Env} (h : ρ.has I2) : CtOk Tryz.prog ρ ct2 :=
  .cons (cPlace_ok (fun l => by rw [h.2.1]; rfl)) <| .nil
def legK : List CK := [.int .i64, .int .i64, .int .i64, .int .i64, .int .i64, .int .i64]
def psg : Sh := .agg [.int .i64, .int .i64, .int .i64, .sl legK]
end Go.Proofs.YtbbjlleaofgddaaGreat
/- Chapter 38: trees of package passage: Valid, Arrives, During, Rest. -/
namespace Go.Proofs.YtbbjlleaofgddaaGreat
open Go.RowKit
end Go.Proofs.YtbbjlleaofgddaaGreat
/- Chapter 38: what passage.Valid answers. -/
namespace Go.Proofs.YtbbjlleaofgddaaGreat
open Go.RowKit

/-! A leg's numbers: 0, 1 From; 2, 3 To; 4, 5 the speed. -/
def legB (r : Rows) (i : Int) : Bool := placeB (lg r i 0) (lg r i 1) && placeB (lg r i 2) (lg r i 3) && decide (¬ (lg r i 0 = lg r i 2 ∧ lg r i 1 = lg r i 3) ∧ 1 ≤ lg r i 4 ∧ lg r i 4 ≤ lg r i 5 ∧ lg r i 5 ≤ 2000)
def legsFrom (r : Rows) : Nat → Nat → Int → Int → Bool
  | 0, _, _, _ => true
  | f + 1, i, x, y => legB r i && decide (lg r i 0 = x ∧ lg r i 1 = y) && legsFrom r f (i + 1) (lg r i 2) (lg r i 3)
def timeB (t : Int) : Bool := decide (0 ≤ t ∧ t ≤ 10000000)
def psgB (lo hi off : Int) (r : Rows) : Bool := timeB lo && timeB hi && decide (lo ≤ hi ∧ 0 ≤ off ∧ off ≤ 100000 ∧ 1 ≤ r.length ∧ r.length ≤ 40) && legsFrom r r.length 0 (lg r 0 0) (lg r 0 1)
def psgL (ds : List D) : Bool := psgB (iAt ds 0) (iAt ds 1) (iAt ds 2) (rAt ds 3)
theorem I2fb3 (W : World) (ds l : List D) : (envOf I2 W ds).fb 3 l = placeL l := rfl
theorem psg_len {W : World} {vals : List Value} {ds : List D} {sh : List Sh} (h : repSh W (psg :: sh) vals ds) : (rAt ds 3).length ≤ 281474976710656 := by
  obtain ⟨v, vs', d, ds', rfl, rfl, ⟨us, rfl, h⟩, _⟩ := h
  unfold CK.reps at h
  obtain ⟨_, us1, d0, ds1, rfl, rfl, _, h⟩ := h
  unfold CK.reps at h
  obtain ⟨_, us2, d1, ds2, rfl, rfl, _, h⟩ := h
  unfold CK.reps at h
  obtain ⟨_, us3, d2, ds3, rfl, rfl, _, h⟩ := h
  unfold CK.reps at h
  obtain ⟨_, us4, d3, ds4, rfl, rfl, h, _⟩ := h
  rw [rep_sl] at h
  obtain ⟨r, rfl, a, n, c, _, hs, _⟩ := h
  have e1 := hs.len
  have e2 := hs.big
  show r.length ≤ _
  omega
end Go.Proofs.YtbbjlleaofgddaaGreat
/- Chapter 38: when a ship is where; contract of passage.Valid. -/
namespace Go.Proofs.YtbbjlleaofgddaaGreat
open Go.RowKit

def dl (r : Rows) (i : Int) : List D := [.i (lg r i 0), .i (lg r i 1), .i (lg r i 2), .i (lg r i 3)]
def legLo (r : Rows) (i : Int) : Int := (distIL (dl r i)).tdiv (lg r i 5)
def legHi (r : Rows) (i : Int) : Int := (distIH (dl r i) + lg r i 4 - 1).tdiv (lg r i 4)
def tLo (r : Rows) (lo : Int) : Nat → Int | 0 => lo | k + 1 => tLo r lo k + legLo r k
def tHi (r : Rows) (hi : Int) : Nat → Int | 0 => hi | k + 1 => tHi r hi k + legHi r k
theorem distI_le {ds : List D} (h : four4 ds = true) : 0 ≤ distIL ds ∧ distIL ds ≤ 2828427 ∧ distIL ds ≤ distIH ds ∧ distIH ds ≤ distIL ds + 1 ∧ distIL ds * distIL ds ≤ dist2 (iAt ds 0) (iAt ds 1) (iAt ds 2) (iAt ds 3) ∧ dist2 (iAt ds 0) (iAt ds 1) (iAt ds 2) (iAt ds 3) ≤ distIH ds * distIH ds := by
  have h' := h
  simp only [four4, Bool.and_eq_true] at h'
  have hd := dist2_le h'.1 h'.2
  obtain ⟨r1, r2, r3⟩ := rootN_spec 23 0 (dist2 (iAt ds 0) (iAt ds 1) (iAt ds 2) (iAt ds 3)) (by omega) (by omega) (by simp; omega)
  have e : distIL ds = rootN 23 0 (dist2 (iAt ds 0) (iAt ds 1) (iAt ds 2) (iAt ds 3)) := by simp only [distIL, h, if_true, distLo, rootI]
  have hle : distIL ds ≤ 2828427 := by
    rw [e]
    rcases Int.lt_or_le 2828427 (rootN 23 0 (dist2 (iAt ds 0) (iAt ds 1) (iAt ds 2) (iAt ds 3))) with q | q
    · have := Int.mul_le_mul (show (2828428 : Int) ≤ rootN 23 0 (dist2 (iAt ds 0) (iAt ds 1) (iAt ds 2) (iAt ds 3)) by omega) (show (2828428 : Int) ≤ rootN 23 0 (dist2 (iAt ds 0) (iAt ds 1) (iAt ds 2) (iAt ds 3)) by omega) (by omega) (by omega)
      omega
    · exact q
  have eh : distIH ds = if distIL ds * distIL ds = dist2 (iAt ds 0) (iAt ds 1) (iAt ds 2) (iAt ds 3) then distIL ds else distIL ds + 1 := by
    simp only [distIH, distIL, h, if_true, distHi]
  rw [← e] at r1 r2 r3
  refine ⟨r1, hle, ?_, ?_, r2, ?_⟩ <;> rw [eh] <;> split <;> omega
theorem legB_iff {r : Rows} {i : Int} : legB r i = true ↔ (placeB (lg r i 0) (lg r i 1) = true ∧ placeB (lg r i 2) (lg r i 3) = true) ∧ ¬ (lg r i 0 = lg r i 2 ∧ lg r i 1 = lg r i 3) ∧ 1 ≤ lg r i 4 ∧ lg r i 4 ≤ lg r i 5 ∧ lg r i 5 ≤ 2000 := by
  simp only [legB, Bool.and_eq_true, decide_eq_true_eq]
theorem legsFrom_spec {r : Rows} : ∀ (f : Nat) (i : Nat) (x y : Int), legsFrom r f i x y = true → ∀ k, k < f → legB r ((i + k : Nat) : Int) = true
  | 0, _, _, _, _, k, hk => by omega
  | f + 1, i, x, y, h, k, hk => by
    simp only [legsFrom, Bool.and_eq_true] at h
    cases k with
    | zero => exact h.1.1
    | succ k =>
      have := legsFrom_spec f (i + 1) _ _ h.2 k (by omega)
      rw [show i + (k + 1) = i + 1 + k by omega]
      exact this
theorem psgB_iff {lo hi off : Int} {r : Rows} (h : psgB lo hi off r = true) : (0 ≤ lo ∧ lo ≤ 10000000) ∧ (0 ≤ hi ∧ hi ≤ 10000000) ∧ (lo ≤ hi ∧ 0 ≤ off ∧ off ≤ 100000 ∧ 1 ≤ r.length ∧ r.length ≤ 40) ∧ ∀ i : Nat, i < r.length → legB r i = true := by
  simp only [psgB, timeB, Bool.and_eq_true, decide_eq_true_eq] at h
  obtain ⟨⟨⟨h1, h2⟩, h3⟩, h4⟩ := h
  refine ⟨h1, h2, h3, fun i hi => ?_⟩
  have := legsFrom_spec _ 0 _ _ h4 i hi
  simpa using this
theorem tdiv_le {a b : Int} (ha : 0 ≤ a) (hb : 1 ≤ b) : 0 ≤ a.tdiv b ∧ a.tdiv b ≤ a := by
  obtain ⟨n, rfl⟩ := Int.eq_ofNat_of_zero_le ha
  obtain ⟨m, rfl⟩ := Int.eq_ofNat_of_zero_le (show 0 ≤ b by omega)
  have e : ((n : Int)).tdiv (m : Int) = ((n / m : Nat) : Int) := rfl
  rw [e]
  exact ⟨Int.natCast_nonneg _, Int.ofNat_le.2 (Nat.div_le_self n m)⟩
theorem leg_le {r : Rows} {i : Int} (h : legB r i = true) : 0 ≤ legLo r i ∧ legLo r i ≤ 2828427 ∧ 0 ≤ legHi r i ∧ legHi r i ≤ 2830428 ∧ 0 ≤ distIH (dl r i) ∧ distIH (dl r i) ≤ 2828428 ∧ 0 ≤ distIL (dl r i) ∧ distIL (dl r i) ≤ 2828427 := by
  rw [legB_iff] at h
  obtain ⟨⟨h1, h2⟩, _, h4, h5, h6⟩ := h
  have h4' : four4 (dl r i) = true := by simp only [four4, Bool.and_eq_true]; exact ⟨h1, h2⟩
  obtain ⟨d1, d2, d3, d4, _⟩ := distI_le h4'
  have q1 := tdiv_le (a := distIL (dl r i)) (b := lg r i 5) d1 (by omega)
  have q2 := tdiv_le (a := distIH (dl r i) + lg r i 4 - 1) (b := lg r i 4) (by omega) h4
  unfold legLo legHi
  omega
theorem t_le {r : Rows} {lo hi : Int} (h : ∀ i : Nat, i < r.length → legB r i = true) (hn : r.length ≤ 40) (hl : 0 ≤ lo ∧ lo ≤ 10000000) (hh : 0 ≤ hi ∧ hi ≤ 10000000) : ∀ k : Nat, k ≤ r.length → 0 ≤ tLo r lo k ∧ tLo r lo k ≤ 10000000 + 2828427 * k ∧ 0 ≤ tHi r hi k ∧ tHi r hi k ≤ 10000000 + 2830428 * k
  | 0, _ => by simp only [tLo, tHi]; omega
  | k + 1, hk => by
    have := t_le h hn hl hh k (by omega)
    have := leg_le (h k (by omega))
    simp only [tLo, tHi]
    omega
def I3 : Interp := { fi := fun n l => match n with | 10 => distIL l | 11 => distIH l | 12 => distIE l | _ => 0, fb := fun n l => match n with | 3 => placeL l | 20 => psgL l | _ => false, fd := fun _ _ => [] }
def cPV := ctD [psg] fun al => .ret (bV (.fn 20 al))
def ct3 : Ct := [(126, cPlace)]
theorem ct3_ok {ρ : Env} (h : ρ.has I3) : CtOk Tryz.prog ρ ct3 :=
  .cons (cPlace_ok (fun l => by rw [h.2.1]; rfl)) <| .nil
end Go.Proofs.YtbbjlleaofgddaaGreat
/- Chapter 38: trees of package passage: Arrives, During, Rest. -/
namespace Go.Proofs.YtbbjlleaofgddaaGreat
open Go.RowKit
end Go.Proofs.YtbbjlleaofgddaaGreat
/- Chapter 38: what passage.Arrives, During and Rest answer. -/
namespace Go.Proofs.YtbbjlleaofgddaaGreat
open Go.RowKit

theorem I3fb20 (W : World) (ds l : List D) : (envOf I3 W ds).fb 20 l = psgL l := rfl
theorem I3fi10 (W : World) (ds l : List D) : (envOf I3 W ds).fi 10 l = distIL l := rfl
theorem I3fi11 (W : World) (ds l : List D) : (envOf I3 W ds).fi 11 l = distIH l := rfl
theorem psgL_four (a b c : Int) (r : Rows) : psgL [.i a, .i b, .i c, .l r] = psgB a b c r := rfl
theorem dl_eq (r : Rows) (i : Int) : [D.i (lg r i 0), D.i (lg r i 1), D.i (lg r i 2), D.i (lg r i 3)] = dl r i := rfl
theorem legLo_eq (r : Rows) (i : Int) : (distIL (dl r i)).tdiv (lg r i 5) = legLo r i := rfl
theorem legHi_eq (r : Rows) (i : Int) : (distIH (dl r i) + lg r i 4 - 1).tdiv (lg r i 4) = legHi r i := rfl
theorem leg_wraps {r : Rows} {i : Int} (h : legB r i = true) : IntKind.i64.wrap (legLo r i) = legLo r i ∧ IntKind.i64.wrap (distIH (dl r i) + lg r i 4) = distIH (dl r i) + lg r i 4 ∧ IntKind.i64.wrap (distIH (dl r i) + lg r i 4 - 1) = distIH (dl r i) + lg r i 4 - 1 ∧ IntKind.i64.wrap (legHi r i) = legHi r i := by
  have h1 := leg_le h
  rw [legB_iff] at h
  exact ⟨wrap_in _ (by omega) (by omega), wrap_in _ (by omega) (by omega), wrap_in _ (by omega) (by omega), wrap_in _ (by omega) (by omega)⟩
def spanE (lo hi e : Int) : Value := .tuple #[.agg #[.int .i64 lo, .int .i64 hi], .int .i64 e]
def inV (lo hi : Int) : Value := if 10000000 < hi then spanE 0 0 3 else spanE lo hi 0
def arrV (ds : List D) : Value := if psgB (iAt ds 0) (iAt ds 1) (iAt ds 2) (rAt ds 3) ∧ 0 ≤ iAt ds 4 ∧ iAt ds 4 ≤ (rAt ds 3).length then inV (tLo (rAt ds 3) (iAt ds 0) (iAt ds 4).toNat) (tHi (rAt ds 3) (iAt ds 1) (iAt ds 4).toNat) else spanE 0 0 1
def durV (ds : List D) : Value := if psgB (iAt ds 0) (iAt ds 1) (iAt ds 2) (rAt ds 3) ∧ 0 ≤ iAt ds 4 ∧ iAt ds 4 < (rAt ds 3).length then inV (tLo (rAt ds 3) (iAt ds 0) (iAt ds 4).toNat) (tHi (rAt ds 3) (iAt ds 1) ((iAt ds 4).toNat + 1)) else spanE 0 0 1
def restN (r : Rows) (hi t : Int) : Nat → Nat → Int × Int
  | 0, k => (k, 0)
  | f + 1, k => if 10000000 < tHi r hi (k + 1) then (0, 3) else if t ≤ tHi r hi (k + 1) then (k, 0) else restN r hi t f (k + 1)
def restI (ds : List D) : Int × Int := if psgB (iAt ds 0) (iAt ds 1) (iAt ds 2) (rAt ds 3) ∧ timeB (iAt ds 4) then restN (rAt ds 3) (iAt ds 1) (iAt ds 4) (rAt ds 3).length 0 else (0, 1)
def intsV (p : Int × Int) : Value := .tuple #[.int .i64 p.1, .int .i64 p.2]
end Go.Proofs.YtbbjlleaofgddaaGreat
