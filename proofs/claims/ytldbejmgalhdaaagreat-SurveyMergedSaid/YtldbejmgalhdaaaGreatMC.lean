/- MC, merged: Ba, Bm, Ca, TCb, Cb, Cc0, TCc, Cc, Cd, Ce0, TCe, Ce, Cf0, TCf, Cf. -/
import Derived.Test.YtldbejmgalhdaaaGreatProg
import Derived.WalkKit
import Derived.WalkSpells
import Derived.WalkLawsBesides
import Derived.Handy
import Derived.Lib.Hide
import Derived.Deep.RegionHeld3
import Derived.Shelf.Bits.Mul64
import Derived.Test.YtldbejmgalhdaaaGreatMK
set_option linter.unusedSimpArgs false
set_option linter.unusedVariables false
/- Shared small lemmas for walks. -/
namespace Go.Proofs.YtldbejmgalhdaaaGreat
open Go.RowKit

theorem run_max2 {P : Program} (w : World) (ts : Array TypeId) (t : TypeId) (k k' : IntKind) (x y : Int) : (Builtin.max_ ts t #[.int k x, .int k' y]).run P w = .ok (.int k (max x y)) w := by
  rw [run_max_int2]; congr 2; split <;> omega
theorem run_min2 {P : Program} (w : World) (ts : Array TypeId) (t : TypeId) (k k' : IntKind) (x y : Int) : (Builtin.min_ ts t #[.int k x, .int k' y]).run P w = .ok (.int k (min x y)) w := by
  rw [run_min_int2]; congr 2; split <;> omega
attribute [local go_sem high] run_max2 run_min2

def Ret (w : World) (v : Value) (e : Ending) (w' : World) : Prop := e = .returned v ∧ Below w.heap.size w w'

theorem rb {a b : Bool} (h : (a = true) ↔ (b = true)) : Ending.returned (.bool a) = .returned (.bool b) := by rw [Bool.eq_iff_iff.2 h]

end Go.Proofs.YtldbejmgalhdaaaGreat
/- The walks of bits.Mul64 and plane.most. -/
namespace Go.Proofs.YtldbejmgalhdaaaGreat
open Go.RowKit
attribute [local go_sem high] run_max2 run_min2

set_option maxHeartbeats 1000000 in
theorem mul64_any (x y : Nat) (hx : x < 18446744073709551616) (hy : y < 18446744073709551616) (w : World) :
    Calls Tryz.prog 205 #[.int .u64 x, .int .u64 y] w (Ret w (.tuple #[.int .u64 ((x * y / 18446744073709551616 : Nat) : Int), .int .u64 ((x * y % 18446744073709551616 : Nat) : Int)])) := by
  obtain ⟨bd, bt, bw, hhi⟩ := Lib.mul64_hi x y hx hy
  have ba := Lib.half_mul_le (a := x / 4294967296) (b := y / 4294967296) (by omega) (by omega)
  have bb := Lib.half_mul_le (a := x / 4294967296) (b := y % 4294967296) (by omega) (by omega)
  have bc := Lib.half_mul_le (a := x % 4294967296) (b := y / 4294967296) (by omega) (by omega)
  have ba' : x / 4294967296 * (y / 4294967296) < 18446744073709551616 := by omega
  have bb' : x / 4294967296 * (y % 4294967296) < 18446744073709551616 := by omega
  have bc' : x % 4294967296 * (y / 4294967296) < 18446744073709551616 := by omega
  have bh1 : x / 4294967296 * (y / 4294967296) + (x / 4294967296 * (y % 4294967296) + x % 4294967296 * (y % 4294967296) / 4294967296) / 4294967296 < 18446744073709551616 := by omega
  have bh : x / 4294967296 * (y / 4294967296) + (x / 4294967296 * (y % 4294967296) + x % 4294967296 * (y % 4294967296) / 4294967296) / 4294967296 + ((x / 4294967296 * (y % 4294967296) + x % 4294967296 * (y % 4294967296) / 4294967296) % 4294967296 + x % 4294967296 * (y / 4294967296)) / 4294967296 < 18446744073709551616 := by omega
  go_enter Tryz.func205, Tryz.ntmps205
  go_wp2
  simp only [Mul64.maskN x hx, Mul64.maskN y hy, Mul64.divN, Mul64.mulN, Mul64.addN, Mul64.wrapN _ bd, Mul64.wrapN _ bb', Mul64.wrapN _ bt, Mul64.maskN _ bt, Mul64.wrapN _ bc', Mul64.wrapN _ bw, Mul64.wrapN _ ba', Mul64.wrapN _ bh1, Mul64.wrapN _ bh, Mul64.wrapM (x * y)]
  rw [hhi]
  go_ret2
  exact ⟨rfl, by (repeat' (first | (with_reducible exact Below.refl _ _) | (with_reducible assumption) | (with_reducible refine Below.alloc ?_ ?_ _) | (with_reducible refine Below.setCell ?_ ?_ _) | (with_reducible refine Below.drew ?_) | (with_reducible refine Below.trans ?_ (Below.mono (by assumption) ?_)) | omega | (dsimp only; omega) | ((repeat (first | rw [World.size_alloc] | rw [World.size_setCell] | rw [World.size_drew])); (try dsimp only); omega)))⟩

theorem most_dec (a b c d : Nat) : (decide (a * b / 18446744073709551616 < c * d / 18446744073709551616) || (decide (a * b / 18446744073709551616 = c * d / 18446744073709551616) && decide (a * b % 18446744073709551616 ≤ c * d % 18446744073709551616))) = decide (a * b ≤ c * d) := by
  rw [Bool.eq_iff_iff]
  simp only [Bool.or_eq_true, Bool.and_eq_true, decide_eq_true_eq]
  omega

set_option maxHeartbeats 1000000 in
theorem most_any (a b c d : Int) (w : World) (ha : 0 ≤ a) (hb : 0 ≤ b) (hc : 0 ≤ c) (hd : 0 ≤ d) (ha' : a < 9223372036854775808) (hb' : b < 9223372036854775808) (hc' : c < 9223372036854775808) (hd' : d < 9223372036854775808) :
    Calls Tryz.prog 200 #[.int .i64 a, .int .i64 b, .int .i64 c, .int .i64 d] w (Ret w (.bool (decide (a * b ≤ c * d)))) := by
  obtain ⟨a, rfl⟩ := Int.eq_ofNat_of_zero_le ha
  obtain ⟨b, rfl⟩ := Int.eq_ofNat_of_zero_le hb
  obtain ⟨c, rfl⟩ := Int.eq_ofNat_of_zero_le hc
  obtain ⟨d, rfl⟩ := Int.eq_ofNat_of_zero_le hd
  have HR : Hid (decide ((a : Int) * b ≤ (c : Int) * d) = (decide (a * b / 18446744073709551616 < c * d / 18446744073709551616) || (decide (a * b / 18446744073709551616 = c * d / 18446744073709551616) && decide (a * b % 18446744073709551616 ≤ c * d % 18446744073709551616)))) := by
    show _ = _
    rw [most_dec, ← Int.natCast_mul, ← Int.natCast_mul, Bool.eq_iff_iff]
    simp only [decide_eq_true_eq]
    omega
  generalize hx1 : a * b / 18446744073709551616 = x1 at HR
  generalize hx2 : a * b % 18446744073709551616 = x2 at HR
  generalize hy1 : c * d / 18446744073709551616 = y1 at HR
  generalize hy2 : c * d % 18446744073709551616 = y2 at HR
  have h1 : ∀ W, Calls Tryz.prog 205 #[.int .u64 a, .int .u64 b] W (Ret W (.tuple #[.int .u64 (x1 : Int), .int .u64 (x2 : Int)])) := fun W => by
    have := mul64_any a b (by omega) (by omega) W
    rwa [hx1, hx2] at this
  have h2 : ∀ W, Calls Tryz.prog 205 #[.int .u64 c, .int .u64 d] W (Ret W (.tuple #[.int .u64 (y1 : Int), .int .u64 (y2 : Int)])) := fun W => by
    have := mul64_any c d (by omega) (by omega) W
    rwa [hy1, hy2] at this
  have H1 := Lib.hid h1
  have H2 := Lib.hid h2
  have e1 := Mul64.wrapN a (by omega)
  have e2 := Mul64.wrapN b (by omega)
  have e3 := Mul64.wrapN c (by omega)
  have e4 := Mul64.wrapN d (by omega)
  clear h1 h2 hx1 hx2 hy1 hy2 ha hb hc hd ha' hb' hc' hd'
  go_enter Tryz.func200, Tryz.ntmps200
  go_wp2_with fail
  refine (H1.out _).mono ?_
  rintro e w1 ⟨rfl, hb1⟩
  have hz1 := hb1.size
  go_wp2_with fail
  refine (H2.out _).mono ?_
  rintro e w2 ⟨rfl, hb2⟩
  have hz2 := hb2.size
  go_wp2
  all_goals
    go_ret
    exact ⟨rb (by rw [HR.out]; simp [*]; try omega), by (repeat' (first | (with_reducible exact Below.refl _ _) | (with_reducible assumption) | (with_reducible refine Below.alloc ?_ ?_ _) | (with_reducible refine Below.setCell ?_ ?_ _) | (with_reducible refine Below.drew ?_) | (with_reducible refine Below.trans ?_ (Below.mono (by assumption) ?_)) | omega | (dsimp only; omega) | ((repeat (first | rw [World.size_alloc] | rw [World.size_setCell] | rw [World.size_drew])); (try dsimp only); omega)))⟩
end Go.Proofs.YtldbejmgalhdaaaGreat
/- Chapter 38: contracts for the executor: plane.most. -/
namespace Go.Proofs.YtldbejmgalhdaaaGreat
open Go.RowKit

def i4 : List Sh := [.one (.int .i64), .one (.int .i64), .one (.int .i64), .one (.int .i64)]
def nn (e : E) : List Ob := [.tru (.cmpS .leq (.lit 0) e), .tru (.cmpS .lss e (.lit 9223372036854775808))]
def oMost (al : AL) : T V := match al with
  | .i a (.i b (.i c (.i d .nil))) => T.obs (nn a ++ nn b ++ nn c ++ nn d) (.ret (bV (match a, b, c, d with | .lit x, .lit y, .lit z, .lit u => .lit (decide (x * y ≤ z * u)) | _, _, _, _ => .fn 0 al)))
  | _ => .stuck "most"
def cMost := ctD i4 oMost
end Go.Proofs.YtldbejmgalhdaaaGreat
/- Chapter 38: trees of package plane, from the ground. -/
namespace Go.Proofs.YtldbejmgalhdaaaGreat
open Go.RowKit
def ct0 : Ct := [(200, cMost)]
def pt : Sh := .agg [.int .i64, .int .i64]
def it : Sh := .one (.int .i64)
-- term trValid: call Tryz.prog ct0 (Lt.of []) 100 54 (symArgs 0 [pt]) [] 0
def trValid : TT OpR :=
(.ite (.cmp .leq (.mx (.var 0) (.var 1)) (.lit 1000000))
 (.ret ((.v (.one (.z (.bool (.cmp .geq (.mn (.var 0) (.var 1)) (.lit (-1000000))))))), [], 1))
 (.ret ((.v (.one (.z (.bool (.lit false))))), [], 1)))
-- end trValid
set_option maxRecDepth 100000 in
theorem trValid_is : T.norm 0 (call Tryz.prog ct0 (Lt.of []) 100 54 (symArgs 0 [pt]) [] 0) TT.ret = trValid := by kernel_rfl
theorem trValid_low : trValid.low 1000 = true := by kernel_rfl
-- term trTurn0: call Tryz.prog ct0 (Lt.of []) 100 153 (symArgs 0 [pt, pt, pt]) [] 0
def trTurn0 : TT OpR :=
(.ite (.cmp .lss (.ar .sub .i64 (.ar .mul .i64 (.ar .sub .i64 (.var 2) (.var 0)) (.ar .sub .i64 (.var 5) (.var 1))) (.ar .mul .i64 (.ar .sub .i64 (.var 3) (.var 1)) (.ar .sub .i64 (.var 4) (.var 0)))) (.lit 0))
 (.ret ((.v (.one (.z (.int .i64 (.lit (-1)))))), [], 11))
 (.ite (.cmp .gtr (.ar .sub .i64 (.ar .mul .i64 (.ar .sub .i64 (.var 2) (.var 0)) (.ar .sub .i64 (.var 5) (.var 1))) (.ar .mul .i64 (.ar .sub .i64 (.var 3) (.var 1)) (.ar .sub .i64 (.var 4) (.var 0)))) (.lit 0))
 (.ret ((.v (.one (.z (.int .i64 (.lit 1))))), [], 11))
 (.ret ((.v (.one (.z (.int .i64 (.lit 0))))), [], 11))))
-- end trTurn0
set_option maxRecDepth 100000 in
theorem trTurn0_is : T.norm 0 (call Tryz.prog ct0 (Lt.of []) 100 153 (symArgs 0 [pt, pt, pt]) [] 0) TT.ret = trTurn0 := by kernel_rfl
theorem trTurn0_low : trTurn0.low 1000 = true := by kernel_rfl
-- term trNear0: call Tryz.prog ct0 (Lt.of []) 100 198 (symArgs 0 [pt, pt, pt, it]) [] 0
def trNear0 : TT OpR :=
(.ite (.cmp .leq (.ar .add .i64 (.ar .mul .i64 (.ar .sub .i64 (.var 4) (.var 2)) (.ar .sub .i64 (.var 0) (.var 2))) (.ar .mul .i64 (.ar .sub .i64 (.var 5) (.var 3)) (.ar .sub .i64 (.var 1) (.var 3)))) (.lit 0))
 (.ob (.tru (.cmp .leq (.lit 0) (.ar .add .i64 (.ar .mul .i64 (.ar .sub .i64 (.var 0) (.var 2)) (.ar .sub .i64 (.var 0) (.var 2))) (.ar .mul .i64 (.ar .sub .i64 (.var 1) (.var 3)) (.ar .sub .i64 (.var 1) (.var 3))))))
 (.ob (.tru (.cmp .lss (.ar .add .i64 (.ar .mul .i64 (.ar .sub .i64 (.var 0) (.var 2)) (.ar .sub .i64 (.var 0) (.var 2))) (.ar .mul .i64 (.ar .sub .i64 (.var 1) (.var 3)) (.ar .sub .i64 (.var 1) (.var 3)))) (.lit 9223372036854775808)))
 (.ob (.tru (.lit true))
 (.ob (.tru (.lit true))
 (.ob (.tru (.cmp .leq (.lit 0) (.ar .mul .i64 (.var 6) (.var 6))))
 (.ob (.tru (.cmp .lss (.ar .mul .i64 (.var 6) (.var 6)) (.lit 9223372036854775808)))
 (.ob (.tru (.lit true))
 (.ob (.tru (.lit true))
 (.ret ((.v (.one (.z (.bool (.fn 0 (.i (.ar .add .i64 (.ar .mul .i64 (.ar .sub .i64 (.var 0) (.var 2)) (.ar .sub .i64 (.var 0) (.var 2))) (.ar .mul .i64 (.ar .sub .i64 (.var 1) (.var 3)) (.ar .sub .i64 (.var 1) (.var 3)))) (.i (.lit 1) (.i (.ar .mul .i64 (.var 6) (.var 6)) (.i (.lit 1) .nil))))))))), [], 20))))))))))
 (.ite (.cmp .geq (.ar .add .i64 (.ar .mul .i64 (.ar .sub .i64 (.var 4) (.var 2)) (.ar .sub .i64 (.var 0) (.var 2))) (.ar .mul .i64 (.ar .sub .i64 (.var 5) (.var 3)) (.ar .sub .i64 (.var 1) (.var 3)))) (.ar .add .i64 (.ar .mul .i64 (.ar .sub .i64 (.var 4) (.var 2)) (.ar .sub .i64 (.var 4) (.var 2))) (.ar .mul .i64 (.ar .sub .i64 (.var 5) (.var 3)) (.ar .sub .i64 (.var 5) (.var 3)))))
 (.ob (.tru (.cmp .leq (.lit 0) (.ar .add .i64 (.ar .mul .i64 (.ar .sub .i64 (.var 0) (.var 4)) (.ar .sub .i64 (.var 0) (.var 4))) (.ar .mul .i64 (.ar .sub .i64 (.var 1) (.var 5)) (.ar .sub .i64 (.var 1) (.var 5))))))
 (.ob (.tru (.cmp .lss (.ar .add .i64 (.ar .mul .i64 (.ar .sub .i64 (.var 0) (.var 4)) (.ar .sub .i64 (.var 0) (.var 4))) (.ar .mul .i64 (.ar .sub .i64 (.var 1) (.var 5)) (.ar .sub .i64 (.var 1) (.var 5)))) (.lit 9223372036854775808)))
 (.ob (.tru (.lit true))
 (.ob (.tru (.lit true))
 (.ob (.tru (.cmp .leq (.lit 0) (.ar .mul .i64 (.var 6) (.var 6))))
 (.ob (.tru (.cmp .lss (.ar .mul .i64 (.var 6) (.var 6)) (.lit 9223372036854775808)))
 (.ob (.tru (.lit true))
 (.ob (.tru (.lit true))
 (.ret ((.v (.one (.z (.bool (.fn 0 (.i (.ar .add .i64 (.ar .mul .i64 (.ar .sub .i64 (.var 0) (.var 4)) (.ar .sub .i64 (.var 0) (.var 4))) (.ar .mul .i64 (.ar .sub .i64 (.var 1) (.var 5)) (.ar .sub .i64 (.var 1) (.var 5)))) (.i (.lit 1) (.i (.ar .mul .i64 (.var 6) (.var 6)) (.i (.lit 1) .nil))))))))), [], 24))))))))))
 (.ob (.tru (.cmp .leq (.lit 0) (.mx (.ar .sub .i64 (.ar .mul .i64 (.ar .sub .i64 (.var 4) (.var 2)) (.ar .sub .i64 (.var 1) (.var 3))) (.ar .mul .i64 (.ar .sub .i64 (.var 5) (.var 3)) (.ar .sub .i64 (.var 0) (.var 2)))) (.ar .sub .i64 (.lit 0) (.ar .sub .i64 (.ar .mul .i64 (.ar .sub .i64 (.var 4) (.var 2)) (.ar .sub .i64 (.var 1) (.var 3))) (.ar .mul .i64 (.ar .sub .i64 (.var 5) (.var 3)) (.ar .sub .i64 (.var 0) (.var 2))))))))
 (.ob (.tru (.cmp .lss (.mx (.ar .sub .i64 (.ar .mul .i64 (.ar .sub .i64 (.var 4) (.var 2)) (.ar .sub .i64 (.var 1) (.var 3))) (.ar .mul .i64 (.ar .sub .i64 (.var 5) (.var 3)) (.ar .sub .i64 (.var 0) (.var 2)))) (.ar .sub .i64 (.lit 0) (.ar .sub .i64 (.ar .mul .i64 (.ar .sub .i64 (.var 4) (.var 2)) (.ar .sub .i64 (.var 1) (.var 3))) (.ar .mul .i64 (.ar .sub .i64 (.var 5) (.var 3)) (.ar .sub .i64 (.var 0) (.var 2)))))) (.lit 9223372036854775808)))
 (.ob (.tru (.cmp .leq (.lit 0) (.mx (.ar .sub .i64 (.ar .mul .i64 (.ar .sub .i64 (.var 4) (.var 2)) (.ar .sub .i64 (.var 1) (.var 3))) (.ar .mul .i64 (.ar .sub .i64 (.var 5) (.var 3)) (.ar .sub .i64 (.var 0) (.var 2)))) (.ar .sub .i64 (.lit 0) (.ar .sub .i64 (.ar .mul .i64 (.ar .sub .i64 (.var 4) (.var 2)) (.ar .sub .i64 (.var 1) (.var 3))) (.ar .mul .i64 (.ar .sub .i64 (.var 5) (.var 3)) (.ar .sub .i64 (.var 0) (.var 2))))))))
 (.ob (.tru (.cmp .lss (.mx (.ar .sub .i64 (.ar .mul .i64 (.ar .sub .i64 (.var 4) (.var 2)) (.ar .sub .i64 (.var 1) (.var 3))) (.ar .mul .i64 (.ar .sub .i64 (.var 5) (.var 3)) (.ar .sub .i64 (.var 0) (.var 2)))) (.ar .sub .i64 (.lit 0) (.ar .sub .i64 (.ar .mul .i64 (.ar .sub .i64 (.var 4) (.var 2)) (.ar .sub .i64 (.var 1) (.var 3))) (.ar .mul .i64 (.ar .sub .i64 (.var 5) (.var 3)) (.ar .sub .i64 (.var 0) (.var 2)))))) (.lit 9223372036854775808)))
 (.ob (.tru (.cmp .leq (.lit 0) (.ar .mul .i64 (.var 6) (.var 6))))
 (.ob (.tru (.cmp .lss (.ar .mul .i64 (.var 6) (.var 6)) (.lit 9223372036854775808)))
 (.ob (.tru (.cmp .leq (.lit 0) (.ar .add .i64 (.ar .mul .i64 (.ar .sub .i64 (.var 4) (.var 2)) (.ar .sub .i64 (.var 4) (.var 2))) (.ar .mul .i64 (.ar .sub .i64 (.var 5) (.var 3)) (.ar .sub .i64 (.var 5) (.var 3))))))
 (.ob (.tru (.cmp .lss (.ar .add .i64 (.ar .mul .i64 (.ar .sub .i64 (.var 4) (.var 2)) (.ar .sub .i64 (.var 4) (.var 2))) (.ar .mul .i64 (.ar .sub .i64 (.var 5) (.var 3)) (.ar .sub .i64 (.var 5) (.var 3)))) (.lit 9223372036854775808)))
 (.ret ((.v (.one (.z (.bool (.fn 0 (.i (.mx (.ar .sub .i64 (.ar .mul .i64 (.ar .sub .i64 (.var 4) (.var 2)) (.ar .sub .i64 (.var 1) (.var 3))) (.ar .mul .i64 (.ar .sub .i64 (.var 5) (.var 3)) (.ar .sub .i64 (.var 0) (.var 2)))) (.ar .sub .i64 (.lit 0) (.ar .sub .i64 (.ar .mul .i64 (.ar .sub .i64 (.var 4) (.var 2)) (.ar .sub .i64 (.var 1) (.var 3))) (.ar .mul .i64 (.ar .sub .i64 (.var 5) (.var 3)) (.ar .sub .i64 (.var 0) (.var 2)))))) (.i (.mx (.ar .sub .i64 (.ar .mul .i64 (.ar .sub .i64 (.var 4) (.var 2)) (.ar .sub .i64 (.var 1) (.var 3))) (.ar .mul .i64 (.ar .sub .i64 (.var 5) (.var 3)) (.ar .sub .i64 (.var 0) (.var 2)))) (.ar .sub .i64 (.lit 0) (.ar .sub .i64 (.ar .mul .i64 (.ar .sub .i64 (.var 4) (.var 2)) (.ar .sub .i64 (.var 1) (.var 3))) (.ar .mul .i64 (.ar .sub .i64 (.var 5) (.var 3)) (.ar .sub .i64 (.var 0) (.var 2)))))) (.i (.ar .mul .i64 (.var 6) (.var 6)) (.i (.ar .add .i64 (.ar .mul .i64 (.ar .sub .i64 (.var 4) (.var 2)) (.ar .sub .i64 (.var 4) (.var 2))) (.ar .mul .i64 (.ar .sub .i64 (.var 5) (.var 3)) (.ar .sub .i64 (.var 5) (.var 3)))) .nil))))))))), [], 20))))))))))))
-- end trNear0
set_option maxRecDepth 100000 in
theorem trNear0_is : T.norm 0 (call Tryz.prog ct0 (Lt.of []) 100 198 (symArgs 0 [pt, pt, pt, it]) [] 0) TT.ret = trNear0 := by kernel_rfl
theorem trNear0_low : trNear0.low 1000 = true := by kernel_rfl
end Go.Proofs.YtldbejmgalhdaaaGreat
/- Chapter 38: what package plane computes, from the ground. -/
namespace Go.Proofs.YtldbejmgalhdaaaGreat
open Go.RowKit

def iAt (ds : List D) (k : Nat) : Int := (ds.getD k (.i 0)).int
def bAt (ds : List D) (k : Nat) : Bool := (ds.getD k (.i 0)).bool
def rAt (ds : List D) (k : Nat) : Rows := (ds.getD k (.i 0)).rows
theorem envOf_i (I : Interp) (W : World) (ds : List D) (k : Nat) : (envOf I W ds).i k = iAt ds k := rfl
theorem envOf_b (I : Interp) (W : World) (ds : List D) (k : Nat) : (envOf I W ds).b k = bAt ds k := rfl
theorem envOf_d (I : Interp) (W : World) (ds : List D) (k : Nat) : (envOf I W ds).d k = rAt ds k := rfl

theorem and_f (a b : Bool) : ((a && b) = false) = ¬ (a = true ∧ b = true) := by cases a <;> cases b <;> simp
def lg (r : Rows) (i : Int) (j : Nat) : Int := (cellAt r i j).int
def lb (r : Rows) (i : Int) (j : Nat) : Bool := (cellAt r i j).bool
def lr (r : Rows) (i : Int) (j : Nat) : Rows := (cellAt r i j).rows
theorem cell_lg (r : Rows) (i : Int) (j : Nat) : (cellAt r i j).int = lg r i j := rfl
theorem cell_lb (r : Rows) (i : Int) (j : Nat) : (cellAt r i j).bool = lb r i j := rfl
theorem cell_lr (r : Rows) (i : Int) (j : Nat) : (cellAt r i j).rows = lr r i j := rfl
def cmpP (o : BinOp) (a b : Int) : Prop :=
  match o with
  | .eql => a = b | .neq => a ≠ b | .lss => a < b | .leq => a ≤ b | .gtr => b < a | .geq => b ≤ a | _ => False
theorem cmp_t (o : BinOp) (a b : Int) : (cmpEv o a b = true) = cmpP o a b := by cases o <;> simp [cmpEv, cmpP]
theorem cmp_f (o : BinOp) (a b : Int) : (cmpEv o a b = false) = ¬ cmpP o a b := by cases o <;> simp [cmpEv, cmpP]

def mostB : List D → Bool
  | [.i a, .i b, .i c, .i d] => decide (a * b ≤ c * d)
  | _ => false
def I0 : Interp := { fi := fun _ _ => 0, fb := fun n l => match n with | 0 => mostB l | _ => false, fd := fun _ _ => [] }

/-! ### plane.most -/
theorem gMost : GivesIf Tryz.prog 200 i4 (fun ds => (0 ≤ iAt ds 0 ∧ iAt ds 0 < 9223372036854775808) ∧ (0 ≤ iAt ds 1 ∧ iAt ds 1 < 9223372036854775808) ∧ (0 ≤ iAt ds 2 ∧ iAt ds 2 < 9223372036854775808) ∧ (0 ≤ iAt ds 3 ∧ iAt ds 3 < 9223372036854775808))
    (fun ds => .bool (decide (iAt ds 0 * iAt ds 1 ≤ iAt ds 2 * iAt ds 3))) := by
  intro W vals ds hr hok
  obtain ⟨v0, vs0, d0, ds0, rfl, rfl, ⟨e0, rfl, h0⟩, hr⟩ := hr
  obtain ⟨v1, vs1, d1, ds1, rfl, rfl, ⟨e1, rfl, h1⟩, hr⟩ := hr
  obtain ⟨v2, vs2, d2, ds2, rfl, rfl, ⟨e2, rfl, h2⟩, hr⟩ := hr
  obtain ⟨v3, vs3, d3, ds3, rfl, rfl, ⟨e3, rfl, h3⟩, rfl, rfl⟩ := hr
  unfold CK.rep at h0 h1 h2 h3
  obtain ⟨a, rfl, rfl⟩ := h0
  obtain ⟨b, rfl, rfl⟩ := h1
  obtain ⟨c, rfl, rfl⟩ := h2
  obtain ⟨d, rfl, rfl⟩ := h3
  obtain ⟨⟨q1, q2⟩, ⟨q3, q4⟩, ⟨q5, q6⟩, q7, q8⟩ := hok
  exact most_any a b c d W q1 q3 q5 q7 q2 q4 q6 q8
theorem nn_ok {ρ : Env} {e : E} (h : ∀ o ∈ nn e, o.ok ρ) : 0 ≤ e.ev ρ ∧ e.ev ρ < 9223372036854775808 := by
  have h1 := h _ (List.mem_cons_self ..)
  have h2 := h _ (List.mem_cons_of_mem _ (List.mem_cons_self ..))
  simp only [Ob.ok, B.cmpS_ev, cmp_t, cmpP, E.ev] at h1 h2
  exact ⟨h1, h2⟩
theorem cMost_ok {ρ : Env} (h : ∀ l, ρ.fb 0 l = mostB l) : CtOne Tryz.prog ρ 200 cMost := by
  refine ctD_if gMost (fun al v hv => ?_)
  unfold oMost at hv
  split at hv
  · rename_i a b c d
    obtain ⟨ho, hv⟩ := T.res_obs hv
    obtain rfl := res_ret hv
    have n1 := nn_ok (fun o q => ho o (by simp only [List.mem_append]; exact .inl (.inl (.inl q))))
    have n2 := nn_ok (fun o q => ho o (by simp only [List.mem_append]; exact .inl (.inl (.inr q))))
    have n3 := nn_ok (fun o q => ho o (by simp only [List.mem_append]; exact .inl (.inr q)))
    have n4 := nn_ok (fun o q => ho o (by simp only [List.mem_append]; exact .inr q))
    refine ⟨rfl, ⟨n1, n2, n3, n4⟩, ?_⟩
    split
    · rfl
    · show Value.bool (ρ.fb 0 _) = _
      rw [h]
      simp only [AL.ev]
      rfl
  · exact hv.elim

/-! ### plane.Valid, plane.turn, plane.near -/
def placeB (x y : Int) : Bool := decide (-1000000 ≤ x ∧ x ≤ 1000000 ∧ -1000000 ≤ y ∧ y ≤ 1000000)
theorem ct0_ok {ρ : Env} (h : ρ.has I0) : CtOk Tryz.prog ρ ct0 := .cons (cMost_ok (fun l => by rw [h.2.1]; rfl)) .nil
theorem gValid : Gives Tryz.prog 54 [pt] (fun ds => .bool (placeB (iAt ds 0) (iAt ds 1))) := by
  refine GivesIf.all (fn_gives I0 (by kernel_rfl) (fun ρ h => ct0_ok h) (by kernel_rfl) trValid_is trValid_low (by decide) (fun W vals ds _ _ => ?_))
  simp only [trValid, TT.sat_ret, TT.sat_ite, B.ev, E.ev, cmp_t, cmp_f, V.plain, V2.plain, S.plain, S0.plain, V.val, V2.val, S.val, S0.val, envOf_i, true_and, cmpP]
  refine ⟨fun h => congrArg Value.bool ?_, fun h => congrArg Value.bool ?_⟩
  · rw [Bool.eq_iff_iff, cmp_t]
    simp only [cmpP, placeB, decide_eq_true_eq]
    omega
  · rw [Bool.eq_iff_iff]
    simp only [placeB, decide_eq_true_eq, Bool.false_eq_true, false_iff]
    omega
def crossI (ax ay bx by' cx cy : Int) : Int := (bx - ax) * (cy - ay) - (by' - ay) * (cx - ax)
def sgn (n : Int) : Int := if n < 0 then -1 else if n > 0 then 1 else 0
def turnI (ax ay bx by' cx cy : Int) : Int := sgn (crossI ax ay bx by' cx cy)
theorem wrap_in (n : Int) (h1 : -9223372036854775808 ≤ n) (h2 : n < 9223372036854775808) : IntKind.i64.wrap n = n := IntWalk.i64_in _ (by omega)
theorem mul_abs {a b A B : Int} (ha : -A ≤ a) (ha' : a ≤ A) (hb : -B ≤ b) (hb' : b ≤ B) : -(A * B) ≤ a * b ∧ a * b ≤ A * B := by
  have hA : 0 ≤ A := by omega
  have hB : 0 ≤ B := by omega
  have h1 : 0 ≤ (A - a) * (B + b) := Int.mul_nonneg (by omega) (by omega)
  have h2 : 0 ≤ (A + a) * (B - b) := Int.mul_nonneg (by omega) (by omega)
  have h3 : 0 ≤ (A - a) * (B - b) := Int.mul_nonneg (by omega) (by omega)
  have h4 : 0 ≤ (A + a) * (B + b) := Int.mul_nonneg (by omega) (by omega)
  simp only [Int.sub_mul, Int.add_mul, Int.mul_sub, Int.mul_add] at h1 h2 h3 h4
  omega
theorem w_sub {a b : Int} (ha : -1000000 ≤ a ∧ a ≤ 1000000) (hb : -1000000 ≤ b ∧ b ≤ 1000000) : IntKind.i64.wrap (a - b) = a - b := wrap_in _ (by omega) (by omega)
theorem w_mul {a b c d : Int} (ha : -1000000 ≤ a ∧ a ≤ 1000000) (hb : -1000000 ≤ b ∧ b ≤ 1000000) (hc : -1000000 ≤ c ∧ c ≤ 1000000) (hd : -1000000 ≤ d ∧ d ≤ 1000000) :
    IntKind.i64.wrap ((a - b) * (c - d)) = (a - b) * (c - d) ∧ -4000000000000 ≤ (a - b) * (c - d) ∧ (a - b) * (c - d) ≤ 4000000000000 := by
  have := mul_abs (a := a - b) (b := c - d) (A := 2000000) (B := 2000000) (by omega) (by omega) (by omega) (by omega)
  exact ⟨wrap_in _ (by omega) (by omega), by omega, by omega⟩
theorem w_mul1 {a b c d : Int} (ha : -1000000 ≤ a ∧ a ≤ 1000000) (hb : -1000000 ≤ b ∧ b ≤ 1000000) (hc : -1000000 ≤ c ∧ c ≤ 1000000) (hd : -1000000 ≤ d ∧ d ≤ 1000000) :
    IntKind.i64.wrap ((a - b) * (c - d)) = (a - b) * (c - d) := (w_mul ha hb hc hd).1
theorem w_add {a b c d e f g h : Int} (ha : -1000000 ≤ a ∧ a ≤ 1000000) (hb : -1000000 ≤ b ∧ b ≤ 1000000) (hc : -1000000 ≤ c ∧ c ≤ 1000000) (hd : -1000000 ≤ d ∧ d ≤ 1000000)
    (he : -1000000 ≤ e ∧ e ≤ 1000000) (hf : -1000000 ≤ f ∧ f ≤ 1000000) (hg : -1000000 ≤ g ∧ g ≤ 1000000) (hh : -1000000 ≤ h ∧ h ≤ 1000000) :
    IntKind.i64.wrap ((a - b) * (c - d) + (e - f) * (g - h)) = (a - b) * (c - d) + (e - f) * (g - h) := by
  have := w_mul ha hb hc hd
  have := w_mul he hf hg hh
  exact wrap_in _ (by omega) (by omega)
theorem w_crs {a b c d e f g h : Int} (ha : -1000000 ≤ a ∧ a ≤ 1000000) (hb : -1000000 ≤ b ∧ b ≤ 1000000) (hc : -1000000 ≤ c ∧ c ≤ 1000000) (hd : -1000000 ≤ d ∧ d ≤ 1000000)
    (he : -1000000 ≤ e ∧ e ≤ 1000000) (hf : -1000000 ≤ f ∧ f ≤ 1000000) (hg : -1000000 ≤ g ∧ g ≤ 1000000) (hh : -1000000 ≤ h ∧ h ≤ 1000000) :
    IntKind.i64.wrap ((a - b) * (c - d) - (e - f) * (g - h)) = (a - b) * (c - d) - (e - f) * (g - h) ∧ IntKind.i64.wrap (0 - ((a - b) * (c - d) - (e - f) * (g - h))) = 0 - ((a - b) * (c - d) - (e - f) * (g - h)) := by
  have := w_mul ha hb hc hd
  have := w_mul he hf hg hh
  exact ⟨wrap_in _ (by omega) (by omega), wrap_in _ (by omega) (by omega)⟩
theorem w_sq {d : Int} (hd : 0 ≤ d ∧ d ≤ 3000000) : IntKind.i64.wrap (d * d) = d * d ∧ 0 ≤ d * d ∧ d * d ≤ 9000000000000 := by
  have := mul_abs (a := d) (b := d) (A := 3000000) (B := 3000000) (by omega) (by omega) (by omega) (by omega)
  exact ⟨wrap_in _ (by omega) (by omega), Int.mul_nonneg hd.1 hd.1, by omega⟩
theorem sq_nn (a : Int) : 0 ≤ a * a := by
  rcases Int.le_total 0 a with h | h
  · exact Int.mul_nonneg h h
  · have e : a * a = (-a) * (-a) := by rw [Int.neg_mul_neg]
    rw [e]
    exact Int.mul_nonneg (by omega) (by omega)
def dotI (ax ay bx by' cx cy : Int) : Int := (bx - ax) * (cx - ax) + (by' - ay) * (cy - ay)
def dist2 (ax ay bx by' : Int) : Int := (bx - ax) * (bx - ax) + (by' - ay) * (by' - ay)
def nearB (px py ax ay bx by' d : Int) : Bool :=
  if dotI ax ay bx by' px py ≤ 0 then decide (dist2 ax ay px py ≤ d * d)
  else if dist2 ax ay bx by' ≤ dotI ax ay bx by' px py then decide (dist2 bx by' px py ≤ d * d)
  else decide (crossI ax ay bx by' px py * crossI ax ay bx by' px py ≤ d * d * dist2 ax ay bx by')
def six (ds : List D) : Prop := (-1000000 ≤ iAt ds 0 ∧ iAt ds 0 ≤ 1000000) ∧ (-1000000 ≤ iAt ds 1 ∧ iAt ds 1 ≤ 1000000) ∧ (-1000000 ≤ iAt ds 2 ∧ iAt ds 2 ≤ 1000000) ∧ (-1000000 ≤ iAt ds 3 ∧ iAt ds 3 ≤ 1000000) ∧ (-1000000 ≤ iAt ds 4 ∧ iAt ds 4 ≤ 1000000) ∧ (-1000000 ≤ iAt ds 5 ∧ iAt ds 5 ≤ 1000000)
theorem gTurn0 : GivesIf Tryz.prog 153 [pt, pt, pt] six (fun ds => .int .i64 (turnI (iAt ds 0) (iAt ds 1) (iAt ds 2) (iAt ds 3) (iAt ds 4) (iAt ds 5))) := by
  refine fn_gives I0 (by kernel_rfl) (fun ρ h => ct0_ok h) (by kernel_rfl) trTurn0_is trTurn0_low (by decide) (fun W vals ds _ hok => ?_)
  obtain ⟨h0, h1, h2, h3, h4, h5⟩ := hok
  simp only [trTurn0, TT.sat_ret, TT.sat_ite, B.ev, E.ev, cmp_t, cmp_f, arEv, V.plain, V2.plain, S.plain, S0.plain, V.val, V2.val, S.val, S0.val, envOf_i, true_and, cmpP]
  rw [w_sub h2 h0, w_sub h5 h1, w_sub h3 h1, w_sub h4 h0, (w_mul h2 h0 h5 h1).1, (w_mul h3 h1 h4 h0).1, wrap_in _ (by have := w_mul h2 h0 h5 h1; have := w_mul h3 h1 h4 h0; omega) (by have := w_mul h2 h0 h5 h1; have := w_mul h3 h1 h4 h0; omega)]
  refine ⟨fun h => ?_, fun h => ⟨fun h' => ?_, fun h' => ?_⟩⟩
  all_goals
    simp only [turnI, sgn, crossI]
    congr 1
    (repeat' split) <;> omega
theorem mx_sq (c : Int) : max c (0 - c) * max c (0 - c) = c * c := by
  rcases Int.le_total 0 c with h | h
  · rw [show max c (0 - c) = c by omega]
  · rw [show max c (0 - c) = -c by omega, Int.neg_mul_neg]
theorem mostB4 (a b c d : Int) : I0.fb 0 [.i a, .i b, .i c, .i d] = decide (a * b ≤ c * d) := rfl
theorem gNear0 : GivesIf Tryz.prog 198 [pt, pt, pt, it] (fun ds => six ds ∧ 0 ≤ iAt ds 6 ∧ iAt ds 6 ≤ 3000000) (fun ds => .bool (nearB (iAt ds 0) (iAt ds 1) (iAt ds 2) (iAt ds 3) (iAt ds 4) (iAt ds 5) (iAt ds 6))) := by
  refine fn_gives I0 (by kernel_rfl) (fun ρ h => ct0_ok h) (by kernel_rfl) trNear0_is trNear0_low (by decide) (fun W vals ds _ hok => ?_)
  obtain ⟨⟨h0, h1, h2, h3, h4, h5⟩, h6⟩ := hok
  simp only [trNear0, TT.sat_ret, TT.sat_ite, TT.sat_ob, Ob.ok, B.ev, E.ev, AL.ev, cmp_t, cmp_f, arEv, V.plain, V2.plain, S.plain, S0.plain, V.val, V2.val, S.val, S0.val, envOf_i, true_and, cmpP]
  have c0 := w_sq h6
  have d1 := w_mul h0 h2 h0 h2
  have d2 := w_mul h1 h3 h1 h3
  have d3 := w_mul h0 h4 h0 h4
  have d4 := w_mul h1 h5 h1 h5
  have d5 := w_mul h4 h2 h4 h2
  have d6 := w_mul h5 h3 h5 h3
  have d7 := w_mul h4 h2 h1 h3
  have d8 := w_mul h5 h3 h0 h2
  have n1 := sq_nn (iAt ds 0 - iAt ds 2)
  have n2 := sq_nn (iAt ds 1 - iAt ds 3)
  have n3 := sq_nn (iAt ds 0 - iAt ds 4)
  have n4 := sq_nn (iAt ds 1 - iAt ds 5)
  have n5 := sq_nn (iAt ds 4 - iAt ds 2)
  have n6 := sq_nn (iAt ds 5 - iAt ds 3)
  simp only [w_sub h4 h2, w_sub h0 h2, w_sub h5 h3, w_sub h1 h3, w_sub h0 h4, w_sub h1 h5, w_mul1 h4 h2 h0 h2, w_mul1 h5 h3 h1 h3, d1.1, d2.1, d3.1, d4.1, d5.1, d6.1, d7.1, d8.1, w_add h4 h2 h0 h2 h5 h3 h1 h3,
    w_add h0 h2 h0 h2 h1 h3 h1 h3, w_add h0 h4 h0 h4 h1 h5 h1 h5, w_add h4 h2 h4 h2 h5 h3 h5 h3, (w_crs h4 h2 h1 h3 h5 h3 h0 h2).1, (w_crs h4 h2 h1 h3 h5 h3 h0 h2).2, c0.1, mx_sq,
    show (envOf I0 W ds).fb = I0.fb from rfl, mostB4, Int.mul_one]
  refine ⟨fun h => ⟨?_, ?_, ?_, ?_, ?_⟩, fun h => ⟨fun h' => ⟨?_, ?_, ?_, ?_, ?_⟩, fun h' => ⟨?_, ?_, ?_, ?_, ?_, ?_, ?_, ?_, ?_⟩⟩⟩
  case refine_5 => unfold nearB dotI dist2; rw [if_pos h]
  case refine_10 => unfold nearB dotI dist2; rw [if_neg h, if_pos h']
  case refine_19 => unfold nearB dotI dist2 crossI; rw [if_neg h, if_neg h']
  all_goals omega
end Go.Proofs.YtldbejmgalhdaaaGreat
/- Chapter 38: contracts of package plane's inner functions. -/
namespace Go.Proofs.YtldbejmgalhdaaaGreat
open Go.RowKit

def six6 (ds : List D) : Bool := placeB (iAt ds 0) (iAt ds 1) && placeB (iAt ds 2) (iAt ds 3) && placeB (iAt ds 4) (iAt ds 5)
def turnL (ds : List D) : Int := turnI (iAt ds 0) (iAt ds 1) (iAt ds 2) (iAt ds 3) (iAt ds 4) (iAt ds 5)
def nearL (ds : List D) : Bool := nearB (iAt ds 0) (iAt ds 1) (iAt ds 2) (iAt ds 3) (iAt ds 4) (iAt ds 5) (iAt ds 6)
def placeL (ds : List D) : Bool := placeB (iAt ds 0) (iAt ds 1)
def I1 : Interp := { fi := fun n l => match n with | 0 => turnL l | _ => 0, fb := fun n l => match n with | 0 => mostB l | 1 => six6 l | 2 => nearL l | 3 => placeL l | _ => false, fd := fun _ _ => [] }
def oTurn0 (al : AL) : T V := .ob (.tru (.fn 1 al)) (.ret (iV .i64 (.fn 0 al)))
def oNear0 (al : AL) : T V := match al with
  | .i a (.i b (.i c (.i d (.i e (.i f (.i r .nil)))))) => T.obs [.tru (.fn 1 (.i a (.i b (.i c (.i d (.i e (.i f .nil))))))), .tru (.cmpS .leq (.lit 0) r), .tru (.cmpS .leq r (.lit 3000000))] (.ret (bV (.fn 2 al)))
  | _ => .stuck "near"
def cTurn0 := ctD [pt, pt, pt] oTurn0
def cNear0 := ctD [pt, pt, pt, it] oNear0
def cPlace := ctD [pt] fun al => .ret (bV (.fn 3 al))
theorem placeB_iff {x y : Int} : placeB x y = true ↔ (-1000000 ≤ x ∧ x ≤ 1000000) ∧ -1000000 ≤ y ∧ y ≤ 1000000 := by simp only [placeB, decide_eq_true_eq]; omega
theorem six_of {ds : List D} (h : six6 ds = true) : six ds := by
  simp only [six6, Bool.and_eq_true, placeB_iff] at h
  exact ⟨h.1.1.1, h.1.1.2, h.1.2.1, h.1.2.2, h.2.1, h.2.2⟩
theorem cTurn0_ok {ρ : Env} (h1 : ∀ l, ρ.fb 1 l = six6 l) (h0 : ∀ l, ρ.fi 0 l = turnL l) : CtOne Tryz.prog ρ 153 cTurn0 := by
  refine ctD_if gTurn0 (fun al v hv => ?_)
  obtain ⟨ho, hv⟩ := hv
  obtain rfl := res_ret hv
  have ho : ρ.fb 1 (al.ev ρ) = true := by simpa only [Ob.ok, B.ev] using ho
  rw [h1] at ho
  refine ⟨rfl, six_of ho, ?_⟩
  simp only [iV, V.s0, V.val, V2.val, S.val, S0.val, E.ev, h0, turnL]
theorem cNear0_ok {ρ : Env} (h1 : ∀ l, ρ.fb 1 l = six6 l) (h2 : ∀ l, ρ.fb 2 l = nearL l) : CtOne Tryz.prog ρ 198 cNear0 := by
  refine ctD_if gNear0 (fun al v hv => ?_)
  unfold oNear0 at hv
  split at hv
  · rename_i a b c d e f r
    obtain ⟨ho, hv⟩ := T.res_obs hv
    obtain rfl := res_ret hv
    have o1 := ho _ (List.mem_cons_self ..)
    have o2 := ho _ (List.mem_cons_of_mem _ (List.mem_cons_self ..))
    have o3 := ho _ (List.mem_cons_of_mem _ (List.mem_cons_of_mem _ (List.mem_cons_self ..)))
    simp only [Ob.ok, B.cmpS_ev, cmp_t, cmpP, E.ev, B.ev, AL.ev, h1] at o1 o2 o3
    have q1 := six_of o1
    refine ⟨rfl, ⟨?_, ?_, ?_⟩, ?_⟩
    · simpa [six, iAt, AL.ev] using q1
    · simpa [iAt, AL.ev, D.int] using o2
    · simpa [iAt, AL.ev, D.int] using o3
    · simp only [bV, V.s0, V.val, V2.val, S.val, S0.val, B.ev, h2]
      rfl
  · exact hv.elim
theorem cPlace_ok {ρ : Env} (h : ∀ l, ρ.fb 3 l = placeL l) : CtOne Tryz.prog ρ 54 cPlace :=
  ctD_ok gValid (fun _ => rfl) (fun al => by simp only [bV, V.s0, V.val, V2.val, S.val, S0.val, B.ev, h, placeL])
def ct1 : Ct := [(200, cMost), (153, cTurn0), (198, cNear0), (54, cPlace)]
def lt1 : Lt := Lt.of [(152, 0)]
theorem ct1_ok {ρ : Env} (h : ρ.has I1) : CtOk Tryz.prog ρ ct1 :=
  .cons (cMost_ok (fun l => by rw [h.2.1]; rfl)) <| .cons (cTurn0_ok (fun l => by rw [h.2.1]; rfl) (fun l => by rw [h.1]; rfl)) <| .cons (cNear0_ok (fun l => by rw [h.2.1]; rfl) (fun l => by rw [h.2.1]; rfl)) <| .cons (cPlace_ok (fun l => by rw [h.2.1]; rfl)) .nil
end Go.Proofs.YtldbejmgalhdaaaGreat
/- Chapter 38: trees of package plane, its exported functions. -/
namespace Go.Proofs.YtldbejmgalhdaaaGreat
open Go.RowKit
-- term trTurn: call Tryz.prog ct1 lt1 100 142 (symArgs 0 [pt, pt, pt]) [] 0
def trTurn : TT OpR :=
(.ite (.not (.fn 3 (.i (.var 0) (.i (.var 1) .nil))))
 (.ret ((.tup [(.one (.z (.int .i64 (.lit 0)))), (.one (.z (.int .i64 (.lit 1))))]), [], 5))
 (.ite (.not (.fn 3 (.i (.var 2) (.i (.var 3) .nil))))
 (.ret ((.tup [(.one (.z (.int .i64 (.lit 0)))), (.one (.z (.int .i64 (.lit 1))))]), [], 6))
 (.ite (.not (.fn 3 (.i (.var 4) (.i (.var 5) .nil))))
 (.ret ((.tup [(.one (.z (.int .i64 (.lit 0)))), (.one (.z (.int .i64 (.lit 1))))]), [], 7))
 (.ob (.tru (.fn 1 (.i (.var 0) (.i (.var 1) (.i (.var 2) (.i (.var 3) (.i (.var 4) (.i (.var 5) .nil))))))))
 (.ret ((.tup [(.one (.z (.int .i64 (.fn 0 (.i (.var 0) (.i (.var 1) (.i (.var 2) (.i (.var 3) (.i (.var 4) (.i (.var 5) .nil)))))))))), (.one (.z (.int .i64 (.lit 0))))]), [], 7))))))
-- end trTurn
set_option maxRecDepth 100000 in
theorem trTurn_is : T.norm 0 (call Tryz.prog ct1 lt1 100 142 (symArgs 0 [pt, pt, pt]) [] 0) TT.ret = trTurn := by kernel_rfl
theorem trTurn_low : trTurn.low 1000 = true := by kernel_rfl
-- term trOn0: call Tryz.prog ct1 lt1 100 163 (symArgs 0 [pt, pt, pt]) [] 0
def trOn0 : TT OpR :=
(.ob (.tru (.fn 1 (.i (.var 2) (.i (.var 3) (.i (.var 4) (.i (.var 5) (.i (.var 0) (.i (.var 1) .nil))))))))
(.ite (.cmp .eql (.fn 0 (.i (.var 2) (.i (.var 3) (.i (.var 4) (.i (.var 5) (.i (.var 0) (.i (.var 1) .nil))))))) (.lit 0))
 (.ite (.cmp .leq (.mn (.var 2) (.var 4)) (.var 0))
 (.ite (.cmp .leq (.var 0) (.mx (.var 2) (.var 4)))
 (.ite (.cmp .leq (.mn (.var 3) (.var 5)) (.var 1))
 (.ret ((.v (.one (.z (.bool (.cmp .leq (.var 1) (.mx (.var 3) (.var 5))))))), [], 3))
 (.ret ((.v (.one (.z (.bool (.lit false))))), [], 3)))
 (.ret ((.v (.one (.z (.bool (.lit false))))), [], 3)))
 (.ret ((.v (.one (.z (.bool (.lit false))))), [], 3)))
 (.ret ((.v (.one (.z (.bool (.lit false))))), [], 3))))
-- end trOn0
set_option maxRecDepth 100000 in
theorem trOn0_is : T.norm 0 (call Tryz.prog ct1 lt1 100 163 (symArgs 0 [pt, pt, pt]) [] 0) TT.ret = trOn0 := by kernel_rfl
theorem trOn0_low : trOn0.low 1000 = true := by kernel_rfl
-- term trNear: call Tryz.prog ct1 lt1 100 193 (symArgs 0 [pt, pt, pt, it]) [] 0
def trNear : TT OpR :=
(.ite (.not (.fn 3 (.i (.var 0) (.i (.var 1) .nil))))
 (.ret ((.tup [(.one (.z (.bool (.lit false)))), (.one (.z (.int .i64 (.lit 1))))]), [], 5))
 (.ite (.not (.fn 3 (.i (.var 2) (.i (.var 3) .nil))))
 (.ret ((.tup [(.one (.z (.bool (.lit false)))), (.one (.z (.int .i64 (.lit 1))))]), [], 6))
 (.ite (.not (.fn 3 (.i (.var 4) (.i (.var 5) .nil))))
 (.ret ((.tup [(.one (.z (.bool (.lit false)))), (.one (.z (.int .i64 (.lit 1))))]), [], 7))
 (.ite (.cmp .geq (.var 6) (.lit 0))
 (.ite (.not (.cmp .leq (.var 6) (.lit 3000000)))
 (.ret ((.tup [(.one (.z (.bool (.lit false)))), (.one (.z (.int .i64 (.lit 1))))]), [], 7))
 (.ob (.tru (.fn 1 (.i (.var 0) (.i (.var 1) (.i (.var 2) (.i (.var 3) (.i (.var 4) (.i (.var 5) .nil))))))))
 (.ob (.tru (.cmp .leq (.lit 0) (.var 6)))
 (.ob (.tru (.cmp .leq (.var 6) (.lit 3000000)))
 (.ret ((.tup [(.one (.z (.bool (.fn 2 (.i (.var 0) (.i (.var 1) (.i (.var 2) (.i (.var 3) (.i (.var 4) (.i (.var 5) (.i (.var 6) .nil))))))))))), (.one (.z (.int .i64 (.lit 0))))]), [], 7))))))
 (.ret ((.tup [(.one (.z (.bool (.lit false)))), (.one (.z (.int .i64 (.lit 1))))]), [], 7))))))
-- end trNear
set_option maxRecDepth 100000 in
theorem trNear_is : T.norm 0 (call Tryz.prog ct1 lt1 100 193 (symArgs 0 [pt, pt, pt, it]) [] 0) TT.ret = trNear := by kernel_rfl
theorem trNear_low : trNear.low 1000 = true := by kernel_rfl
end Go.Proofs.YtldbejmgalhdaaaGreat
/- Chapter 38: what package plane's functions answer. -/
namespace Go.Proofs.YtldbejmgalhdaaaGreat
open Go.RowKit

theorem I1fb3 (W : World) (ds l : List D) : (envOf I1 W ds).fb 3 l = placeL l := rfl
theorem I1fb1 (W : World) (ds l : List D) : (envOf I1 W ds).fb 1 l = six6 l := rfl
theorem I1fb2 (W : World) (ds l : List D) : (envOf I1 W ds).fb 2 l = nearL l := rfl
theorem I1fi0 (W : World) (ds l : List D) : (envOf I1 W ds).fi 0 l = turnL l := rfl
theorem placeL_two (a b : Int) : placeL [.i a, .i b] = placeB a b := rfl
theorem six_six (a b c d e f : Int) : six6 [.i a, .i b, .i c, .i d, .i e, .i f] = (placeB a b && placeB c d && placeB e f) := rfl
theorem turn_six (a b c d e f : Int) : turnL [.i a, .i b, .i c, .i d, .i e, .i f] = turnI a b c d e f := rfl
theorem near_sev (a b c d e f r : Int) : nearL [.i a, .i b, .i c, .i d, .i e, .i f, .i r] = nearB a b c d e f r := rfl

def turnV (ds : List D) : Value := if six6 ds then .tuple #[.int .i64 (turnL ds), .int .i64 0] else .tuple #[.int .i64 0, .int .i64 1]
theorem gTurn : Gives Tryz.prog 142 [pt, pt, pt] turnV := by
  refine GivesIf.all (fn_gives I1 (by kernel_rfl) (fun ρ h => ct1_ok h) (by kernel_rfl) trTurn_is trTurn_low (by decide) (fun W vals ds _ _ => ?_))
  simp only [trTurn, TT.sat_ret, TT.sat_ite, TT.sat_ob, Ob.ok, B.ev, E.ev, AL.ev, V.plain, V2.plain, S.plain, S0.plain, V.val, V2.val, S.val, S0.val, List.all_cons, List.all_nil, Bool.and_self, envOf_i, List.map_cons, List.map_nil, true_and, Bool.not_eq_true', Bool.not_eq_false', Bool.and_eq_true, I1fb3, I1fb1, I1fi0, placeL_two, six_six, turn_six]
  simp only [turnV, six6, turnL]
  refine ⟨fun h => ?_, fun h => ⟨fun h' => ?_, fun h' => ⟨fun h'' => ?_, fun h'' => ?_⟩⟩⟩ <;> simp [*]
def onB (px py ax ay bx by' : Int) : Bool := decide (turnI ax ay bx by' px py = 0 ∧ min ax bx ≤ px ∧ px ≤ max ax bx ∧ min ay by' ≤ py ∧ py ≤ max ay by')
def onL (ds : List D) : Bool := onB (iAt ds 0) (iAt ds 1) (iAt ds 2) (iAt ds 3) (iAt ds 4) (iAt ds 5)
theorem gOn0 : GivesIf Tryz.prog 163 [pt, pt, pt] (fun ds => six6 ds = true) (fun ds => .bool (onL ds)) := by
  refine fn_gives I1 (by kernel_rfl) (fun ρ h => ct1_ok h) (by kernel_rfl) trOn0_is trOn0_low (by decide) (fun W vals ds _ hok => ?_)
  simp only [six6, Bool.and_eq_true] at hok
  simp only [trOn0, TT.sat_ret, TT.sat_ite, TT.sat_ob, Ob.ok, B.ev, E.ev, AL.ev, cmp_t, cmp_f, V.plain, V2.plain, S.plain, S0.plain, V.val, V2.val, S.val, S0.val, envOf_i, true_and, Bool.and_eq_true, cmpP, I1fb3, I1fb1, I1fi0, six_six, turn_six]
  simp only [onL, onB, hok, and_self, Value.bool.injEq, true_and]
  refine ⟨fun h => ⟨fun h1 => ⟨fun h2 => ⟨fun h3 => ?_, fun h3 => ?_⟩, fun h2 => ?_⟩, fun h1 => ?_⟩, fun h => ?_⟩
  all_goals first
    | (rw [Bool.eq_iff_iff, cmp_t]; simp only [cmpP, decide_eq_true_eq]; omega)
    | (rw [Bool.eq_iff_iff]; simp only [decide_eq_true_eq, Bool.false_eq_true, false_iff]; omega)
def errV (ok : Bool) (b : Bool) : Value := .tuple #[.bool (ok && b), .int .i64 (if ok then 0 else 1)]
def distB (d : Int) : Bool := decide (0 ≤ d ∧ d ≤ 3000000)
def nearV (ds : List D) : Value := errV (six6 ds && distB (iAt ds 6)) (nearL ds)
theorem gNear : Gives Tryz.prog 193 [pt, pt, pt, it] nearV := by
  refine GivesIf.all (fn_gives I1 (by kernel_rfl) (fun ρ h => ct1_ok h) (by kernel_rfl) trNear_is trNear_low (by decide) (fun W vals ds _ _ => ?_))
  simp only [trNear, TT.sat_ret, TT.sat_ite, TT.sat_ob, Ob.ok, B.ev, E.ev, AL.ev, cmp_t, cmp_f, V.plain, V2.plain, S.plain, S0.plain, V.val, V2.val, S.val, S0.val, List.all_cons, List.all_nil, Bool.and_self, envOf_i, List.map_cons, List.map_nil, true_and, Bool.not_eq_true', Bool.not_eq_false', Bool.and_eq_true, cmpP, I1fb3, I1fb1, I1fb2, placeL_two, six_six, near_sev]
  simp only [nearV, errV, six6, nearL, distB]
  refine ⟨fun h => ?_, fun h => ⟨fun h' => ?_, fun h' => ⟨fun h'' => ?_, fun h'' => ⟨fun h1 => ⟨fun h2 => ?_, fun h2 => ⟨?_, ?_, ?_, ?_⟩⟩, fun h1 => ?_⟩⟩⟩⟩
  all_goals first | omega | (simp [*]; done) | (simp [*]; omega)
end Go.Proofs.YtldbejmgalhdaaaGreat
/- Chapter 38: what plane.Dist answers. -/
namespace Go.Proofs.YtldbejmgalhdaaaGreat
open Go.RowKit

def rootN : Nat → Int → Int → Int
  | 0, r, _ => r
  | k + 1, r, n => rootN k (if (r + ((2 ^ k : Nat) : Int)) * (r + ((2 ^ k : Nat) : Int)) ≤ n then r + ((2 ^ k : Nat) : Int) else r) n
def rootI (n : Int) : Int := rootN 23 0 n
def distLo (ax ay bx by' : Int) : Int := rootI (dist2 ax ay bx by')
def distHi (ax ay bx by' : Int) : Int := if distLo ax ay bx by' * distLo ax ay bx by' = dist2 ax ay bx by' then distLo ax ay bx by' else distLo ax ay bx by' + 1
def four4 (ds : List D) : Bool := placeB (iAt ds 0) (iAt ds 1) && placeB (iAt ds 2) (iAt ds 3)
end Go.Proofs.YtldbejmgalhdaaaGreat
/- Chapter 38: contracts of package plane's exported functions. -/
namespace Go.Proofs.YtldbejmgalhdaaaGreat
open Go.RowKit

def distIL (ds : List D) : Int := if four4 ds then distLo (iAt ds 0) (iAt ds 1) (iAt ds 2) (iAt ds 3) else 0
def distIH (ds : List D) : Int := if four4 ds then distHi (iAt ds 0) (iAt ds 1) (iAt ds 2) (iAt ds 3) else 0
def distIE (ds : List D) : Int := if four4 ds then 0 else 1
def sB (s : Nat) (al : AL) : S := .z (.bool (.fn s al))
end Go.Proofs.YtldbejmgalhdaaaGreat
/- Chapter 38: trees of package passage: Valid, Arrives, During, Rest. -/
namespace Go.Proofs.YtldbejmgalhdaaaGreat
open Go.RowKit
end Go.Proofs.YtldbejmgalhdaaaGreat
/- Chapter 38: what passage.Valid answers. -/
namespace Go.Proofs.YtldbejmgalhdaaaGreat
open Go.RowKit

/-! A leg's numbers: 0, 1 From; 2, 3 To; 4, 5 the speed. -/
def legB (r : Rows) (i : Int) : Bool := placeB (lg r i 0) (lg r i 1) && placeB (lg r i 2) (lg r i 3) && decide (¬ (lg r i 0 = lg r i 2 ∧ lg r i 1 = lg r i 3) ∧ 1 ≤ lg r i 4 ∧ lg r i 4 ≤ lg r i 5 ∧ lg r i 5 ≤ 2000)
def legsFrom (r : Rows) : Nat → Nat → Int → Int → Bool
  | 0, _, _, _ => true
  | f + 1, i, x, y => legB r i && decide (lg r i 0 = x ∧ lg r i 1 = y) && legsFrom r f (i + 1) (lg r i 2) (lg r i 3)
def timeB (t : Int) : Bool := decide (0 ≤ t ∧ t ≤ 10000000)
def psgB (lo hi off : Int) (r : Rows) : Bool := timeB lo && timeB hi && decide (lo ≤ hi ∧ 0 ≤ off ∧ off ≤ 100000 ∧ 1 ≤ r.length ∧ r.length ≤ 40) && legsFrom r r.length 0 (lg r 0 0) (lg r 0 1)
def psgL (ds : List D) : Bool := psgB (iAt ds 0) (iAt ds 1) (iAt ds 2) (rAt ds 3)
end Go.Proofs.YtldbejmgalhdaaaGreat
/- Chapter 38: when a ship is where; contract of passage.Valid. -/
namespace Go.Proofs.YtldbejmgalhdaaaGreat
open Go.RowKit

def dl (r : Rows) (i : Int) : List D := [.i (lg r i 0), .i (lg r i 1), .i (lg r i 2), .i (lg r i 3)]
def legLo (r : Rows) (i : Int) : Int := (distIL (dl r i)).tdiv (lg r i 5)
def legHi (r : Rows) (i : Int) : Int := (distIH (dl r i) + lg r i 4 - 1).tdiv (lg r i 4)
def tLo (r : Rows) (lo : Int) : Nat → Int | 0 => lo | k + 1 => tLo r lo k + legLo r k
def tHi (r : Rows) (hi : Int) : Nat → Int | 0 => hi | k + 1 => tHi r hi k + legHi r k
end Go.Proofs.YtldbejmgalhdaaaGreat
/- Chapter 38: trees of package passage: Arrives, During, Rest. -/
namespace Go.Proofs.YtldbejmgalhdaaaGreat
open Go.RowKit
end Go.Proofs.YtldbejmgalhdaaaGreat
/- Chapter 38: what passage.Arrives, During and Rest answer. -/
namespace Go.Proofs.YtldbejmgalhdaaaGreat
open Go.RowKit

def restN (r : Rows) (hi t : Int) : Nat → Nat → Int × Int
  | 0, k => (k, 0)
  | f + 1, k => if 10000000 < tHi r hi (k + 1) then (0, 3) else if t ≤ tHi r hi (k + 1) then (k, 0) else restN r hi t f (k + 1)
def restI (ds : List D) : Int × Int := if psgB (iAt ds 0) (iAt ds 1) (iAt ds 2) (rAt ds 3) ∧ timeB (iAt ds 4) then restN (rAt ds 3) (iAt ds 1) (iAt ds 4) (rAt ds 3).length 0 else (0, 1)
end Go.Proofs.YtldbejmgalhdaaaGreat
