/- Chapter 38: contracts for the executor: plane.most. -/
import Derived.Test.YtinfmmofcadjgaaZo
import Derived.Test.YtinfmmofcadjgaaBm
namespace Go.Proofs.Ytinfmmofcadjgaa
open Go.RowKit

def i4 : List Sh := [.one (.int .i64), .one (.int .i64), .one (.int .i64), .one (.int .i64)]
def nn (e : E) : List Ob := [.tru (.cmpS .leq (.lit 0) e), .tru (.cmpS .lss e (.lit 9223372036854775808))]
def isLit : E → Bool | .lit _ => true | _ => false
/-- a * b is at most c * d, none below 0. -/
def oMost (al : AL) : T V := match al with
  | .i a (.i b (.i c (.i d .nil))) => T.obs (nn a ++ nn b ++ nn c ++ nn d) (.ret (bV (match a, b, c, d with | .lit x, .lit y, .lit z, .lit u => .lit (decide (x * y ≤ z * u)) | _, _, _, _ => .fn 0 al)))
  | _ => .stuck "most"
def cMost := ctD i4 oMost
end Go.Proofs.Ytinfmmofcadjgaa
