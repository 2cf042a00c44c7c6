/- The law MooringFeature: what the functions it calls are known to do. -/
import Derived.Test.YtfefbckpocbeaaaGreatKa
namespace Go.Proofs.YtfefbckpocbeaaaGreat
open Go.RowKit

def lI (n : Int) : S := .z (.int .i64 (.lit n))
def eI (e : E) : S := .z (.int .i64 e)
def sN : S := .z (.const (.slice none 0 0))
/-- Feature of a mooring: a buoy, if the radius and the buoy are in range. -/
def oFeat2 : List E → T V
  | [ax, ay, dlo, dhi, ch, tlo, thi, id, sym] =>
    let l := alE [ax, ay, dlo, dhi, ch, tlo, thi]
    let z := .agg [lI 0, lI 0, lI 0, lI 0, lI 0, sN, lI 0, lI 0, sN]
    .ite (.cmp .eql (.fn 1 l) (.lit 0))
      (.ite (.fn 22 (alE [id, ax, ay, .fn 0 l, sym])) (.ret (.tup [.agg [eI id, lI 5, eI ax, eI ay, eI (.fn 0 l), sN, lI 0, eI sym, sN], .one (lI 0)])) (.ret (.tup [z, .one (lI 3)])))
      (.ret (.tup [z, .one (eI (.fn 1 l))]))
  | _ => .stuck "shape"
def cFeat2 := ctI [.agg 5, .agg 2, .i, .i] oFeat2
def ctF : Ct := [(5, cHead), (12, cFeat2)]
end Go.Proofs.YtfefbckpocbeaaaGreat
