/- MI, merged: TDa, Da, Db0, TDb, Db. -/
import Derived.Test.YtldbejmgalhdaaaGreatMG
set_option linter.unusedSimpArgs false
set_option linter.unusedVariables false
/- Chapter 38: the tree of poly.Box. -/
namespace Go.Proofs.YtldbejmgalhdaaaGreat
open Go.RowKit
end Go.Proofs.YtldbejmgalhdaaaGreat
/- Chapter 38: poly.Box. -/
namespace Go.Proofs.YtldbejmgalhdaaaGreat
open Go.RowKit
def minO (r : Rows) : Nat → Nat → Int → Int → Int
  | 0, _, x, _ => x
  | f + 1, i, x, y => if orderI (lg r i 0) (lg r i 1) x y < 0 then minO r f (i + 1) (lg r i 0) (lg r i 1) else minO r f (i + 1) x y
def maxO (r : Rows) : Nat → Nat → Int → Int → Int
  | 0, _, x, _ => x
  | f + 1, i, x, y => if 0 < orderI (lg r i 0) (lg r i 1) x y then maxO r f (i + 1) (lg r i 0) (lg r i 1) else maxO r f (i + 1) x y
def minY (r : Rows) : Nat → Nat → Int → Int
  | 0, _, y => y
  | f + 1, i, y => if lg r i 1 < y then minY r f (i + 1) (lg r i 1) else minY r f (i + 1) y
def maxY (r : Rows) : Nat → Nat → Int → Int
  | 0, _, y => y
  | f + 1, i, y => if y < lg r i 1 then maxY r f (i + 1) (lg r i 1) else maxY r f (i + 1) y
def pbA (ds : List D) : Int := if polyB (rAt ds 0) then minO (rAt ds 0) ((rAt ds 0).length - 1) 1 (lg (rAt ds 0) 0 0) (lg (rAt ds 0) 0 1) else 0
def pbB (ds : List D) : Int := if polyB (rAt ds 0) then maxO (rAt ds 0) ((rAt ds 0).length - 1) 1 (lg (rAt ds 0) 0 0) (lg (rAt ds 0) 0 1) else 0
def pbC (ds : List D) : Int := if polyB (rAt ds 0) then minY (rAt ds 0) ((rAt ds 0).length - 1) 1 (lg (rAt ds 0) 0 1) else 0
def pbD (ds : List D) : Int := if polyB (rAt ds 0) then maxY (rAt ds 0) ((rAt ds 0).length - 1) 1 (lg (rAt ds 0) 0 1) else 0
def pbE (ds : List D) : Int := if polyB (rAt ds 0) then 0 else 1
end Go.Proofs.YtldbejmgalhdaaaGreat
/- Chapter 38: contract of poly.Box. -/
namespace Go.Proofs.YtldbejmgalhdaaaGreat
open Go.RowKit
def KH : Interp where
  fi n l := match n with | 80 => pbA l | 81 => pbB l | 82 => pbC l | 83 => pbD l | 84 => pbE l | n => KG.fi n l
  fb n l := KG.fb n l
  fd _ _ := []
theorem KH_KG {ρ : Env} (h : Sees ρ KH 85) : Sees ρ KG 80 := h.trans (by decide) fun n l hn => by
  refine ⟨?_, ?_⟩
  ·
    simp only [KH]
    split <;> first | omega | rfl
  ·
    rfl
def ctPb : Ct := ctF
theorem ctPb_ok {ρ : Env} (h : Sees ρ KH 85) : CtOk Tryz.prog ρ ctPb := (ctF_ok (KG_KF (KH_KG h)))
end Go.Proofs.YtldbejmgalhdaaaGreat
/- Chapter 38: the tree of feature.Box. -/
namespace Go.Proofs.YtldbejmgalhdaaaGreat
open Go.RowKit
end Go.Proofs.YtldbejmgalhdaaaGreat
/- Chapter 38: feature.Box. -/
namespace Go.Proofs.YtldbejmgalhdaaaGreat
open Go.RowKit
def fbox (kind x rad p : Int) (s : Int) : Int := if kind = 4 then x else if kind = 3 ∨ kind = 6 then p else x + s * rad
def fbA (ds : List D) : Int := if featL ds then fbox (iAt ds 1) (iAt ds 2) (iAt ds 4) (pbA [.l (rAt ds 5)]) (-1) else 0
def fbB (ds : List D) : Int := if featL ds then fbox (iAt ds 1) (iAt ds 2) (iAt ds 4) (pbB [.l (rAt ds 5)]) 1 else 0
def fbC (ds : List D) : Int := if featL ds then fbox (iAt ds 1) (iAt ds 3) (iAt ds 4) (pbC [.l (rAt ds 5)]) (-1) else 0
def fbD (ds : List D) : Int := if featL ds then fbox (iAt ds 1) (iAt ds 3) (iAt ds 4) (pbD [.l (rAt ds 5)]) 1 else 0
def fbE (ds : List D) : Int := if featL ds then 0 else 1
def KI : Interp where
  fi n l := match n with | 85 => fbA l | 86 => fbB l | 87 => fbC l | 88 => fbD l | 89 => fbE l | n => KH.fi n l
  fb n l := KH.fb n l
  fd _ _ := []
theorem KI_KH {ρ : Env} (h : Sees ρ KI 90) : Sees ρ KH 85 := h.trans (by decide) fun n l hn => by
  refine ⟨?_, ?_⟩
  ·
    simp only [KI]
    split <;> first | omega | rfl
  ·
    rfl
end Go.Proofs.YtldbejmgalhdaaaGreat
