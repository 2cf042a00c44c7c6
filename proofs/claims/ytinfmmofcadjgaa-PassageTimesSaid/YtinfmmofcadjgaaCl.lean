/- Chapter 38: contracts of span's boxes; all symbols so far. -/
import Derived.Test.YtinfmmofcadjgaaCk
import Derived.Test.YtinfmmofcadjgaaCh
set_option linter.unusedSimpArgs false
set_option linter.unusedVariables false
namespace Go.Proofs.Ytinfmmofcadjgaa
open Go.RowKit
def uniA (ds : List D) : Int := if box8 ds then min (iAt ds 0) (iAt ds 4) else 0
def uniB (ds : List D) : Int := if box8 ds then max (iAt ds 1) (iAt ds 5) else 0
def uniC (ds : List D) : Int := if box8 ds then min (iAt ds 2) (iAt ds 6) else 0
def uniD (ds : List D) : Int := if box8 ds then max (iAt ds 3) (iAt ds 7) else 0
def uniE (ds : List D) : Int := if box8 ds then 0 else 1
def meet8 (ds : List D) : Bool := box8 ds && meetOn ds
def meetA (ds : List D) : Int := if meet8 ds then max (iAt ds 0) (iAt ds 4) else 0
def meetBB (ds : List D) : Int := if meet8 ds then min (iAt ds 1) (iAt ds 5) else 0
def meetC (ds : List D) : Int := if meet8 ds then max (iAt ds 2) (iAt ds 6) else 0
def meetD (ds : List D) : Int := if meet8 ds then min (iAt ds 3) (iAt ds 7) else 0
def meetE (ds : List D) : Int := if meet8 ds then 0 else if box8 ds then 4 else 1
def growO (ds : List D) : Bool := boxB (iAt ds 0) (iAt ds 1) (iAt ds 2) (iAt ds 3) && decide (0 ≤ iAt ds 4 ∧ iAt ds 4 ≤ 3000000)
def growX (ds : List D) : Bool := growO ds && boxB (iAt ds 0 - iAt ds 4) (iAt ds 1 + iAt ds 4) (iAt ds 2 - iAt ds 4) (iAt ds 3 + iAt ds 4)
def growA (ds : List D) : Int := if growX ds then iAt ds 0 - iAt ds 4 else 0
def growB (ds : List D) : Int := if growX ds then iAt ds 1 + iAt ds 4 else 0
def growC (ds : List D) : Int := if growX ds then iAt ds 2 - iAt ds 4 else 0
def growD (ds : List D) : Int := if growX ds then iAt ds 3 + iAt ds 4 else 0
def growE (ds : List D) : Int := if growX ds then 0 else if growO ds then 3 else 1
theorem joinV_eq (ds : List D) : joinBV ds = boxE (uniA ds) (uniB ds) (uniC ds) (uniD ds) (uniE ds) := by
  unfold joinBV uniA uniB uniC uniD uniE; split <;> rfl
theorem meetV_eq (ds : List D) : meetBV ds = boxE (meetA ds) (meetBB ds) (meetC ds) (meetD ds) (meetE ds) := by
  unfold meetBV meetA meetBB meetC meetD meetE meet8; cases box8 ds <;> cases meetOn ds <;> rfl
theorem growV_eq (ds : List D) : growV ds = boxE (growA ds) (growB ds) (growC ds) (growD ds) (growE ds) := by
  unfold growV growA growB growC growD growE growX growO
  by_cases h : boxB (iAt ds 0) (iAt ds 1) (iAt ds 2) (iAt ds 3) = true ∧ 0 ≤ iAt ds 4 ∧ iAt ds 4 ≤ 3000000
  · rw [if_pos h, h.1, decide_eq_true h.2]
    cases boxB (iAt ds 0 - iAt ds 4) (iAt ds 1 + iAt ds 4) (iAt ds 2 - iAt ds 4) (iAt ds 3 + iAt ds 4) <;> rfl
  · rw [if_neg h]
    have : (boxB (iAt ds 0) (iAt ds 1) (iAt ds 2) (iAt ds 3) && decide (0 ≤ iAt ds 4 ∧ iAt ds 4 ≤ 3000000)) = false := by
      rw [and_f, decide_eq_true_eq]; exact h
    rw [this]; rfl
/-- All symbols so far. -/
def K5 : Interp where
  fi n l := match n with | 32 => uniA l | 33 => uniB l | 34 => uniC l | 35 => uniD l | 36 => uniE l | 37 => meetA l | 38 => meetBB l | 39 => meetC l | 40 => meetD l | 41 => meetE l | 42 => growA l | 43 => growB l | 44 => growC l | 45 => growD l | 46 => growE l | n => K.fi n l
  fb n l := match n with | 30 => spanL l | 31 => boxL l | n => K.fb n l
  fd _ _ := []
def bx5 (a b c d e : S) : V := .tup [.agg [a, b, c, d], .one e]
def cJoin := ctD [bx, bx] fun al => .ret (bx5 (sIF 32 uniA al) (sIF 33 uniB al) (sIF 34 uniC al) (sIF 35 uniD al) (sIF 36 uniE al))
def cMeetB := ctD [bx, bx] fun al => .ret (bx5 (sIF 37 meetA al) (sIF 38 meetBB al) (sIF 39 meetC al) (sIF 40 meetD al) (sIF 41 meetE al))
def cGrow := ctD [bx, it] fun al => .ret (bx5 (sIF 42 growA al) (sIF 43 growB al) (sIF 44 growC al) (sIF 45 growD al) (sIF 46 growE al))
section
variable {ρ : Env} (h : Sees ρ K5 50)
include h
theorem K5_K : Sees ρ K 30 := h.trans (by decide) fun n l hn => by
  constructor
  · simp only [K5]
    split <;> first | omega | rfl
  · simp only [K5]
    split <;> first | omega | rfl
theorem cJoin_ok : CtOne Try.prog ρ 43 cJoin :=
  ctD_ok gJoin (fun _ => rfl) (fun al => by
    simp only [bx5, V.val, V2.val, S.val, S0.val, sIF, List.map_cons, List.map_nil, iF_ev (s := 32) (f := uniA) (fun l => by rw [(h 32 l (by decide)).1]; simp only [K5]), iF_ev (s := 33) (f := uniB) (fun l => by rw [(h 33 l (by decide)).1]; simp only [K5]), iF_ev (s := 34) (f := uniC) (fun l => by rw [(h 34 l (by decide)).1]; simp only [K5]), iF_ev (s := 35) (f := uniD) (fun l => by rw [(h 35 l (by decide)).1]; simp only [K5]), iF_ev (s := 36) (f := uniE) (fun l => by rw [(h 36 l (by decide)).1]; simp only [K5])]; rw [joinV_eq]; rfl)
theorem cMeetB_ok : CtOne Try.prog ρ 27 cMeetB :=
  ctD_ok gMeetB (fun _ => rfl) (fun al => by
    simp only [bx5, V.val, V2.val, S.val, S0.val, sIF, List.map_cons, List.map_nil, iF_ev (s := 37) (f := meetA) (fun l => by rw [(h 37 l (by decide)).1]; simp only [K5]), iF_ev (s := 38) (f := meetBB) (fun l => by rw [(h 38 l (by decide)).1]; simp only [K5]), iF_ev (s := 39) (f := meetC) (fun l => by rw [(h 39 l (by decide)).1]; simp only [K5]), iF_ev (s := 40) (f := meetD) (fun l => by rw [(h 40 l (by decide)).1]; simp only [K5]), iF_ev (s := 41) (f := meetE) (fun l => by rw [(h 41 l (by decide)).1]; simp only [K5])]; rw [meetV_eq]; rfl)
theorem cGrow_ok : CtOne Try.prog ρ 47 cGrow :=
  ctD_ok gGrow (fun _ => rfl) (fun al => by
    simp only [bx5, V.val, V2.val, S.val, S0.val, sIF, List.map_cons, List.map_nil, iF_ev (s := 42) (f := growA) (fun l => by rw [(h 42 l (by decide)).1]; simp only [K5]), iF_ev (s := 43) (f := growB) (fun l => by rw [(h 43 l (by decide)).1]; simp only [K5]), iF_ev (s := 44) (f := growC) (fun l => by rw [(h 44 l (by decide)).1]; simp only [K5]), iF_ev (s := 45) (f := growD) (fun l => by rw [(h 45 l (by decide)).1]; simp only [K5]), iF_ev (s := 46) (f := growE) (fun l => by rw [(h 46 l (by decide)).1]; simp only [K5])]; rw [growV_eq]; rfl)
theorem cSpV5_ok : CtOne Try.prog ρ 70 cSpV := cSpV_ok (fun l => by rw [(h 30 l (by decide)).2]; simp only [K5])
theorem cBoxV5_ok : CtOne Try.prog ρ 42 cBoxV := cBoxV_ok (fun l => by rw [(h 31 l (by decide)).2]; simp only [K5])
end
def ct5 : Ct := (70, cSpV) :: (42, cBoxV) :: (43, cJoin) :: (27, cMeetB) :: (47, cGrow) :: ctH
theorem ct5_ok {ρ : Env} (h : Sees ρ K5 50) : CtOk Try.prog ρ ct5 := .cons (cSpV5_ok h) <| .cons (cBoxV5_ok h) <| .cons (cJoin_ok h) <| .cons (cMeetB_ok h) <| .cons (cGrow_ok h) (ctH_ok (K5_K h))
end Go.Proofs.Ytinfmmofcadjgaa
