/- UC, merged: TUh, Uh, TUi, Ui, TUj, TUk, Uk, Ul. -/
import Derived.Test.YtocghebdcpfalaaUB
set_option linter.unusedSimpArgs false
set_option linter.unusedVariables false
/- TopMoored: tree of heights. -/
namespace Go.Proofs.Ytocghebdcpfalaa
open Go.RowKit
-- term trHeight: call Try.prog ctU4 (Lt.of []) 100 8 (symArgs 0 [tid, it, it]) [] 0
def trHeight : TT OpR :=
(.ite (.not (.fn 114 (.i (.var 0) (.i (.var 1) (.x (.var 2) .nil)))))
  (.ret ((.tup [(.agg [(.z (.int .i64 (.lit 0))), (.z (.int .i64 (.lit 0)))]), (.one (.z (.int .i64 (.lit 1))))]), [], 4))
  (.ite (.cmp .geq (.var 3) (.lit 0))
    (.ite (.not (.cmp .leq (.var 3) (.lit 10000000)))
      (.ret ((.tup [(.agg [(.z (.int .i64 (.lit 0))), (.z (.int .i64 (.lit 0)))]), (.one (.z (.int .i64 (.lit 1))))]), [], 4))
      (.ite (.cmp .geq (.var 4) (.lit 0))
        (.ite (.not (.cmp .leq (.var 4) (.lit 10000000)))
          (.ret ((.tup [(.agg [(.z (.int .i64 (.lit 0))), (.z (.int .i64 (.lit 0)))]), (.one (.z (.int .i64 (.lit 1))))]), [], 4))
          (.ite (.cmp .gtr (.var 3) (.var 4))
            (.ret ((.tup [(.agg [(.z (.int .i64 (.lit 0))), (.z (.int .i64 (.lit 0)))]), (.one (.z (.int .i64 (.lit 1))))]), [], 4))
            (.ite (.cmp .lss (.var 3) (.var 0))
              (.ret ((.tup [(.agg [(.z (.int .i64 (.lit 0))), (.z (.int .i64 (.lit 0)))]), (.one (.z (.int .i64 (.lit 4))))]), [], 4))
              (.ite (.cmp .gtr (.var 4) (.ar .add .i64 (.var 0) (.ar .mul .i64 (.ar .sub .i64 (.len (.var 2)) (.lit 1)) (.var 1))))
                (.ret ((.tup [(.agg [(.z (.int .i64 (.lit 0))), (.z (.int .i64 (.lit 0)))]), (.one (.z (.int .i64 (.lit 4))))]), [], 5))
                (.loop 0 11000 ⟨[(0, (.lit 0)), (2, (.lit 0)), (3, (.lit 0))], [(1, (.lit false))], []⟩
                  (.ite (.cmp .lss (.var 11000) (.len (.var 2)))
                    (.ob (.tru (.cmp .leq (.lit 0) (.var 11000)))
                    (.ob (.tru (.cmp .lss (.var 11000) (.len (.var 2))))
                    (.ite (.cmp .gtr (.var 11000) (.lit 0))
                      (.ite (.cmp .gtr (.var 1) (.lit 1))
                        (.ob (.tru (.cmp .leq (.lit 0) (.ar .sub .i64 (.var 11000) (.lit 1))))
                        (.ob (.tru (.cmp .lss (.ar .sub .i64 (.var 11000) (.lit 1)) (.len (.var 2))))
                        (.ite (.cmp .lss (.ar .sub .i64 (.ar .add .i64 (.var 0) (.ar .mul .i64 (.var 11000) (.var 1))) (.lit 1)) (.var 3))
                          (.ite (.cmp .lss (.ar .add .i64 (.var 0) (.ar .mul .i64 (.var 11000) (.var 1))) (.var 3))
                            (.next 0 ⟨[(0, (.ar .add .i64 (.var 11000) (.lit 1))), (2, (.var 11002)), (3, (.var 11003))], [(1, (.var 11001))], []⟩)
                            (.ite (.cmp .lss (.var 4) (.ar .add .i64 (.var 0) (.ar .mul .i64 (.var 11000) (.var 1))))
                              (.next 0 ⟨[(0, (.ar .add .i64 (.var 11000) (.lit 1))), (2, (.var 11002)), (3, (.var 11003))], [(1, (.var 11001))], []⟩)
                              (.ite (.var 11001)
                                (.next 0 ⟨[(0, (.ar .add .i64 (.var 11000) (.lit 1))), (2, (.fn 136 (.i (.var 11002) (.i (.var 11003) (.i (.rd (.var 2) (.var 11000) 0) (.i (.rd (.var 2) (.var 11000) 1) .nil)))))), (3, (.fn 137 (.i (.var 11002) (.i (.var 11003) (.i (.rd (.var 2) (.var 11000) 0) (.i (.rd (.var 2) (.var 11000) 1) .nil))))))], [(1, (.lit true))], []⟩)
                                (.next 0 ⟨[(0, (.ar .add .i64 (.var 11000) (.lit 1))), (2, (.rd (.var 2) (.var 11000) 0)), (3, (.rd (.var 2) (.var 11000) 1))], [(1, (.lit true))], []⟩))))
                          (.ite (.cmp .lss (.var 4) (.ar .add .i64 (.ar .sub .i64 (.ar .add .i64 (.var 0) (.ar .mul .i64 (.var 11000) (.var 1))) (.var 1)) (.lit 1)))
                            (.ite (.cmp .lss (.ar .add .i64 (.var 0) (.ar .mul .i64 (.var 11000) (.var 1))) (.var 3))
                              (.next 0 ⟨[(0, (.ar .add .i64 (.var 11000) (.lit 1))), (2, (.var 11002)), (3, (.var 11003))], [(1, (.var 11001))], []⟩)
                              (.ite (.cmp .lss (.var 4) (.ar .add .i64 (.var 0) (.ar .mul .i64 (.var 11000) (.var 1))))
                                (.next 0 ⟨[(0, (.ar .add .i64 (.var 11000) (.lit 1))), (2, (.var 11002)), (3, (.var 11003))], [(1, (.var 11001))], []⟩)
                                (.ite (.var 11001)
                                  (.next 0 ⟨[(0, (.ar .add .i64 (.var 11000) (.lit 1))), (2, (.fn 136 (.i (.var 11002) (.i (.var 11003) (.i (.rd (.var 2) (.var 11000) 0) (.i (.rd (.var 2) (.var 11000) 1) .nil)))))), (3, (.fn 137 (.i (.var 11002) (.i (.var 11003) (.i (.rd (.var 2) (.var 11000) 0) (.i (.rd (.var 2) (.var 11000) 1) .nil))))))], [(1, (.lit true))], []⟩)
                                  (.next 0 ⟨[(0, (.ar .add .i64 (.var 11000) (.lit 1))), (2, (.rd (.var 2) (.var 11000) 0)), (3, (.rd (.var 2) (.var 11000) 1))], [(1, (.lit true))], []⟩))))
                            (.ite (.var 11001)
                              (.ite (.cmp .lss (.ar .add .i64 (.var 0) (.ar .mul .i64 (.var 11000) (.var 1))) (.var 3))
                                (.next 0 ⟨[(0, (.ar .add .i64 (.var 11000) (.lit 1))), (2, (.fn 136 (.i (.var 11002) (.i (.var 11003) (.i (.fn 136 (.i (.rd (.var 2) (.ar .sub .i64 (.var 11000) (.lit 1)) 0) (.i (.rd (.var 2) (.ar .sub .i64 (.var 11000) (.lit 1)) 1) (.i (.rd (.var 2) (.var 11000) 0) (.i (.rd (.var 2) (.var 11000) 1) .nil))))) (.i (.fn 137 (.i (.rd (.var 2) (.ar .sub .i64 (.var 11000) (.lit 1)) 0) (.i (.rd (.var 2) (.ar .sub .i64 (.var 11000) (.lit 1)) 1) (.i (.rd (.var 2) (.var 11000) 0) (.i (.rd (.var 2) (.var 11000) 1) .nil))))) .nil)))))), (3, (.fn 137 (.i (.var 11002) (.i (.var 11003) (.i (.fn 136 (.i (.rd (.var 2) (.ar .sub .i64 (.var 11000) (.lit 1)) 0) (.i (.rd (.var 2) (.ar .sub .i64 (.var 11000) (.lit 1)) 1) (.i (.rd (.var 2) (.var 11000) 0) (.i (.rd (.var 2) (.var 11000) 1) .nil))))) (.i (.fn 137 (.i (.rd (.var 2) (.ar .sub .i64 (.var 11000) (.lit 1)) 0) (.i (.rd (.var 2) (.ar .sub .i64 (.var 11000) (.lit 1)) 1) (.i (.rd (.var 2) (.var 11000) 0) (.i (.rd (.var 2) (.var 11000) 1) .nil))))) .nil))))))], [(1, (.lit true))], []⟩)
                                (.ite (.cmp .lss (.var 4) (.ar .add .i64 (.var 0) (.ar .mul .i64 (.var 11000) (.var 1))))
                                  (.next 0 ⟨[(0, (.ar .add .i64 (.var 11000) (.lit 1))), (2, (.fn 136 (.i (.var 11002) (.i (.var 11003) (.i (.fn 136 (.i (.rd (.var 2) (.ar .sub .i64 (.var 11000) (.lit 1)) 0) (.i (.rd (.var 2) (.ar .sub .i64 (.var 11000) (.lit 1)) 1) (.i (.rd (.var 2) (.var 11000) 0) (.i (.rd (.var 2) (.var 11000) 1) .nil))))) (.i (.fn 137 (.i (.rd (.var 2) (.ar .sub .i64 (.var 11000) (.lit 1)) 0) (.i (.rd (.var 2) (.ar .sub .i64 (.var 11000) (.lit 1)) 1) (.i (.rd (.var 2) (.var 11000) 0) (.i (.rd (.var 2) (.var 11000) 1) .nil))))) .nil)))))), (3, (.fn 137 (.i (.var 11002) (.i (.var 11003) (.i (.fn 136 (.i (.rd (.var 2) (.ar .sub .i64 (.var 11000) (.lit 1)) 0) (.i (.rd (.var 2) (.ar .sub .i64 (.var 11000) (.lit 1)) 1) (.i (.rd (.var 2) (.var 11000) 0) (.i (.rd (.var 2) (.var 11000) 1) .nil))))) (.i (.fn 137 (.i (.rd (.var 2) (.ar .sub .i64 (.var 11000) (.lit 1)) 0) (.i (.rd (.var 2) (.ar .sub .i64 (.var 11000) (.lit 1)) 1) (.i (.rd (.var 2) (.var 11000) 0) (.i (.rd (.var 2) (.var 11000) 1) .nil))))) .nil))))))], [(1, (.lit true))], []⟩)
                                  (.next 0 ⟨[(0, (.ar .add .i64 (.var 11000) (.lit 1))), (2, (.fn 136 (.i (.fn 136 (.i (.var 11002) (.i (.var 11003) (.i (.fn 136 (.i (.rd (.var 2) (.ar .sub .i64 (.var 11000) (.lit 1)) 0) (.i (.rd (.var 2) (.ar .sub .i64 (.var 11000) (.lit 1)) 1) (.i (.rd (.var 2) (.var 11000) 0) (.i (.rd (.var 2) (.var 11000) 1) .nil))))) (.i (.fn 137 (.i (.rd (.var 2) (.ar .sub .i64 (.var 11000) (.lit 1)) 0) (.i (.rd (.var 2) (.ar .sub .i64 (.var 11000) (.lit 1)) 1) (.i (.rd (.var 2) (.var 11000) 0) (.i (.rd (.var 2) (.var 11000) 1) .nil))))) .nil))))) (.i (.fn 137 (.i (.var 11002) (.i (.var 11003) (.i (.fn 136 (.i (.rd (.var 2) (.ar .sub .i64 (.var 11000) (.lit 1)) 0) (.i (.rd (.var 2) (.ar .sub .i64 (.var 11000) (.lit 1)) 1) (.i (.rd (.var 2) (.var 11000) 0) (.i (.rd (.var 2) (.var 11000) 1) .nil))))) (.i (.fn 137 (.i (.rd (.var 2) (.ar .sub .i64 (.var 11000) (.lit 1)) 0) (.i (.rd (.var 2) (.ar .sub .i64 (.var 11000) (.lit 1)) 1) (.i (.rd (.var 2) (.var 11000) 0) (.i (.rd (.var 2) (.var 11000) 1) .nil))))) .nil))))) (.i (.rd (.var 2) (.var 11000) 0) (.i (.rd (.var 2) (.var 11000) 1) .nil)))))), (3, (.fn 137 (.i (.fn 136 (.i (.var 11002) (.i (.var 11003) (.i (.fn 136 (.i (.rd (.var 2) (.ar .sub .i64 (.var 11000) (.lit 1)) 0) (.i (.rd (.var 2) (.ar .sub .i64 (.var 11000) (.lit 1)) 1) (.i (.rd (.var 2) (.var 11000) 0) (.i (.rd (.var 2) (.var 11000) 1) .nil))))) (.i (.fn 137 (.i (.rd (.var 2) (.ar .sub .i64 (.var 11000) (.lit 1)) 0) (.i (.rd (.var 2) (.ar .sub .i64 (.var 11000) (.lit 1)) 1) (.i (.rd (.var 2) (.var 11000) 0) (.i (.rd (.var 2) (.var 11000) 1) .nil))))) .nil))))) (.i (.fn 137 (.i (.var 11002) (.i (.var 11003) (.i (.fn 136 (.i (.rd (.var 2) (.ar .sub .i64 (.var 11000) (.lit 1)) 0) (.i (.rd (.var 2) (.ar .sub .i64 (.var 11000) (.lit 1)) 1) (.i (.rd (.var 2) (.var 11000) 0) (.i (.rd (.var 2) (.var 11000) 1) .nil))))) (.i (.fn 137 (.i (.rd (.var 2) (.ar .sub .i64 (.var 11000) (.lit 1)) 0) (.i (.rd (.var 2) (.ar .sub .i64 (.var 11000) (.lit 1)) 1) (.i (.rd (.var 2) (.var 11000) 0) (.i (.rd (.var 2) (.var 11000) 1) .nil))))) .nil))))) (.i (.rd (.var 2) (.var 11000) 0) (.i (.rd (.var 2) (.var 11000) 1) .nil))))))], [(1, (.lit true))], []⟩)))
                              (.ite (.cmp .lss (.ar .add .i64 (.var 0) (.ar .mul .i64 (.var 11000) (.var 1))) (.var 3))
                                (.next 0 ⟨[(0, (.ar .add .i64 (.var 11000) (.lit 1))), (2, (.fn 136 (.i (.rd (.var 2) (.ar .sub .i64 (.var 11000) (.lit 1)) 0) (.i (.rd (.var 2) (.ar .sub .i64 (.var 11000) (.lit 1)) 1) (.i (.rd (.var 2) (.var 11000) 0) (.i (.rd (.var 2) (.var 11000) 1) .nil)))))), (3, (.fn 137 (.i (.rd (.var 2) (.ar .sub .i64 (.var 11000) (.lit 1)) 0) (.i (.rd (.var 2) (.ar .sub .i64 (.var 11000) (.lit 1)) 1) (.i (.rd (.var 2) (.var 11000) 0) (.i (.rd (.var 2) (.var 11000) 1) .nil))))))], [(1, (.lit true))], []⟩)
                                (.ite (.cmp .lss (.var 4) (.ar .add .i64 (.var 0) (.ar .mul .i64 (.var 11000) (.var 1))))
                                  (.next 0 ⟨[(0, (.ar .add .i64 (.var 11000) (.lit 1))), (2, (.fn 136 (.i (.rd (.var 2) (.ar .sub .i64 (.var 11000) (.lit 1)) 0) (.i (.rd (.var 2) (.ar .sub .i64 (.var 11000) (.lit 1)) 1) (.i (.rd (.var 2) (.var 11000) 0) (.i (.rd (.var 2) (.var 11000) 1) .nil)))))), (3, (.fn 137 (.i (.rd (.var 2) (.ar .sub .i64 (.var 11000) (.lit 1)) 0) (.i (.rd (.var 2) (.ar .sub .i64 (.var 11000) (.lit 1)) 1) (.i (.rd (.var 2) (.var 11000) 0) (.i (.rd (.var 2) (.var 11000) 1) .nil))))))], [(1, (.lit true))], []⟩)
                                  (.next 0 ⟨[(0, (.ar .add .i64 (.var 11000) (.lit 1))), (2, (.fn 136 (.i (.fn 136 (.i (.rd (.var 2) (.ar .sub .i64 (.var 11000) (.lit 1)) 0) (.i (.rd (.var 2) (.ar .sub .i64 (.var 11000) (.lit 1)) 1) (.i (.rd (.var 2) (.var 11000) 0) (.i (.rd (.var 2) (.var 11000) 1) .nil))))) (.i (.fn 137 (.i (.rd (.var 2) (.ar .sub .i64 (.var 11000) (.lit 1)) 0) (.i (.rd (.var 2) (.ar .sub .i64 (.var 11000) (.lit 1)) 1) (.i (.rd (.var 2) (.var 11000) 0) (.i (.rd (.var 2) (.var 11000) 1) .nil))))) (.i (.rd (.var 2) (.var 11000) 0) (.i (.rd (.var 2) (.var 11000) 1) .nil)))))), (3, (.fn 137 (.i (.fn 136 (.i (.rd (.var 2) (.ar .sub .i64 (.var 11000) (.lit 1)) 0) (.i (.rd (.var 2) (.ar .sub .i64 (.var 11000) (.lit 1)) 1) (.i (.rd (.var 2) (.var 11000) 0) (.i (.rd (.var 2) (.var 11000) 1) .nil))))) (.i (.fn 137 (.i (.rd (.var 2) (.ar .sub .i64 (.var 11000) (.lit 1)) 0) (.i (.rd (.var 2) (.ar .sub .i64 (.var 11000) (.lit 1)) 1) (.i (.rd (.var 2) (.var 11000) 0) (.i (.rd (.var 2) (.var 11000) 1) .nil))))) (.i (.rd (.var 2) (.var 11000) 0) (.i (.rd (.var 2) (.var 11000) 1) .nil))))))], [(1, (.lit true))], []⟩))))))))
                        (.ite (.cmp .lss (.ar .add .i64 (.var 0) (.ar .mul .i64 (.var 11000) (.var 1))) (.var 3))
                          (.next 0 ⟨[(0, (.ar .add .i64 (.var 11000) (.lit 1))), (2, (.var 11002)), (3, (.var 11003))], [(1, (.var 11001))], []⟩)
                          (.ite (.cmp .lss (.var 4) (.ar .add .i64 (.var 0) (.ar .mul .i64 (.var 11000) (.var 1))))
                            (.next 0 ⟨[(0, (.ar .add .i64 (.var 11000) (.lit 1))), (2, (.var 11002)), (3, (.var 11003))], [(1, (.var 11001))], []⟩)
                            (.ite (.var 11001)
                              (.next 0 ⟨[(0, (.ar .add .i64 (.var 11000) (.lit 1))), (2, (.fn 136 (.i (.var 11002) (.i (.var 11003) (.i (.rd (.var 2) (.var 11000) 0) (.i (.rd (.var 2) (.var 11000) 1) .nil)))))), (3, (.fn 137 (.i (.var 11002) (.i (.var 11003) (.i (.rd (.var 2) (.var 11000) 0) (.i (.rd (.var 2) (.var 11000) 1) .nil))))))], [(1, (.lit true))], []⟩)
                              (.next 0 ⟨[(0, (.ar .add .i64 (.var 11000) (.lit 1))), (2, (.rd (.var 2) (.var 11000) 0)), (3, (.rd (.var 2) (.var 11000) 1))], [(1, (.lit true))], []⟩)))))
                      (.ite (.cmp .lss (.ar .add .i64 (.var 0) (.ar .mul .i64 (.var 11000) (.var 1))) (.var 3))
                        (.next 0 ⟨[(0, (.ar .add .i64 (.var 11000) (.lit 1))), (2, (.var 11002)), (3, (.var 11003))], [(1, (.var 11001))], []⟩)
                        (.ite (.cmp .lss (.var 4) (.ar .add .i64 (.var 0) (.ar .mul .i64 (.var 11000) (.var 1))))
                          (.next 0 ⟨[(0, (.ar .add .i64 (.var 11000) (.lit 1))), (2, (.var 11002)), (3, (.var 11003))], [(1, (.var 11001))], []⟩)
                          (.ite (.var 11001)
                            (.next 0 ⟨[(0, (.ar .add .i64 (.var 11000) (.lit 1))), (2, (.fn 136 (.i (.var 11002) (.i (.var 11003) (.i (.rd (.var 2) (.var 11000) 0) (.i (.rd (.var 2) (.var 11000) 1) .nil)))))), (3, (.fn 137 (.i (.var 11002) (.i (.var 11003) (.i (.rd (.var 2) (.var 11000) 0) (.i (.rd (.var 2) (.var 11000) 1) .nil))))))], [(1, (.lit true))], []⟩)
                            (.next 0 ⟨[(0, (.ar .add .i64 (.var 11000) (.lit 1))), (2, (.rd (.var 2) (.var 11000) 0)), (3, (.rd (.var 2) (.var 11000) 1))], [(1, (.lit true))], []⟩)))))))
                    (.ret ((.tup [(.agg [(.z (.int .i64 (.var 11002))), (.z (.int .i64 (.var 11003)))]), (.one (.z (.int .i64 (.lit 0))))]), [], 15))))))))
        (.ret ((.tup [(.agg [(.z (.int .i64 (.lit 0))), (.z (.int .i64 (.lit 0)))]), (.one (.z (.int .i64 (.lit 1))))]), [], 4))))
    (.ret ((.tup [(.agg [(.z (.int .i64 (.lit 0))), (.z (.int .i64 (.lit 0)))]), (.one (.z (.int .i64 (.lit 1))))]), [], 4))))
-- end trHeight
set_option maxRecDepth 100000 in
theorem trHeight_is : T.norm 0 (call Try.prog ctU4 (Lt.of []) 100 8 (symArgs 0 [tid, it, it]) [] 0) TT.ret = trHeight := by kernel_rfl
theorem trHeight_low : trHeight.low 1000 = true := by kernel_rfl
end Go.Proofs.Ytocghebdcpfalaa
/- TopMoored: heights at some times. -/
namespace Go.Proofs.Ytocghebdcpfalaa
open Go.RowKit
/-- What is known so far: whether there is some height; from, to. -/
structure Hgt where
  (some : Bool) (lo hi : Int)
def Hgt.upd (fr un : Int) (st : Hgt) (a b lo hi : Int) : Hgt :=
  if b < fr then st else if un < a then st else if st.some then ⟨true, sjA [.i st.lo, .i st.hi, .i lo, .i hi], sjB [.i st.lo, .i st.hi, .i lo, .i hi]⟩ else ⟨true, lo, hi⟩
def Hgt.round (r : Rows) (s p fr un : Int) (k : Nat) (st : Hgt) : Hgt :=
  Hgt.upd fr un (if (0 : Int) < k then (if 1 < p then Hgt.upd fr un st (s + k * p - p + 1) (s + k * p - 1) (sjA [.i (lg r ((k : Int) - 1) 0), .i (lg r ((k : Int) - 1) 1), .i (lg r k 0), .i (lg r k 1)]) (sjB [.i (lg r ((k : Int) - 1) 0), .i (lg r ((k : Int) - 1) 1), .i (lg r k 0), .i (lg r k 1)]) else st) else st)
    (s + k * p) (s + k * p) (lg r k 0) (lg r k 1)
def hgtN (r : Rows) (s p fr un : Int) : Nat → Hgt
  | 0 => ⟨false, 0, 0⟩
  | k + 1 => Hgt.round r s p fr un k (hgtN r s p fr un k)
def heO (ds : List D) : Bool := tideL ds && (timeB (iAt ds 3) && (timeB (iAt ds 4) && decide (iAt ds 3 ≤ iAt ds 4)))
def heX (ds : List D) : Bool := heO ds && decide (iAt ds 0 ≤ iAt ds 3 ∧ iAt ds 4 ≤ lastT (iAt ds 0) (iAt ds 1) (rAt ds 2))
def heN (ds : List D) : Hgt := hgtN (rAt ds 2) (iAt ds 0) (iAt ds 1) (iAt ds 3) (iAt ds 4) (rAt ds 2).length
def heA (ds : List D) : Int := if heX ds then (heN ds).lo else 0
def heB (ds : List D) : Int := if heX ds then (heN ds).hi else 0
def heE (ds : List D) : Int := if heX ds then 0 else if heO ds then 4 else 1
theorem Ka4b114 (W : World) (ds l : List D) : (envOf Ka4 W ds).fb 114 l = tideL l := by simp only [envOf, Ka4, Ka3, Ka2, Ka1, K7, K6, K5, K]
theorem Ka4i136 (W : World) (ds l : List D) : (envOf Ka4 W ds).fi 136 l = sjA l := by simp only [envOf, Ka4, Ka3, Ka2, Ka1, K7, K6, K5, K]
theorem Ka4i137 (W : World) (ds l : List D) : (envOf Ka4 W ds).fi 137 l = sjB l := by simp only [envOf, Ka4, Ka3, Ka2, Ka1, K7, K6, K5, K]
theorem tide_3 (ds : List D) : tideL [.i (iAt ds 0), .i (iAt ds 1), .l (rAt ds 2)] = tideL ds := rfl
set_option maxHeartbeats 2000000 in
theorem gHeight : Gives Try.prog 8 [tid, it, it] (fun ds => .tuple #[.agg #[.int .i64 (heA ds), .int .i64 (heB ds)], .int .i64 (heE ds)]) := by
  refine GivesIf.all (fn_gives Ka4 (by kernel_rfl) (fun ρ h => ctU4_ok (Sees.of h 160)) (by kernel_rfl) trHeight_is trHeight_low (by decide) (fun W vals ds _ _ => ?_))
  simp only [trHeight, TT.sat_ret, TT.sat_ite, TT.sat_ob, TT.sat_next, TT.sat_stuck, put_i, put_b, put_d, put_fi, put_fb, put_fd, Ob.ok, B.ev, E.ev, X.ev, AL.ev, cmp_t, cmp_f, arEv, V.plain, V2.plain, S.plain, S0.plain, V.val, V2.val, S.val, S0.val, bV, iV, List.all_cons, List.all_nil, Bool.and_true, Bool.and_self, envOf_i, envOf_b, envOf_d, List.map_cons, List.map_nil, true_and, Bool.not_eq_true', Bool.not_eq_false', Bool.not_not, Bool.and_eq_true, and_f, cell_lg, cell_lb, cell_lr, cmpP, val_i, val_b, val_d, aget, Nat.reduceBEq, beq_self_eq_true, Bool.false_eq_true, if_true, if_false, Nat.reduceLT, Nat.reduceSub, Nat.sub_self, Nat.lt_irrefl, Ka4b114, Ka4i136, Ka4i137, tide_3]
  have F : heO ds = false → Value.tuple #[.agg #[.int .i64 0, .int .i64 0], .int .i64 1] = Value.tuple #[.agg #[.int .i64 (heA ds), .int .i64 (heB ds)], .int .i64 (heE ds)] := fun h => by simp [heA, heB, heE, heX, h]
  have eO : heO ds = true ↔ tideL ds = true ∧ (0 ≤ iAt ds 3 ∧ iAt ds 3 ≤ 10000000) ∧ (0 ≤ iAt ds 4 ∧ iAt ds 4 ≤ 10000000) ∧ iAt ds 3 ≤ iAt ds 4 := by
    simp only [heO, timeB, Bool.and_eq_true, decide_eq_true_eq]
  have N : ¬ heO ds = true → heO ds = false := fun h => by rwa [Bool.not_eq_true] at h
  refine ⟨fun h => F (by rw [heO, h]; rfl), fun hT => ⟨fun h1 => ⟨fun h2 => F (N fun q => by have := eO.1 q; omega), fun h2 => ⟨fun h3 => ⟨fun h4 => F (N fun q => by have := eO.1 q; omega), fun h4 => ⟨fun h5 => F (N fun q => by have := eO.1 q; omega), fun h5 => ?_⟩⟩, fun h3 => F (N fun q => by have := eO.1 q; omega)⟩⟩, fun h1 => F (N fun q => by have := eO.1 q; omega)⟩⟩
  have hO : heO ds = true := eO.2 ⟨hT, by omega, by omega, by omega⟩
  have hT' : (0 ≤ iAt ds 0 ∧ iAt ds 0 ≤ 10000000) ∧ (1 ≤ iAt ds 1 ∧ iAt ds 1 ≤ 1000 ∧ 1 ≤ (rAt ds 2).length ∧ (rAt ds 2).length ≤ 200) ∧ (0 ≤ lastT (iAt ds 0) (iAt ds 1) (rAt ds 2) ∧ lastT (iAt ds 0) (iAt ds 1) (rAt ds 2) ≤ 10000000) ∧ tideN (rAt ds 2) (rAt ds 2).length 0 = true := by
    have e : tideL ds = (timeB (iAt ds 0) && (decide (1 ≤ iAt ds 1 ∧ iAt ds 1 ≤ 1000 ∧ 1 ≤ (rAt ds 2).length ∧ (rAt ds 2).length ≤ 200) && (timeB (lastT (iAt ds 0) (iAt ds 1) (rAt ds 2)) && tideN (rAt ds 2) (rAt ds 2).length 0))) := rfl
    rw [e] at hT
    simpa only [timeB, Bool.and_eq_true, decide_eq_true_eq] using hT
  have hm : 0 ≤ ((rAt ds 2).length - 1 : Int) * iAt ds 1 ∧ ((rAt ds 2).length - 1 : Int) * iAt ds 1 ≤ 200 * 1000 := ⟨Int.mul_nonneg (by omega) (by omega), Int.mul_le_mul (by omega) (by omega) (by omega) (by omega)⟩
  have hl : IntKind.i64.wrap (iAt ds 0 + IntKind.i64.wrap (IntKind.i64.wrap (((rAt ds 2).length : Int) - 1) * iAt ds 1)) = lastT (iAt ds 0) (iAt ds 1) (rAt ds 2) := by
    rw [wrap_in (((rAt ds 2).length : Int) - 1) (by omega) (by omega), wrap_in ((((rAt ds 2).length : Int) - 1) * iAt ds 1) (by omega) (by omega), wrap_in _ (by omega) (by omega)]
    rfl
  rw [hl]
  have G : heX ds = false → Value.tuple #[.agg #[.int .i64 0, .int .i64 0], .int .i64 4] = Value.tuple #[.agg #[.int .i64 (heA ds), .int .i64 (heB ds)], .int .i64 (heE ds)] := fun h => by simp [heA, heB, heE, h, hO]
  refine ⟨fun h6 => G (by rw [heX, decide_eq_false (by omega), Bool.and_false]), fun h6 => ⟨fun h7 => G (by rw [heX, decide_eq_false (by omega), Bool.and_false]), fun h7 => ?_⟩⟩
  have hX : heX ds = true := by rw [heX, hO, decide_eq_true ⟨by omega, by omega⟩]; rfl
  refine TT.sat_loop (fun v => ∃ k : Nat, v.i 0 = k ∧ k ≤ (rAt ds 2).length ∧ hgtN (rAt ds 2) (iAt ds 0) (iAt ds 1) (iAt ds 3) (iAt ds 4) k = ⟨v.b 1, v.i 2, v.i 3⟩) (fun v => (rAt ds 2).length - (v.i 0).toNat) ⟨0, by simp [val_i, aget, E.ev], by omega, by simp [val_i, val_b, aget, E.ev, B.ev, hgtN]⟩ (fun v hv => ?_)
  obtain ⟨k, k0, k1, k2⟩ := hv
  have step := show hgtN (rAt ds 2) (iAt ds 0) (iAt ds 1) (iAt ds 3) (iAt ds 4) (k + 1) = Hgt.round (rAt ds 2) (iAt ds 0) (iAt ds 1) (iAt ds 3) (iAt ds 4) k ⟨v.b 1, v.i 2, v.i 3⟩ by rw [hgtN, k2]
  unfold Hgt.round Hgt.upd at step
  simp only [TT.sat_ret, TT.sat_ite, TT.sat_ob, TT.sat_next, TT.sat_stuck, put_i, put_b, put_d, put_fi, put_fb, put_fd, Ob.ok, B.ev, E.ev, X.ev, AL.ev, cmp_t, cmp_f, arEv, V.plain, V2.plain, S.plain, S0.plain, V.val, V2.val, S.val, S0.val, bV, iV, List.all_cons, List.all_nil, Bool.and_true, Bool.and_self, envOf_i, envOf_b, envOf_d, List.map_cons, List.map_nil, true_and, Bool.not_eq_true', Bool.not_eq_false', Bool.not_not, Bool.and_eq_true, and_f, cell_lg, cell_lb, cell_lr, cmpP, val_i, val_b, val_d, aget, Nat.reduceBEq, beq_self_eq_true, Bool.false_eq_true, if_true, if_false, Nat.reduceLT, Nat.reduceSub, Nat.sub_self, Nat.lt_irrefl, k0, Ka4i136, Ka4i137]
  refine ⟨fun hc => ?_, fun hc => ?_⟩
  · have hkp : 0 ≤ (k : Int) * iAt ds 1 ∧ (k : Int) * iAt ds 1 ≤ 200 * 1000 := ⟨Int.mul_nonneg (by omega) (by omega), Int.mul_le_mul (by omega) (by omega) (by omega) (by omega)⟩
    rw [wrap_in ((k : Int) * iAt ds 1) (by omega) (by omega), wrap_in (iAt ds 0 + (k : Int) * iAt ds 1) (by omega) (by omega), wrap_in (iAt ds 0 + (k : Int) * iAt ds 1 - 1) (by omega) (by omega), wrap_in (iAt ds 0 + (k : Int) * iAt ds 1 - iAt ds 1) (by omega) (by omega), wrap_in (iAt ds 0 + (k : Int) * iAt ds 1 - iAt ds 1 + 1) (by omega) (by omega), wrap_in ((k : Int) + 1) (by omega) (by omega), wrap_in ((k : Int) - 1) (by omega) (by omega)]
    have nx : ∀ b lo hi, hgtN (rAt ds 2) (iAt ds 0) (iAt ds 1) (iAt ds 3) (iAt ds 4) (k + 1) = ⟨b, lo, hi⟩ → (∃ j : Nat, (k : Int) + 1 = j ∧ j ≤ (rAt ds 2).length ∧ hgtN (rAt ds 2) (iAt ds 0) (iAt ds 1) (iAt ds 3) (iAt ds 4) j = ⟨b, lo, hi⟩) ∧ (rAt ds 2).length - ((k : Int) + 1).toNat < (rAt ds 2).length - (k : Int).toNat :=
      fun b lo hi h => ⟨⟨k + 1, by omega, by omega, h⟩, by omega⟩
    repeat' (first | refine And.intro ?_ ?_ | intro _)
    all_goals first
      | omega
      | (refine (nx _ _ _ ?_).1
         rw [step]
         clear nx step k2 F N G eO hT' hm hl hX hO hT h1 h2 h3 h4 h5 h6 h7 k0 k1 hkp
         simp only [*, if_true, if_false, not_false_eq_true, Bool.false_eq_true, if_pos, if_neg])
  · have e : k = (rAt ds 2).length := by omega
    have : heN ds = ⟨v.b 1, v.i 2, v.i 3⟩ := by unfold heN; rw [← e]; exact k2
    unfold heA heB heE
    rw [hX, this]
    rfl
end Go.Proofs.Ytocghebdcpfalaa
/- TopMoored: trees of what a report allows. -/
namespace Go.Proofs.Ytocghebdcpfalaa
open Go.RowKit
-- term trSAllows: call Try.prog ctU5 (Lt.of []) 100 16 (symArgs 0 [rep, pt]) [] 0
def trSAllows : TT OpR :=
(.ite (.not (.fn 102 (.i (.var 0) (.i (.var 1) (.i (.var 2) (.i (.var 3) (.i (.var 4) (.i (.var 5) (.i (.var 6) (.i (.var 7) (.i (.var 8) (.i (.var 9) (.i (.var 10) (.i (.var 11) (.i (.var 12) .nil)))))))))))))))
  (.ret ((.tup [(.one (.z (.bool (.lit false)))), (.one (.z (.int .i64 (.lit 1))))]), [], 2))
  (.ite (.not (.fn 3 (.i (.var 13) (.i (.var 14) .nil))))
    (.ret ((.tup [(.one (.z (.bool (.lit false)))), (.one (.z (.int .i64 (.lit 1))))]), [], 2))
    (.ob (.tru (.fn 161 (.i (.var 0) (.i (.var 1) (.i (.var 2) (.i (.var 3) (.i (.var 4) (.i (.var 5) (.i (.var 6) (.i (.var 7) (.i (.var 8) (.i (.var 9) (.i (.var 10) (.i (.var 11) (.i (.var 12) (.i (.var 13) (.i (.var 13) (.i (.var 14) (.i (.var 14) .nil)))))))))))))))))))
    (.ret ((.tup [(.one (.z (.bool (.fn 160 (.i (.var 0) (.i (.var 1) (.i (.var 2) (.i (.var 3) (.i (.var 4) (.i (.var 5) (.i (.var 6) (.i (.var 7) (.i (.var 8) (.i (.var 9) (.i (.var 10) (.i (.var 11) (.i (.var 12) (.i (.var 13) (.i (.var 13) (.i (.var 14) (.i (.var 14) .nil))))))))))))))))))))), (.one (.z (.int .i64 (.lit 0))))]), [], 2)))))
-- end trSAllows
set_option maxRecDepth 100000 in
theorem trSAllows_is : T.norm 0 (call Try.prog ctU5 (Lt.of []) 100 16 (symArgs 0 [rep, pt]) [] 0) TT.ret = trSAllows := by kernel_rfl
theorem trSAllows_low : trSAllows.low 1000 = true := by kernel_rfl
-- term trSWedge: call Try.prog ctU5 (Lt.of []) 100 13 (symArgs 0 [rep, bx]) [] 0
def trSWedge : TT OpR :=
(.ite (.not (.fn 102 (.i (.var 0) (.i (.var 1) (.i (.var 2) (.i (.var 3) (.i (.var 4) (.i (.var 5) (.i (.var 6) (.i (.var 7) (.i (.var 8) (.i (.var 9) (.i (.var 10) (.i (.var 11) (.i (.var 12) .nil)))))))))))))))
  (.ret ((.tup [(.one (.z (.bool (.lit false)))), (.one (.z (.int .i64 (.lit 1))))]), [], 2))
  (.ite (.not (.fn 31 (.i (.var 13) (.i (.var 14) (.i (.var 15) (.i (.var 16) .nil))))))
    (.ret ((.tup [(.one (.z (.bool (.lit false)))), (.one (.z (.int .i64 (.lit 1))))]), [], 2))
    (.ob (.tru (.fn 161 (.i (.var 0) (.i (.var 1) (.i (.var 2) (.i (.var 3) (.i (.var 4) (.i (.var 5) (.i (.var 6) (.i (.var 7) (.i (.var 8) (.i (.var 9) (.i (.var 10) (.i (.var 11) (.i (.var 12) (.i (.var 13) (.i (.var 14) (.i (.var 15) (.i (.var 16) .nil)))))))))))))))))))
    (.ret ((.tup [(.one (.z (.bool (.fn 160 (.i (.var 0) (.i (.var 1) (.i (.var 2) (.i (.var 3) (.i (.var 4) (.i (.var 5) (.i (.var 6) (.i (.var 7) (.i (.var 8) (.i (.var 9) (.i (.var 10) (.i (.var 11) (.i (.var 12) (.i (.var 13) (.i (.var 14) (.i (.var 15) (.i (.var 16) .nil))))))))))))))))))))), (.one (.z (.int .i64 (.lit 0))))]), [], 2)))))
-- end trSWedge
set_option maxRecDepth 100000 in
theorem trSWedge_is : T.norm 0 (call Try.prog ctU5 (Lt.of []) 100 13 (symArgs 0 [rep, bx]) [] 0) TT.ret = trSWedge := by kernel_rfl
theorem trSWedge_low : trSWedge.low 1000 = true := by kernel_rfl
end Go.Proofs.Ytocghebdcpfalaa
/- TopMoored: what a report allows. -/
namespace Go.Proofs.Ytocghebdcpfalaa
open Go.RowKit
def alO (ds : List D) : Bool := repL ds && placeB (iAt ds 13) (iAt ds 14)
def alR (ds : List D) : Bool := alO ds && (repOf ds).sees (iAt ds 13) (iAt ds 13) (iAt ds 14) (iAt ds 14)
def alE (ds : List D) : Int := if alO ds then 0 else 1
def weO (ds : List D) : Bool := repL ds && boxB (iAt ds 13) (iAt ds 14) (iAt ds 15) (iAt ds 16)
def weR (ds : List D) : Bool := weO ds && (repOf ds).sees (iAt ds 13) (iAt ds 14) (iAt ds 15) (iAt ds 16)
def weE (ds : List D) : Int := if weO ds then 0 else 1
theorem Ka5b3 (W : World) (ds l : List D) : (envOf Ka5 W ds).fb 3 l = placeL l := by simp only [envOf, Ka5, Ka4, Ka3, Ka2, Ka1, K7, K6, K5, K]
theorem Ka5b31 (W : World) (ds l : List D) : (envOf Ka5 W ds).fb 31 l = boxL l := by simp only [envOf, Ka5, Ka4, Ka3, Ka2, Ka1, K7, K6, K5, K]
theorem Ka5b102 (W : World) (ds l : List D) : (envOf Ka5 W ds).fb 102 l = repL l := by simp only [envOf, Ka5, Ka4, Ka3, Ka2, Ka1, K7, K6, K5, K]
theorem Ka5b160 (W : World) (ds l : List D) : (envOf Ka5 W ds).fb 160 l = seesL l := by simp only [envOf, Ka5, Ka4, Ka3, Ka2, Ka1, K7, K6, K5, K]
theorem Ka5b161 (W : World) (ds l : List D) : (envOf Ka5 W ds).fb 161 l = seesOk l := by simp only [envOf, Ka5, Ka4, Ka3, Ka2, Ka1, K7, K6, K5, K]
theorem gSAllows : Gives Try.prog 16 [rep, pt] (fun ds => .tuple #[.bool (alR ds), .int .i64 (alE ds)]) := by
  refine GivesIf.all (fn_gives Ka5 (by kernel_rfl) (fun ρ h => ctU5_ok (Sees.of h 170)) (by kernel_rfl) trSAllows_is trSAllows_low (by decide) (fun W vals ds _ _ => ?_))
  simp only [trSAllows, TT.sat_ret, TT.sat_ite, TT.sat_ob, TT.sat_next, TT.sat_stuck, put_i, put_b, put_d, put_fi, put_fb, put_fd, Ob.ok, B.ev, E.ev, X.ev, AL.ev, cmp_t, cmp_f, arEv, V.plain, V2.plain, S.plain, S0.plain, V.val, V2.val, S.val, S0.val, bV, iV, List.all_cons, List.all_nil, Bool.and_true, Bool.and_self, envOf_i, envOf_b, envOf_d, List.map_cons, List.map_nil, true_and, Bool.not_eq_true', Bool.not_eq_false', Bool.not_not, Bool.and_eq_true, and_f, cell_lg, cell_lb, cell_lr, cmpP, val_i, val_b, val_d, aget, Nat.reduceBEq, beq_self_eq_true, Bool.false_eq_true, if_true, if_false, Nat.reduceLT, Nat.reduceSub, Nat.sub_self, Nat.lt_irrefl, Ka5b3, Ka5b102, Ka5b160, Ka5b161, rep_13, place_2]
  have F : alO ds = false → Value.tuple #[.bool false, .int .i64 1] = Value.tuple #[.bool (alR ds), .int .i64 (alE ds)] := fun h => by simp [alR, alE, h]
  refine ⟨fun h => F (by rw [alO, h]; rfl), fun h => ⟨fun h2 => F (by rw [alO, h2, Bool.and_false]), fun h2 => ⟨?_, ?_⟩⟩⟩
  · show (repL ds && boxB (iAt ds 13) (iAt ds 13) (iAt ds 14) (iAt ds 14)) = true
    rw [h, Bool.true_and]
    simp only [placeB, boxB, decide_eq_true_eq] at h2 ⊢
    omega
  · have hO : alO ds = true := by rw [alO, h, h2]; rfl
    unfold alR alE
    rw [hO]
    rfl
theorem gSWedge : Gives Try.prog 13 [rep, bx] (fun ds => .tuple #[.bool (weR ds), .int .i64 (weE ds)]) := by
  refine GivesIf.all (fn_gives Ka5 (by kernel_rfl) (fun ρ h => ctU5_ok (Sees.of h 170)) (by kernel_rfl) trSWedge_is trSWedge_low (by decide) (fun W vals ds _ _ => ?_))
  simp only [trSWedge, TT.sat_ret, TT.sat_ite, TT.sat_ob, TT.sat_next, TT.sat_stuck, put_i, put_b, put_d, put_fi, put_fb, put_fd, Ob.ok, B.ev, E.ev, X.ev, AL.ev, cmp_t, cmp_f, arEv, V.plain, V2.plain, S.plain, S0.plain, V.val, V2.val, S.val, S0.val, bV, iV, List.all_cons, List.all_nil, Bool.and_true, Bool.and_self, envOf_i, envOf_b, envOf_d, List.map_cons, List.map_nil, true_and, Bool.not_eq_true', Bool.not_eq_false', Bool.not_not, Bool.and_eq_true, and_f, cell_lg, cell_lb, cell_lr, cmpP, val_i, val_b, val_d, aget, Nat.reduceBEq, beq_self_eq_true, Bool.false_eq_true, if_true, if_false, Nat.reduceLT, Nat.reduceSub, Nat.sub_self, Nat.lt_irrefl, Ka5b31, Ka5b102, Ka5b160, Ka5b161, rep_13, box_4]
  have F : weO ds = false → Value.tuple #[.bool false, .int .i64 1] = Value.tuple #[.bool (weR ds), .int .i64 (weE ds)] := fun h => by simp [weR, weE, h]
  refine ⟨fun h => F (by rw [weO, h]; rfl), fun h => ⟨fun h2 => F (by rw [weO, h2, Bool.and_false]), fun h2 => ⟨?_, ?_⟩⟩⟩
  · show (repL ds && boxB (iAt ds 13) (iAt ds 14) (iAt ds 15) (iAt ds 16)) = true
    rw [h, h2]; rfl
  · have hO : weO ds = true := by rw [weO, h, h2]; rfl
    unfold weR weE
    rw [hO]
    rfl
/-- All symbols so far. -/
def Ka6 : Interp where
  fi n l := match n with | 171 => alE l | 173 => weE l | n => Ka5.fi n l
  fb n l := match n with | 170 => alR l | 172 => weR l | n => Ka5.fb n l
  fd _ _ := []
theorem Ka6_Ka5 {ρ : Env} (h : Sees ρ Ka6 180) : Sees ρ Ka5 170 := h.trans (by decide) fun n l hn => by
  refine ⟨?_, ?_⟩
  ·
    simp only [Ka6]
    split <;> first | omega | rfl
  ·
    simp only [Ka6]
    split <;> first | omega | rfl
def cSAllows := ctD [rep, pt] fun al => .ret (.tup [.one (sBF 170 alR al), .one (sIF 171 alE al)])
theorem cSAllows_ok {ρ : Env} (h : Sees ρ Ka6 180) : CtOne Try.prog ρ 16 cSAllows :=
  ctD_ok gSAllows (fun _ => rfl) (fun al => by simp only [V.val, V2.val, S.val, S0.val, sIF, sBF, List.map_cons, List.map_nil, bF_ev (s := 170) (f := alR) (fun l => by rw [(h 170 l (by decide)).2]; simp only [Ka6, Ka5, Ka4, Ka3, Ka2, Ka1, K7, K6, K5, K]), iF_ev (s := 171) (f := alE) (fun l => by rw [(h 171 l (by decide)).1]; simp only [Ka6, Ka5, Ka4, Ka3, Ka2, Ka1, K7, K6, K5, K])]; try rfl)
def cSWedge := ctD [rep, bx] fun al => .ret (.tup [.one (sBF 172 weR al), .one (sIF 173 weE al)])
theorem cSWedge_ok {ρ : Env} (h : Sees ρ Ka6 180) : CtOne Try.prog ρ 13 cSWedge :=
  ctD_ok gSWedge (fun _ => rfl) (fun al => by simp only [V.val, V2.val, S.val, S0.val, sIF, sBF, List.map_cons, List.map_nil, bF_ev (s := 172) (f := weR) (fun l => by rw [(h 172 l (by decide)).2]; simp only [Ka6, Ka5, Ka4, Ka3, Ka2, Ka1, K7, K6, K5, K]), iF_ev (s := 173) (f := weE) (fun l => by rw [(h 173 l (by decide)).1]; simp only [Ka6, Ka5, Ka4, Ka3, Ka2, Ka1, K7, K6, K5, K])]; try rfl)
def ctU6 : Ct := (16, cSAllows) :: (13, cSWedge) :: ctU5
theorem ctU6_ok {ρ : Env} (h : Sees ρ Ka6 180) : CtOk Try.prog ρ ctU6 := .cons (cSAllows_ok h) <| .cons (cSWedge_ok h) (ctU5_ok (Ka6_Ka5 h))
end Go.Proofs.Ytocghebdcpfalaa
/- TopMoored: the tree of the law's head. -/
namespace Go.Proofs.Ytocghebdcpfalaa
open Go.RowKit
-- term trHead24: call Try.prog [] ltC 200 4 [] [] 0
def trHead24 : TT OpR :=
(.ret ((.v (.one (.z (.bool (.lit true))))), [], 222))
-- end trHead24
set_option maxRecDepth 100000 in
theorem trHead24_is : T.norm 0 (call Try.prog [] ltC 200 4 [] [] 0) TT.ret = trHead24 := by kernel_rfl
theorem trHead24_low : trHead24.low 1000 = true := by kernel_rfl
end Go.Proofs.Ytocghebdcpfalaa
/- TopMoored: the tree of Wrong. -/
namespace Go.Proofs.Ytocghebdcpfalaa
open Go.RowKit
-- term trWrong: call Try.prog ctU6 (Lt.of []) 100 7 (symArgs 0 [reps, pt]) [] 0
def trWrong : TT OpR :=
(.ite (.not (.fn 130 (.x (.var 0) .nil)))
  (.ret ((.tup [(.one (.z (.const (.slice none 0 0)))), (.one (.z (.int .i64 (.lit 1))))]), [], 1))
  (.ite (.not (.fn 3 (.i (.var 1) (.i (.var 2) .nil))))
    (.ret ((.tup [(.one (.z (.const (.slice none 0 0)))), (.one (.z (.int .i64 (.lit 1))))]), [], 1))
    (.loop 0 2000 ⟨[(0, (.lit 0)), (2, (.lit 0)), (0, (.lit 0))], [], [(1, .nil)]⟩
      (.ite (.cmp .lss (.var 2002) (.len (.var 0)))
        (.ob (.tru (.cmp .leq (.lit 0) (.var 2002)))
        (.ob (.tru (.cmp .lss (.var 2002) (.len (.var 0))))
        (.ite (.not (.fn 170 (.i (.rd (.var 0) (.var 2002) 0) (.i (.rd (.var 0) (.var 2002) 1) (.i (.rd (.var 0) (.var 2002) 2) (.i (.rd (.var 0) (.var 2002) 3) (.i (.rd (.var 0) (.var 2002) 4) (.i (.rd (.var 0) (.var 2002) 5) (.i (.rd (.var 0) (.var 2002) 6) (.i (.rd (.var 0) (.var 2002) 7) (.i (.rd (.var 0) (.var 2002) 8) (.i (.rd (.var 0) (.var 2002) 9) (.i (.rd (.var 0) (.var 2002) 10) (.i (.rd (.var 0) (.var 2002) 11) (.i (.rd (.var 0) (.var 2002) 12) (.i (.var 1) (.i (.var 2) .nil)))))))))))))))))
          (.ob (.tru (.cmp .leq (.len (.app (.var 2001) (.app (.row (.i (.var 2002) .nil)) .nil))) (.lit 1000000)))
          (.next 0 ⟨[(0, (.plus (.var 2000) (.lit 1))), (2, (.ar .add .i64 (.var 2002) (.lit 1))), (0, (.plus (.var 2000) (.lit 1)))], [], [(1, (.app (.var 2001) (.app (.row (.i (.var 2002) .nil)) .nil)))]⟩))
          (.next 0 ⟨[(0, (.var 2000)), (2, (.ar .add .i64 (.var 2002) (.lit 1))), (0, (.var 2000))], [], [(1, (.var 2001))]⟩))))
        (.ret ((.tup [(.one (.z (.own 2 (.var 2000)))), (.one (.z (.int .i64 (.lit 0))))]), [(2, (.own 3 [(.int .i64)] (.var 2001) (.var 2000))), (0, (.cells 23 [(.z (.int .i64 (.var 1))), (.z (.int .i64 (.var 2)))])), (0, (.cells 23 [(.z (.int .i64 (.var 1))), (.z (.int .i64 (.var 2)))]))], 5))))))
-- end trWrong
set_option maxRecDepth 100000 in
theorem trWrong_is : T.norm 0 (call Try.prog ctU6 (Lt.of []) 100 7 (symArgs 0 [reps, pt]) [] 0) TT.ret = trWrong := by kernel_rfl
theorem trWrong_low : trWrong.low 1000 = true := by kernel_rfl
end Go.Proofs.Ytocghebdcpfalaa
/- TopMoored: which reports are wrong. -/
namespace Go.Proofs.Ytocghebdcpfalaa
open Go.RowKit
/-- Does the report with this number allow a place? -/
def alAt (r : Rows) (i : Nat) (x y : Int) : Bool := alR (repAt r i ++ [.i x, .i y])
theorem alAt_eq (r : Rows) (i : Nat) (x y : Int) : alR [D.i (lg r i 0), .i (lg r i 1), .i (lg r i 2), .i (lg r i 3), .i (lg r i 4), .i (lg r i 5), .i (lg r i 6), .i (lg r i 7), .i (lg r i 8), .i (lg r i 9), .i (lg r i 10), .i (lg r i 11), .i (lg r i 12), .i x, .i y] = alAt r i x y := rfl
/-- The numbers below i of those that do not. -/
def wrongP (r : Rows) (x y : Int) : Nat → Rows
  | 0 => []
  | i + 1 => if alAt r i x y then wrongP r x y i else wrongP r x y i ++ [[.i i]]
theorem wrongP_len (r : Rows) (x y : Int) : ∀ i, (wrongP r x y i).length ≤ i
  | 0 => Nat.le_refl _
  | i + 1 => by
    have := wrongP_len r x y i
    rw [wrongP]
    split
    · omega
    · rw [List.length_append]; simp; omega
def wrO (ds : List D) : Bool := repsL ds && placeB (iAt ds 1) (iAt ds 2)
def wrongR (ds : List D) : Rows := if wrO ds then wrongP (rAt ds 0) (iAt ds 1) (iAt ds 2) (rAt ds 0).length else []
def wrongE (ds : List D) : Int := if wrO ds then 0 else 1
theorem tup2_den {ρ : Env} {σ : As} {s : S0} {k : IntKind} {e : E} {u : Value} (h : V.den ρ σ (.tup [.one (.z s), .one (.z (.int k e))]) u) : ∃ v, S0.den ρ σ s v ∧ u = .tuple #[v, .int k (e.ev ρ)] := by
  obtain ⟨vs, h, rfl⟩ := h
  obtain ⟨v, vs, rfl, h1, h⟩ := DL.cons_inv h
  obtain ⟨w, vs, rfl, h2, h⟩ := DL.cons_inv h
  obtain rfl := DL.nil_inv h
  obtain rfl : w = .int k (e.ev ρ) := h2
  exact ⟨v, h1, rfl⟩
theorem Ka6b3 (W : World) (ds l : List D) : (envOf Ka6 W ds).fb 3 l = placeL l := by simp only [envOf, Ka6, Ka5, Ka4, Ka3, Ka2, Ka1, K7, K6, K5, K]
theorem Ka6b130 (W : World) (ds l : List D) : (envOf Ka6 W ds).fb 130 l = repsL l := by simp only [envOf, Ka6, Ka5, Ka4, Ka3, Ka2, Ka1, K7, K6, K5, K]
theorem Ka6b170 (W : World) (ds l : List D) : (envOf Ka6 W ds).fb 170 l = alR l := by simp only [envOf, Ka6, Ka5, Ka4, Ka3, Ka2, Ka1, K7, K6, K5, K]
theorem reps_1 (ds : List D) : repsL [.l (rAt ds 0)] = repsL ds := rfl
theorem gWrong : GivesLIf Try.prog 7 [reps, pt] 3 [.int .i64] (fun _ => True) wrongR (fun ds v => .tuple #[v, .int .i64 (wrongE ds)]) := by
  refine fn_givesL Ka6 (by kernel_rfl) (fun ρ h => ctU6_ok (Sees.of h 180)) (by kernel_rfl) trWrong_is trWrong_low (by decide) (fun W vals ds _ _ => ?_)
  simp only [trWrong, TT.sat_ret, TT.sat_ite, TT.sat_ob, TT.sat_next, TT.sat_stuck, put_i, put_b, put_d, put_fi, put_fb, put_fd, Ob.ok, B.ev, E.ev, X.ev, AL.ev, cmp_t, cmp_f, arEv, V.plain, V2.plain, S.plain, S0.plain, V.val, V2.val, S.val, S0.val, bV, iV, List.all_cons, List.all_nil, Bool.and_true, Bool.and_self, envOf_i, envOf_b, envOf_d, List.map_cons, List.map_nil, true_and, Bool.not_eq_true', Bool.not_eq_false', Bool.not_not, Bool.and_eq_true, and_f, cell_lg, cell_lb, cell_lr, cmpP, val_i, val_b, val_d, aget, Nat.reduceBEq, beq_self_eq_true, Bool.false_eq_true, if_true, if_false, Nat.reduceLT, Nat.reduceSub, Nat.sub_self, Nat.lt_irrefl, Ka6b3, Ka6b130, Ka6b170, place_2, reps_1]
  have F : wrO ds = false → ∃ s x, lrows [] 3 [.int .i64] s = some x ∧ x.ev (envOf Ka6 W ds) = wrongR ds ∧ ∀ (σ : As) u, V.den (envOf Ka6 W ds) σ (.tup [.one (.z (.const (.slice none 0 0))), .one (.z (.int .i64 (.lit 1)))]) u → ∃ v, S0.den (envOf Ka6 W ds) σ s v ∧ u = .tuple #[v, .int .i64 (wrongE ds)] := fun h =>
    ⟨.const (.slice none 0 0), .nil, rfl, by unfold wrongR; rw [h]; rfl, fun σ u hu => by
      obtain ⟨v, h1, rfl⟩ := tup2_den hu
      exact ⟨v, h1, by unfold wrongE; rw [h]; rfl⟩⟩
  refine ⟨fun h => F (by rw [wrO, h]; rfl), fun h => ⟨fun h2 => F (by rw [wrO, h2, Bool.and_false]), fun h2 => ?_⟩⟩
  have hO : wrO ds = true := by rw [wrO, h, h2]; rfl
  have hl := (repsB_iff.1 (show repsB (rAt ds 0) = true from h)).1
  refine TT.sat_loop (fun v => ∃ i : Nat, v.i 2 = i ∧ i ≤ (rAt ds 0).length ∧ v.d 1 = wrongP (rAt ds 0) (iAt ds 1) (iAt ds 2) i) (fun v => (rAt ds 0).length - (v.i 2).toNat) ⟨0, by simp [val_i, aget, E.ev], by omega, by simp [val_d, aget, X.ev, wrongP]⟩ (fun v hv => ?_)
  obtain ⟨i, i0, i1, i2⟩ := hv
  have hpl := wrongP_len (rAt ds 0) (iAt ds 1) (iAt ds 2) i
  simp only [TT.sat_ret, TT.sat_ite, TT.sat_ob, TT.sat_next, TT.sat_stuck, put_i, put_b, put_d, put_fi, put_fb, put_fd, Ob.ok, B.ev, E.ev, X.ev, AL.ev, cmp_t, cmp_f, arEv, V.plain, V2.plain, S.plain, S0.plain, V.val, V2.val, S.val, S0.val, bV, iV, List.all_cons, List.all_nil, Bool.and_true, Bool.and_self, envOf_i, envOf_b, envOf_d, List.map_cons, List.map_nil, true_and, Bool.not_eq_true', Bool.not_eq_false', Bool.not_not, Bool.and_eq_true, and_f, cell_lg, cell_lb, cell_lr, cmpP, val_i, val_b, val_d, aget, Nat.reduceBEq, beq_self_eq_true, Bool.false_eq_true, if_true, if_false, Nat.reduceLT, Nat.reduceSub, Nat.sub_self, Nat.lt_irrefl, i0, Ka6b170, alAt_eq]
  refine ⟨fun hc => ⟨by omega, hc, fun hb => ⟨?_, ?_, ?_⟩, fun hb => ⟨?_, ?_⟩⟩, fun hc => ?_⟩
  · rw [i2]; simp; omega
  · rw [wrap_in _ (by omega) (by omega)]
    exact ⟨i + 1, by omega, by omega, by rw [wrongP, hb, i2]; simp⟩
  · rw [wrap_in _ (by omega) (by omega)]; omega
  · rw [wrap_in _ (by omega) (by omega)]
    exact ⟨i + 1, by omega, by omega, by rw [wrongP, hb, i2]; simp⟩
  · rw [wrap_in _ (by omega) (by omega)]; omega
  · have e : i = (rAt ds 0).length := by omega
    refine ⟨.own 2 (.var 2000), .var 2001, by kernel_rfl, ?_, fun σ u hu => ?_⟩
    · simp only [TT.sat_ret, TT.sat_ite, TT.sat_ob, TT.sat_next, TT.sat_stuck, put_i, put_b, put_d, put_fi, put_fb, put_fd, Ob.ok, B.ev, E.ev, X.ev, AL.ev, cmp_t, cmp_f, arEv, V.plain, V2.plain, S.plain, S0.plain, V.val, V2.val, S.val, S0.val, bV, iV, List.all_cons, List.all_nil, Bool.and_true, Bool.and_self, envOf_i, envOf_b, envOf_d, List.map_cons, List.map_nil, true_and, Bool.not_eq_true', Bool.not_eq_false', Bool.not_not, Bool.and_eq_true, and_f, cell_lg, cell_lb, cell_lr, cmpP, val_i, val_b, val_d, aget, Nat.reduceBEq, beq_self_eq_true, Bool.false_eq_true, if_true, if_false, Nat.reduceLT, Nat.reduceSub, Nat.sub_self, Nat.lt_irrefl]
      rw [i2, e]
      unfold wrongR
      rw [hO]
      rfl
    · obtain ⟨v', h1, rfl⟩ := tup2_den hu
      refine ⟨v', h1, ?_⟩
      unfold wrongE
      rw [hO]
      rfl
end Go.Proofs.Ytocghebdcpfalaa
/- TopMoored: all contracts for the law. -/
namespace Go.Proofs.Ytocghebdcpfalaa
open Go.RowKit
theorem gHead24 : Gives Try.prog 4 [] (fun _ => .bool true) := by
  refine GivesIf.all (fn_gives I0 (by kernel_rfl) (fun ρ _ => CtOk.nil) (by kernel_rfl) trHead24_is trHead24_low (by decide) (fun W vals ds hr _ => ?_))
  simp only [trHead24, TT.sat_ret, TT.sat_ite, TT.sat_ob, TT.sat_next, TT.sat_stuck, put_i, put_b, put_d, put_fi, put_fb, put_fd, Ob.ok, B.ev, E.ev, X.ev, AL.ev, cmp_t, cmp_f, arEv, V.plain, V2.plain, S.plain, S0.plain, V.val, V2.val, S.val, S0.val, bV, iV, List.all_cons, List.all_nil, Bool.and_true, Bool.and_self, envOf_i, envOf_b, envOf_d, List.map_cons, List.map_nil, true_and, Bool.not_eq_true', Bool.not_eq_false', Bool.not_not, Bool.and_eq_true, and_f, cell_lg, cell_lb, cell_lr, cmpP, val_i, val_b, val_d, aget, Nat.reduceBEq, beq_self_eq_true, Bool.false_eq_true, if_true, if_false, Nat.reduceLT, Nat.reduceSub, Nat.sub_self, Nat.lt_irrefl]
def cHead24 := ctD [] fun _ => .ret (bV (.lit true))
theorem cHead24_ok {ρ : Env} : CtOne Try.prog ρ 4 cHead24 :=
  ctD_ok gHead24 (fun _ => rfl) (fun _ => rfl)
/-- All symbols so far. -/
def Ka7 : Interp where
  fi n l := match n with | 180 => heA l | 181 => heB l | 182 => heE l | 183 => wrongE l | n => Ka6.fi n l
  fb n l := Ka6.fb n l
  fd _ _ := []
theorem Ka7_Ka6 {ρ : Env} (h : Sees ρ Ka7 200) : Sees ρ Ka6 180 := h.trans (by decide) fun n l hn => by
  refine ⟨?_, ?_⟩
  ·
    simp only [Ka7]
    split <;> first | omega | rfl
  ·
    rfl
def cHeight := ctD [tid, it, it] fun al => .ret (.tup [.agg [sIF 180 heA al, sIF 181 heB al], .one (sIF 182 heE al)])
theorem cHeight_ok {ρ : Env} (h : Sees ρ Ka7 200) : CtOne Try.prog ρ 8 cHeight :=
  ctD_ok gHeight (fun _ => rfl) (fun al => by simp only [V.val, V2.val, S.val, S0.val, sIF, sBF, List.map_cons, List.map_nil, iF_ev (s := 180) (f := heA) (fun l => by rw [(h 180 l (by decide)).1]; simp only [Ka7, Ka6, Ka5, Ka4, Ka3, Ka2, Ka1, K7, K6, K5, K]), iF_ev (s := 181) (f := heB) (fun l => by rw [(h 181 l (by decide)).1]; simp only [Ka7, Ka6, Ka5, Ka4, Ka3, Ka2, Ka1, K7, K6, K5, K]), iF_ev (s := 182) (f := heE) (fun l => by rw [(h 182 l (by decide)).1]; simp only [Ka7, Ka6, Ka5, Ka4, Ka3, Ka2, Ka1, K7, K6, K5, K])]; try rfl)
/-- .. with the list of the wrong ones. -/
def KaL : Interp := { Ka7 with fd := fun n l => match n with | 184 => wrongR l | _ => [] }
theorem KaL_sees {ρ : Env} (h : ρ.has KaL) : Sees ρ Ka7 200 := fun n l _ => by rw [h.1, h.2.1]; exact ⟨rfl, rfl⟩
def cWrong := ctL [reps, pt] 3 [.int .i64] 184 (fun _ => []) (fun al s => .tup [.one (.z s), .one (sIF 183 wrongE al)])
theorem cWrong_ok {ρ : Env} (h : ρ.has KaL) : CtOne Try.prog ρ 7 cWrong := by
  have h5 : ∀ l, ρ.fd 184 l = wrongR l := fun l => by rw [h.2.2]; rfl
  have h6 : ∀ l, ρ.fi 183 l = wrongE l := fun l => by rw [(KaL_sees h 183 l (by decide)).1]; simp only [Ka7]
  refine ctL_ok gWrong (by kernel_rfl) h5 (fun _ _ => trivial) (fun al σ s v hs => ?_)
  refine ⟨[v, .int .i64 (wrongE (al.ev ρ))], ⟨hs, ?_, trivial⟩, rfl⟩
  show Value.int .i64 (wrongE (al.ev ρ)) = .int .i64 ((iF 183 wrongE al).ev ρ)
  rw [iF_ev h6]
def ctU7 : Ct := (4, cHead24) :: (8, cHeight) :: (7, cWrong) :: ctU6
theorem ctU7_ok {ρ : Env} (h : ρ.has KaL) : CtOk Try.prog ρ ctU7 := .cons cHead24_ok <| .cons (cHeight_ok (KaL_sees h)) <| .cons (cWrong_ok h) (ctU6_ok (Ka7_Ka6 (KaL_sees h)))
end Go.Proofs.Ytocghebdcpfalaa
