/- The law MooringMatchesReference, by the symbolic executor. -/
import Derived.Test.YtfefbckpocbeaaaGreatKa
namespace Go.Proofs.YtfefbckpocbeaaaGreat
open Go.RowKit

set_option maxRecDepth 100000 in
theorem law_matches (ax ay dlo dhi ch tlo thi h id sym most px py a b c d : Int) (w : World) :
    Calls Tryz.prog 3 #[.agg #[.int .i64 ax, .int .i64 ay, .int .i64 dlo, .int .i64 dhi, .int .i64 ch], .agg #[.int .i64 tlo, .int .i64 thi], .int .i64 h, .int .i64 id, .int .i64 sym, .int .i64 most, .agg #[.int .i64 px, .int .i64 py], .agg #[.int .i64 a, .int .i64 b, .int .i64 c, .int .i64 d]] w (Ret w (.bool true)) := by
  have he : call Tryz.prog ct15 200 3 [.v (.agg [vi 0, vi 1, vi 2, vi 3, vi 4]), .v (.agg [vi 5, vi 6]), .v (.one (vi 7)), .v (.one (vi 8)), .v (.one (vi 9)), .v (.one (vi 10)), .v (.agg [vi 11, vi 12]), .v (.agg [vi 13, vi 14, vi 15, vi 16])] [] 0
      = .ret (bV (.lit true), [], 10) := by kernel_rfl
  let ρ : Env := { i := fun k => [ax, ay, dlo, dhi, ch, tlo, thi, h, id, sym, most, px, py, a, b, c, d].getD k 0, b := fun _ => false, x := fun _ => undef, fi := kfi, fb := kfb, w := w }
  exact exec_args (ρ := ρ) (by kernel_rfl) (ct15_ok rfl rfl) (ctEnter_of (by kernel_rfl)) he (Below.refl _ _) rfl ⟨rfl, rfl⟩
end Go.Proofs.YtfefbckpocbeaaaGreat
