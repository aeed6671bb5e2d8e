/- OrderAlong: the walk as the row wants it. -/
import Derived.Test.YtfjhelbmopdbiaaK6
namespace Go.Proofs.Ytfjhelbmopdbiaa.R
open Go.RowKit Go.Proofs.Ytfjhelbmopdbiaa.F
theorem OrderAlong_walk (ax ay bx yb px py qx qy : Int) (w : World) (_ : (Lit.int .i64 ax).wf = true) (_ : (Lit.int .i64 ay).wf = true) (_ : (Lit.int .i64 bx).wf = true) (_ : (Lit.int .i64 yb).wf = true) (_ : (Lit.int .i64 px).wf = true) (_ : (Lit.int .i64 py).wf = true) (_ : (Lit.int .i64 qx).wf = true) (_ : (Lit.int .i64 qy).wf = true) :
    Calls Try.prog 6 #[.agg #[.int .i64 ax, .int .i64 ay], .agg #[.int .i64 bx, .int .i64 yb], .agg #[.int .i64 px, .int .i64 py, .int .i64 qx, .int .i64 qy]] w fun e w' => e = .returned (.bool true) ∧ Below w.heap.size w w' := OrderAlong_calls ax ay bx yb px py qx qy w
end Go.Proofs.Ytfjhelbmopdbiaa.R
