/- PixelMoved: the walk, as its row wants it. -/
import Derived.Test.YtglkjeeiiflpjaaR
import Derived.Test.YtglkjeeiiflpjaaHMoved
namespace Go.Proofs.Ytglkjeeiiflpjaa.R
open Go.RowKit Go.Proofs.Ytglkjeeiiflpjaa.F
theorem PixelMoved_walk (a b c d e f k x y : Int) (w : World) (_ : (Lit.int .i64 a).wf = true) (_ : (Lit.int .i64 b).wf = true) (_ : (Lit.int .i64 c).wf = true) (_ : (Lit.int .i64 d).wf = true) (_ : (Lit.int .i64 e).wf = true) (_ : (Lit.int .i64 f).wf = true) (_ : (Lit.int .i64 k).wf = true) (_ : (Lit.int .i64 x).wf = true) (_ : (Lit.int .i64 y).wf = true) :
    Calls Try.prog 7 #[.agg #[.int .i64 a, .int .i64 b, .int .i64 c, .int .i64 d], .agg #[.int .i64 e, .int .i64 f], .agg #[.int .i64 k, .int .i64 x, .int .i64 y]] w fun e w' => e = .returned (.bool true) ∧ Below w.heap.size w w' :=
  pixelMoved.walk a b c d e f k x y w
end Go.Proofs.Ytglkjeeiiflpjaa.R
