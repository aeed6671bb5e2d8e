/- OrderMet: the walk, as its row wants it. -/
import Derived.Test.YtcfnheoppaelbaaR
import Derived.Test.YtcfnheoppaelbaaHMet
namespace Go.Proofs.Ytcfnheoppaelbaa.R
open Go.RowKit Go.Proofs.Ytcfnheoppaelbaa.F
theorem OrderMet_walk (a b c d e f g h k : Int) (w : World) (_ : (Lit.int .i64 a).wf = true) (_ : (Lit.int .i64 b).wf = true) (_ : (Lit.int .i64 c).wf = true) (_ : (Lit.int .i64 d).wf = true) (_ : (Lit.int .i64 e).wf = true) (_ : (Lit.int .i64 f).wf = true) (_ : (Lit.int .i64 g).wf = true) (_ : (Lit.int .i64 h).wf = true) (_ : (Lit.int .i64 k).wf = true) :
    Calls Try.prog 3 #[.agg #[.int .i64 a, .int .i64 b, .int .i64 c, .int .i64 d], .agg #[.int .i64 e, .int .i64 f, .int .i64 g, .int .i64 h], .int .i64 k] w fun e w' => e = .returned (.bool true) ∧ Below w.heap.size w w' :=
  orderMet.walk a b c d e f g h k w
end Go.Proofs.Ytcfnheoppaelbaa.R
