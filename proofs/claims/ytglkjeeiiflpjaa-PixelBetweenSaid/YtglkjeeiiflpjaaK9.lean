/- PixelBetween: the walk as the row wants it. -/
import Derived.Test.YtglkjeeiiflpjaaP9
namespace Go.Proofs.Ytglkjeeiiflpjaa.R
open Go.RowKit Go.Proofs.Ytglkjeeiiflpjaa.F
theorem PixelBetween_walk (a b c d e f k : Int) (w : World) (_ : (Lit.int .i64 a).wf = true) (_ : (Lit.int .i64 b).wf = true) (_ : (Lit.int .i64 c).wf = true) (_ : (Lit.int .i64 d).wf = true) (_ : (Lit.int .i64 e).wf = true) (_ : (Lit.int .i64 f).wf = true) (_ : (Lit.int .i64 k).wf = true) :
    Calls Try.prog 9 #[.agg #[.int .i64 a, .int .i64 b, .int .i64 c, .int .i64 d], .agg #[.int .i64 e, .int .i64 f], .int .i64 k] w fun e w' => e = .returned (.bool true) ∧ Below w.heap.size w w' := by
  obtain ⟨n, hn⟩ := PxM.PixelBetween_pure (ax := a) (ay := b) (bx := c) (yb := d) (qx := e) (qy := f) (k := k)
  exact cobweblaw06_PixelBetween.calls n a b c d e f k true w hn
end Go.Proofs.Ytglkjeeiiflpjaa.R
