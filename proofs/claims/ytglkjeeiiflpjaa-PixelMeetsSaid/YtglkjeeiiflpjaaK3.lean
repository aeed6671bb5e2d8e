/- PixelMeets: the walk as the row wants it. -/
import Derived.Test.YtglkjeeiiflpjaaBN8
import Derived.Test.YtglkjeeiiflpjaaF3
namespace Go.Proofs.Ytglkjeeiiflpjaa.PxM
open Go.RowKit Go.Proofs.Ytglkjeeiiflpjaa.F Go.Proofs.YtglkjeeiiflpjaaW.PrintWords Go.Proofs.YtglkjeeiiflpjaaW.PrintLast Go.Proofs.YtglkjeeiiflpjaaW.PrintMore
theorem PixelMeets_pure {ax ay bx yb lx ly hx hy k : Int} : ∃ n, cobweblaw06_PixelMeets.f n ax ay bx yb lx ly hx hy k = Option.some true := by
  obtain ⟨n, hn⟩ := (BN.Meets_ev (ax := ax) (ay := ay) (bx := bx) (yb := yb) (lx := lx) (ly := ly) (hx := hx) (hy := hy) (k := k)).rounds
  refine ⟨n, ?_⟩
  unfold cobweblaw06_PixelMeets.f
  rw [hn]
  simp [pixel_Meets.f, cobweblaw06_alive.f]
end Go.Proofs.Ytglkjeeiiflpjaa.PxM
namespace Go.Proofs.Ytglkjeeiiflpjaa.R
open Go.RowKit Go.Proofs.Ytglkjeeiiflpjaa.F
theorem PixelMeets_walk (a b c d e f g h k : Int) (w : World) (_ : (Lit.int .i64 a).wf = true) (_ : (Lit.int .i64 b).wf = true) (_ : (Lit.int .i64 c).wf = true) (_ : (Lit.int .i64 d).wf = true) (_ : (Lit.int .i64 e).wf = true) (_ : (Lit.int .i64 f).wf = true) (_ : (Lit.int .i64 g).wf = true) (_ : (Lit.int .i64 h).wf = true) (_ : (Lit.int .i64 k).wf = true) :
    Calls Try.prog 3 #[.agg #[.int .i64 a, .int .i64 b, .int .i64 c, .int .i64 d], .agg #[.int .i64 e, .int .i64 f, .int .i64 g, .int .i64 h], .int .i64 k] w fun e w' => e = .returned (.bool true) ∧ Below w.heap.size w w' := by
  obtain ⟨n, hn⟩ := PxM.PixelMeets_pure (ax := a) (ay := b) (bx := c) (yb := d) (lx := e) (ly := f) (hx := g) (hy := h) (k := k)
  exact cobweblaw06_PixelMeets.calls n a b c d e f g h k true w hn
end Go.Proofs.Ytglkjeeiiflpjaa.R
