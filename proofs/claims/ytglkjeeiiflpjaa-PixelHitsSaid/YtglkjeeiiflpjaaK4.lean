/- PixelHits: in plain numbers, and the walk as the row wants it. -/
import Derived.Test.YtglkjeeiiflpjaaBN8
import Derived.Test.YtglkjeeiiflpjaaBN5
import Derived.Test.YtglkjeeiiflpjaaPV
import Derived.Test.YtglkjeeiiflpjaaF4
namespace Go.Proofs.Ytglkjeeiiflpjaa.PxM
open Go.RowKit Go.Proofs.Ytglkjeeiiflpjaa.F Go.Proofs.YtglkjeeiiflpjaaW.PrintWords Go.Proofs.YtglkjeeiiflpjaaW.PrintLast Go.Proofs.YtglkjeeiiflpjaaW.PrintMore
theorem hits4 (ax ay bx yb x y k : Int) : Ev (fun n => pixel_Hits.f n ax ay bx yb x y k) (hitsB ax ay bx yb x y k) :=
  ⟨1, fun n hn => by obtain ⟨m, rfl⟩ : ∃ m, n = m + 1 := ⟨n - 1, by omega⟩; exact Hits_eq m _ _ _ _ _ _ _⟩
theorem no4 {ax ay bx yb x y k : Int} (h : hitsB ax ay bx yb x y k = false) : Ev (fun n => cobweblaw06_PixelHits.j0 n k (hitsB ax ay bx yb x y k) true ax ay bx yb x y) true := by
  refine Ev.step (f := fun _ => Option.some true) (fun n => ?_) (Ev.now _)
  simp [cobweblaw06_PixelHits.j0, cobweblaw06_alive.f, h]
theorem wr4 {x s : Int} (h0 : 1 ≤ s) (h1 : s ≤ 268435456) (h : -134217728 ≤ x * s ∧ x * s ≤ 134217728) :
    wrap64 ((wrap64 ((wrap64 (2 * s)) * x)) - s) = 2 * (x * s) - s ∧ wrap64 ((wrap64 ((wrap64 ((wrap64 (2 * s)) * x)) - s)) + (wrap64 (2 * s))) = 2 * (x * s) + s := by
  have e : 2 * s * x = 2 * (x * s) := by rw [Int.mul_assoc, Int.mul_comm s x]
  rw [w64 (x := 2 * s) (by omega) (by omega), e]
  generalize x * s = z at *
  rw [w64 (x := 2 * z) (by omega) (by omega), w64 (x := 2 * z - s) (by omega) (by omega), w64 (by omega) (by omega)]
  omega
theorem size4 {k : Int} (h0 : 0 ≤ k) (h1 : k ≤ 28) : Ev (fun n => cobwebref03_Size.f n k) (sz k) := Ev.of (fun n => cobwebref03_Size.mono _ n) (Size_eq h0 h1)
theorem PixelHits_pure {ax ay bx yb x y k : Int} (hx : -9223372036854775808 ≤ x ∧ x ≤ 9223372036854775807) (hy : -9223372036854775808 ≤ y ∧ y ≤ 9223372036854775807) : ∃ n, cobweblaw06_PixelHits.f n ax ay bx yb x y k = Option.some true := by
  refine Ev.rounds ?_
  unfold cobweblaw06_PixelHits.f
  refine Ev.bind (hits4 ax ay bx yb x y k) ?_
  simp only [Rung_eq, Option.bind_some]
  by_cases hk : k = rungR k
  · obtain ⟨h0, h1⟩ := rungR_eq hk
    simp only [if_pos hk]
    refine Ev.bind (BN.In_ev h0 h1 hx hy) ?_
    cases hi : (nearB k x && nearB k y) with
    | false =>
      exact no4 (by unfold hitsB; rw [hi]; simp)
    | true =>
      have hs := sz_bounds h0 h1
      have hi' := hi
      rw [Bool.and_eq_true] at hi'
      have e1 := wr4 hs.1 hs.2 (near_of h0 h1 hi'.1)
      have e2 := wr4 hs.1 hs.2 (near_of h0 h1 hi'.2)
      have eh : hitsB ax ay bx yb x y k = meetsB ax ay bx yb (2 * (x * sz k) - sz k) (2 * (y * sz k) - sz k) (2 * (x * sz k) + sz k) (2 * (y * sz k) + sz k) 0 := by
        unfold hitsB
        rw [hi, decide_eq_true h0, decide_eq_true h1]
        rfl
      refine Ev.step (f := fun n => (cobwebref03_Size.f n k).bind fun t107 => ((cobwebref06_Meets.f n ax ay bx yb (wrap64 ((wrap64 ((wrap64 (2 * t107)) * x)) - t107)) (wrap64 ((wrap64 ((wrap64 (2 * t107)) * y)) - t107)) (wrap64 ((wrap64 ((wrap64 ((wrap64 (2 * t107)) * x)) - t107)) + (wrap64 (2 * t107)))) (wrap64 ((wrap64 ((wrap64 ((wrap64 (2 * t107)) * y)) - t107)) + (wrap64 (2 * t107)))) 0).bind fun t110 => Option.some (hitsB ax ay bx yb x y k == t110))) (fun n => ?_) (Ev.bind (size4 h0 h1) ?_)
      · simp [cobweblaw06_PixelHits.j0, cobweblaw06_alive.f]
      · rw [e1.2, e1.1, e2.2, e2.1]
        refine Ev.bind BN.Meets_ev ?_
        rw [eh, beq_self_eq_true]
        exact Ev.now _
  · simp only [if_neg hk]
    refine no4 ?_
    unfold hitsB
    by_cases h0 : 0 ≤ k
    · by_cases h1 : k ≤ 28
      · exact absurd (by unfold rungR; rw [if_neg (by omega), if_neg (by omega)]) hk
      · rw [decide_eq_false h1]; simp
    · rw [decide_eq_false h0]; simp
end Go.Proofs.Ytglkjeeiiflpjaa.PxM
namespace Go.Proofs.Ytglkjeeiiflpjaa.R
open Go.RowKit Go.Proofs.Ytglkjeeiiflpjaa.F
theorem wf4 {a : Int} (h : (Lit.int .i64 a).wf = true) : -9223372036854775808 ≤ a ∧ a ≤ 9223372036854775807 := by
  have h2 : (decide (IntKind.i64.min ≤ a) && decide (a ≤ IntKind.i64.max)) = true := h
  rw [Bool.and_eq_true, decide_eq_true_eq, decide_eq_true_eq, show IntKind.i64.min = -9223372036854775808 from rfl, show IntKind.i64.max = 9223372036854775807 from rfl] at h2
  exact h2
theorem PixelHits_walk (a b c d e f k : Int) (w : World) (_ : (Lit.int .i64 a).wf = true) (_ : (Lit.int .i64 b).wf = true) (_ : (Lit.int .i64 c).wf = true) (_ : (Lit.int .i64 d).wf = true) (he : (Lit.int .i64 e).wf = true) (hf : (Lit.int .i64 f).wf = true) (_ : (Lit.int .i64 k).wf = true) :
    Calls Try.prog 4 #[.agg #[.int .i64 a, .int .i64 b, .int .i64 c, .int .i64 d], .agg #[.int .i64 e, .int .i64 f], .int .i64 k] w fun e w' => e = .returned (.bool true) ∧ Below w.heap.size w w' := by
  obtain ⟨n, hn⟩ := PxM.PixelHits_pure (ax := a) (ay := b) (bx := c) (yb := d) (x := e) (y := f) (k := k) (wf4 he) (wf4 hf)
  exact cobweblaw06_PixelHits.calls n a b c d e f k true w hn
end Go.Proofs.Ytglkjeeiiflpjaa.R
