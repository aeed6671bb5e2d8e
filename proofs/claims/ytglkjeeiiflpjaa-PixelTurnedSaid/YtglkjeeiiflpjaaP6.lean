/- PixelTurned, in plain numbers. -/
import Derived.Test.YtglkjeeiiflpjaaPM
import Derived.Test.YtglkjeeiiflpjaaF6
namespace Go.Proofs.Ytglkjeeiiflpjaa.PxM
open Go.RowKit Go.Proofs.Ytglkjeeiiflpjaa.F Go.Proofs.YtglkjeeiiflpjaaW.PrintWords Go.Proofs.YtglkjeeiiflpjaaW.PrintLast Go.Proofs.YtglkjeeiiflpjaaW.PrintMore
theorem alive_now : cobweblaw06_alive.f 9 = Option.some true := by decide +kernel
theorem alive_ev : Ev (fun k => cobweblaw06_alive.f k) true := Ev.of cobweblaw06_alive.mono alive_now
theorem PixelTurned_pure (ax ay bx yb lx ly hx hy : Int) : ∃ k, cobweblaw06_PixelTurned.f k ax ay bx yb lx ly hx hy = Option.some true := by
  have t0 := meetsB_turn ax ay bx yb lx ly hx hy 0
  have t1 := meetsB_turn ax ay bx yb lx ly hx hy 1
  have t2 := meetsB_turn ax ay bx yb lx ly hx hy 2
  have o1 := @open_half ax ay bx yb lx ly hx hy
  have o2 := @half_shut ax ay bx yb lx ly hx hy
  generalize ho : meetsB ax ay bx yb lx ly hx hy 2 = o at *
  generalize hh : meetsB ax ay bx yb lx ly hx hy 0 = h at *
  generalize hs : meetsB ax ay bx yb lx ly hx hy 1 = s at *
  refine Ev.rounds (Ev.congr (f := fun k => cobweblaw06_PixelTurned.l0 k o h s [h, s, o] 3 0 ax ay bx yb lx ly hx hy) (fun k => ?_) ?_)
  · simp only [cobweblaw06_PixelTurned.f, pixel_Meets.f, ho, hh, hs, Option.bind_some]
    rfl
  have w1 : wrap64 (0 + 1) = 1 := by unfold wrap64; omega
  have w2 : wrap64 (1 + 1) = 2 := by unfold wrap64; omega
  have w3 : wrap64 (2 + 1) = 3 := by unfold wrap64; omega
  have e0 : ∀ k, cobweblaw06_PixelTurned.l0 (k + 1) o h s [h, s, o] 3 0 ax ay bx yb lx ly hx hy = cobweblaw06_PixelTurned.l0 k o h s [h, s, o] 3 1 ax ay bx yb lx ly hx hy := by
    intro k
    simp only [cobweblaw06_PixelTurned.l0, pixel_Meets.f, t0, Option.bind_some, w1]
    simp [rdOf]
  have e1 : ∀ k, cobweblaw06_PixelTurned.l0 (k + 1) o h s [h, s, o] 3 1 ax ay bx yb lx ly hx hy = cobweblaw06_PixelTurned.l0 k o h s [h, s, o] 3 2 ax ay bx yb lx ly hx hy := by
    intro k
    simp only [cobweblaw06_PixelTurned.l0, pixel_Meets.f, t1, Option.bind_some, w2]
    simp [rdOf]
  have e2 : ∀ k, cobweblaw06_PixelTurned.l0 (k + 1) o h s [h, s, o] 3 2 ax ay bx yb lx ly hx hy = cobweblaw06_PixelTurned.l0 k o h s [h, s, o] 3 3 ax ay bx yb lx ly hx hy := by
    intro k
    simp only [cobweblaw06_PixelTurned.l0, pixel_Meets.f, t2, Option.bind_some, w3]
    simp [rdOf]
  refine Ev.step e0 (Ev.step e1 (Ev.step e2 (Ev.step (f := fun k => (cobweblaw06_alive.f k).bind fun t111 => (if t111 = true then (if o = true then (if h = true then (Option.some s) else (Option.some false)) else (if h = true then (Option.some s) else (Option.some true))) else (Option.some false))) (fun k => ?_) ?_)))
  · simp only [cobweblaw06_PixelTurned.l0]
    rw [if_neg (by decide)]
  · refine Ev.bind alive_ev ?_
    simp only [if_true]
    cases o <;> cases h <;> cases s <;> simp_all
    all_goals exact Ev.now true
end Go.Proofs.Ytglkjeeiiflpjaa.PxM
