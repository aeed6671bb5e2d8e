/- PixelHalves, in plain numbers. -/
import Derived.Test.YtglkjeeiiflpjaaPM
import Derived.Test.YtglkjeeiiflpjaaF8
namespace Go.Proofs.Ytglkjeeiiflpjaa.PxM
open Go.RowKit Go.Proofs.Ytglkjeeiiflpjaa.F Go.Proofs.YtglkjeeiiflpjaaW.PrintWords Go.Proofs.YtglkjeeiiflpjaaW.PrintLast Go.Proofs.YtglkjeeiiflpjaaW.PrintMore
theorem right05 (x y : Int) : cobwebref05_Right.f x y = Option.some (rightB 134217728 x y) := by
  unfold cobwebref05_Right.f rightB
  repeat' split
  all_goals first | (congr 1; exact decide_eq_decide.2 ⟨fun _ => by omega, fun _ => by omega⟩) | (congr 1; exact (decide_eq_false (by omega)).symm)
theorem at2_low (a h : Int) (t : Rat) : at2 a (a + h) t = at2 a (a + h + h) (t / 2) := by unfold at2; push_cast; grind
theorem at2_high (a h : Int) (t : Rat) : at2 (a + h) (a + h + h) t = at2 a (a + h + h) ((1 + t) / 2) := by unfold at2; push_cast; grind
theorem Place_halves (ax ay hx hy lx ly ux uy k : Int) :
    Place ax ay (ax + hx + hx) (ay + hy + hy) lx ly ux uy k ↔ Place ax ay (ax + hx) (ay + hy) lx ly ux uy k ∨ Place (ax + hx) (ay + hy) (ax + hx + hx) (ay + hy + hy) lx ly ux uy k := by
  unfold Place
  constructor
  · rintro ⟨t, h0, h1, h2⟩
    by_cases c : t ≤ 1 / 2
    · refine .inl ⟨2 * t, by grind, by grind, ?_⟩
      rw [at2_low, at2_low, show 2 * t / 2 = t by grind]
      exact h2
    · refine .inr ⟨2 * t - 1, by grind, by grind, ?_⟩
      rw [at2_high, at2_high, show (1 + (2 * t - 1)) / 2 = t by grind]
      exact h2
  · rintro (⟨t, h0, h1, h2⟩ | ⟨t, h0, h1, h2⟩)
    · rw [at2_low, at2_low] at h2
      exact ⟨t / 2, by grind, by grind, h2⟩
    · rw [at2_high, at2_high] at h2
      exact ⟨(1 + t) / 2, by grind, by grind, h2⟩
theorem meetsB_halves {ax ay hx hy : Int} (lx ly ux uy k : Int) (ga : rightB 134217728 ax ay = true) (gb : rightB 134217728 (ax + hx + hx) (ay + hy + hy) = true) :
    meetsB ax ay (ax + hx + hx) (ay + hy + hy) lx ly ux uy k = (meetsB ax ay (ax + hx) (ay + hy) lx ly ux uy k || meetsB (ax + hx) (ay + hy) (ax + hx + hx) (ay + hy + hy) lx ly ux uy k) := by
  have gm : rightB 134217728 (ax + hx) (ay + hy) = true := by
    rw [rightB_iff] at *
    omega
  rw [Bool.eq_iff_iff, Bool.or_eq_true, meetsB_iff, meetsB_iff, meetsB_iff, Place_halves]
  constructor
  · rintro ⟨⟨_, _, f⟩, h | h⟩
    · exact .inl ⟨⟨ga, gm, f⟩, h⟩
    · exact .inr ⟨⟨gm, gb, f⟩, h⟩
  · rintro (⟨⟨_, _, f⟩, h⟩ | ⟨⟨_, _, f⟩, h⟩)
    · exact ⟨⟨ga, gb, f⟩, .inl h⟩
    · exact ⟨⟨ga, gb, f⟩, .inr h⟩
theorem PixelHalves_pure (ax ay hx hy lx ly ux uy k : Int) : ∃ n, cobweblaw06_PixelHalves.f n ax ay hx hy lx ly ux uy k = Option.some true := by
  refine ⟨1, ?_⟩
  simp only [cobweblaw06_PixelHalves.f, right05, Option.bind_some]
  cases ga : rightB 134217728 ax ay with
  | false => simp [cobweblaw06_PixelHalves.j0, cobweblaw06_alive.f]
  | true =>
    cases gh : rightB 134217728 hx hy with
    | false => simp [cobweblaw06_PixelHalves.j0, cobweblaw06_alive.f]
    | true =>
      have ga' := rightB_iff.1 ga
      have gh' := rightB_iff.1 gh
      have w1 : wrap64 (ax + hx) = ax + hx := wneg (by omega) (by omega)
      have w2 : wrap64 (ay + hy) = ay + hy := wneg (by omega) (by omega)
      have w3 : wrap64 (ax + hx + hx) = ax + hx + hx := wneg (by omega) (by omega)
      have w4 : wrap64 (ay + hy + hy) = ay + hy + hy := wneg (by omega) (by omega)
      simp only [if_true, cobweblaw06_PixelHalves.j0, w1, w2, w3, w4, right05, pixel_Meets.f, Option.bind_some, cobweblaw06_alive.f, Bool.not_true, Bool.false_eq_true, if_false]
      cases gb : rightB 134217728 (ax + hx + hx) (ay + hy + hy) with
      | false => simp
      | true =>
        have h := meetsB_halves lx ly ux uy k ga gb
        generalize meetsB ax ay (ax + hx + hx) (ay + hy + hy) lx ly ux uy k = x at *
        generalize meetsB ax ay (ax + hx) (ay + hy) lx ly ux uy k = y at *
        generalize meetsB (ax + hx) (ay + hy) (ax + hx + hx) (ay + hy + hy) lx ly ux uy k = z at *
        subst h
        cases y <;> cases z <;> simp
end Go.Proofs.Ytglkjeeiiflpjaa.PxM
