/- What pixel.Meets tells, of fractions: there is a place on the way, from 0 to 1, whose numbers are on the right sides. -/
import Derived.Test.YtglkjeeiiflpjaaHMeets
namespace Go.Proofs.Ytglkjeeiiflpjaa.PxM
open Go.RowKit Go.Proofs.Ytglkjeeiiflpjaa.F
/-- How far along: twice the number of the place t of the way from a to b. -/
def at2 (a b : Int) (t : Rat) : Rat := 2 * (a : Rat) + 2 * ((b : Rat) - (a : Rat)) * t
def Hi (x h : Rat) (i : Bool) : Prop := x < h ∨ (x = h ∧ i = true)
/-- There is a place in the box. -/
def Place (ax ay bx yb lx ly hx hy k : Int) : Prop :=
  ∃ t : Rat, 0 ≤ t ∧ t ≤ 1 ∧ T (at2 ax bx t) (lx : Rat) (k != 2) ∧ T (at2 ay yb t) (ly : Rat) (k != 2) ∧ Hi (at2 ax bx t) (hx : Rat) (k == 1) ∧ Hi (at2 ay yb t) (hy : Rat) (k == 1)
theorem rest0_holds (t : Rat) : (rest0).holds t ↔ 0 ≤ t ∧ t ≤ 1 := by
  have e0 : rest0.fr.v = 0 := by simp [rest0, Bd.v, Rat.div_def]
  have e1 : rest0.up.v = 1 := by simp only [rest0, Bd.v]; grind
  unfold Rest.holds Bd.ge Bd.le
  rw [e0, e1]
  simp only [rest0]
  grind
theorem rest0_ok : rest0.ok := ⟨by decide, by decide⟩
theorem rightB_iff {l x y : Int} : rightB l x y = true ↔ -l ≤ x ∧ x ≤ l ∧ -l ≤ y ∧ y ≤ l := by unfold rightB; exact decide_eq_true_iff
theorem T_neg (x h : Rat) (i : Bool) : T (-x) (-h) i ↔ Hi x h i := by unfold T Hi; constructor <;> (rintro (h | ⟨h, hi⟩) <;> grind)
theorem some_restOf {ax ay bx yb lx ly hx hy : Int} (k : Int) (g1 : rightB 134217728 ax ay = true) (g2 : rightB 134217728 bx yb = true) (g3 : rightB 536870912 lx ly = true) (g4 : rightB 536870912 hx hy = true) :
    some (restOf ax ay bx yb lx ly hx hy k) = true ↔ Place ax ay bx yb lx ly hx hy k := by
  rw [rightB_iff] at g1 g2 g3 g4
  have w1 : wrap64 (2 * ax) = 2 * ax := wneg (by omega) (by omega)
  have w2 : wrap64 (2 * ay) = 2 * ay := wneg (by omega) (by omega)
  have w3 : wrap64 (bx - ax) = bx - ax := wneg (by omega) (by omega)
  have w4 : wrap64 (yb - ay) = yb - ay := wneg (by omega) (by omega)
  have w5 : wrap64 (2 * (bx - ax)) = 2 * (bx - ax) := wneg (by omega) (by omega)
  have w6 : wrap64 (2 * (yb - ay)) = 2 * (yb - ay) := wneg (by omega) (by omega)
  have w7 : wrap64 (-(2 * (bx - ax))) = -(2 * (bx - ax)) := wneg (by omega) (by omega)
  have w8 : wrap64 (-(2 * (yb - ay))) = -(2 * (yb - ay)) := wneg (by omega) (by omega)
  have w9 : wrap64 (-2 * ax) = -2 * ax := wneg (by omega) (by omega)
  have w10 : wrap64 (-2 * ay) = -2 * ay := wneg (by omega) (by omega)
  have w11 : wrap64 (-hx) = -hx := wneg (by omega) (by omega)
  have w12 : wrap64 (-hy) = -hy := wneg (by omega) (by omega)
  unfold restOf
  rw [w3, w4, w1, w2, w5, w6, w7, w8, w9, w10, w11, w12]
  have o1 := cut_ok rest0_ok (2 * ax) (2 * (bx - ax)) lx (k != 2)
  have o2 := cut_ok o1 (2 * ay) (2 * (yb - ay)) ly (k != 2)
  have o3 := cut_ok o2 (-2 * ax) (-(2 * (bx - ax))) (-hx) (k == 1)
  have o4 := cut_ok o3 (-2 * ay) (-(2 * (yb - ay))) (-hy) (k == 1)
  rw [some_iff o4]
  unfold Place
  refine exists_congr fun t => ?_
  rw [cut_holds o3, cut_holds o2, cut_holds o1, cut_holds rest0_ok, rest0_holds]
  have e1 : ((2 * ax : Int) : Rat) + ((2 * (bx - ax) : Int) : Rat) * t = at2 ax bx t := by unfold at2; push_cast; grind
  have e2 : ((2 * ay : Int) : Rat) + ((2 * (yb - ay) : Int) : Rat) * t = at2 ay yb t := by unfold at2; push_cast; grind
  have e3 : ((-2 * ax : Int) : Rat) + ((-(2 * (bx - ax)) : Int) : Rat) * t = -(at2 ax bx t) := by unfold at2; push_cast; grind
  have e4 : ((-2 * ay : Int) : Rat) + ((-(2 * (yb - ay)) : Int) : Rat) * t = -(at2 ay yb t) := by unfold at2; push_cast; grind
  have e5 : ((-hx : Int) : Rat) = -(hx : Rat) := by push_cast; rfl
  have e6 : ((-hy : Int) : Rat) = -(hy : Rat) := by push_cast; rfl
  rw [e1, e2, e3, e4, e5, e6, T_neg, T_neg]
  constructor
  · rintro ⟨⟨⟨⟨⟨a, b⟩, c⟩, d⟩, e⟩, f⟩; exact ⟨a, b, c, d, e, f⟩
  · rintro ⟨a, b, c, d, e, f⟩; exact ⟨⟨⟨⟨⟨a, b⟩, c⟩, d⟩, e⟩, f⟩
/-- What may be asked of pixel.Meets. -/
def Fit (ax ay bx yb lx ly hx hy k : Int) : Prop := rightB 134217728 ax ay = true ∧ rightB 134217728 bx yb = true ∧ rightB 536870912 lx ly = true ∧ rightB 536870912 hx hy = true ∧ 0 ≤ k ∧ k ≤ 2
theorem meetsB_iff {ax ay bx yb lx ly hx hy k : Int} : meetsB ax ay bx yb lx ly hx hy k = true ↔ Fit ax ay bx yb lx ly hx hy k ∧ Place ax ay bx yb lx ly hx hy k := by
  unfold meetsB Fit
  simp only [Bool.and_eq_true, decide_eq_true_eq]
  constructor
  · rintro ⟨⟨⟨⟨⟨⟨a, b⟩, c⟩, d⟩, e⟩, f⟩, h⟩
    exact ⟨⟨a, b, c, d, e, f⟩, (some_restOf k a b c d).1 h⟩
  · rintro ⟨⟨a, b, c, d, e, f⟩, h⟩
    exact ⟨⟨⟨⟨⟨⟨a, b⟩, c⟩, d⟩, e⟩, f⟩, (some_restOf k a b c d).2 h⟩
theorem at2_turn (a b : Int) (t : Rat) : at2 b a (1 - t) = at2 a b t := by unfold at2; grind
theorem Place.turn {ax ay bx yb lx ly hx hy k : Int} (h : Place ax ay bx yb lx ly hx hy k) : Place bx yb ax ay lx ly hx hy k := by
  obtain ⟨t, h0, h1, h2, h3, h4, h5⟩ := h
  refine ⟨1 - t, by grind, by grind, ?_⟩
  rw [at2_turn, at2_turn]
  exact ⟨h2, h3, h4, h5⟩
theorem meetsB_turn (ax ay bx yb lx ly hx hy k : Int) : meetsB bx yb ax ay lx ly hx hy k = meetsB ax ay bx yb lx ly hx hy k := by
  rw [Bool.eq_iff_iff, meetsB_iff, meetsB_iff]
  constructor
  · rintro ⟨⟨a, b, c⟩, h⟩; exact ⟨⟨b, a, c⟩, h.turn⟩
  · rintro ⟨⟨a, b, c⟩, h⟩; exact ⟨⟨b, a, c⟩, h.turn⟩
theorem Place.mono {ax ay bx yb lx ly hx hy k k' : Int} (h : Place ax ay bx yb lx ly hx hy k) (hl : (k != 2) = true → (k' != 2) = true) (hh : (k == 1) = true → (k' == 1) = true) : Place ax ay bx yb lx ly hx hy k' := by
  obtain ⟨t, h0, h1, h2, h3, h4, h5⟩ := h
  refine ⟨t, h0, h1, ?_, ?_, ?_, ?_⟩
  · exact h2.imp id fun z => ⟨z.1, hl z.2⟩
  · exact h3.imp id fun z => ⟨z.1, hl z.2⟩
  · exact h4.imp id fun z => ⟨z.1, hh z.2⟩
  · exact h5.imp id fun z => ⟨z.1, hh z.2⟩
theorem open_half {ax ay bx yb lx ly hx hy : Int} (h : meetsB ax ay bx yb lx ly hx hy 2 = true) : meetsB ax ay bx yb lx ly hx hy 0 = true := by
  rw [meetsB_iff] at h ⊢
  exact ⟨⟨h.1.1, h.1.2.1, h.1.2.2.1, h.1.2.2.2.1, by decide, by decide⟩, h.2.mono (by decide) (by decide)⟩
theorem half_shut {ax ay bx yb lx ly hx hy : Int} (h : meetsB ax ay bx yb lx ly hx hy 0 = true) : meetsB ax ay bx yb lx ly hx hy 1 = true := by
  rw [meetsB_iff] at h ⊢
  exact ⟨⟨h.1.1, h.1.2.1, h.1.2.2.1, h.1.2.2.2.1, by decide, by decide⟩, h.2.mono (by decide) (by decide)⟩
end Go.Proofs.Ytglkjeeiiflpjaa.PxM
