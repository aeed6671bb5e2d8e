/- OrderMet, in plain numbers: from one of two pixels that a segment meets to the other one, that comes behind it, no number goes back. -/
import Derived.Test.YtcfnheoppaelbaaPG
import Derived.Test.YtcfnheoppaelbaaPM
namespace Go.Proofs.Ytcfnheoppaelbaa.PxM
open Go.RowKit Go.Proofs.Ytcfnheoppaelbaa.F Go.Proofs.YtcfnheoppaelbaaW.PrintWords Go.Proofs.YtcfnheoppaelbaaW.PrintLast Go.Proofs.YtcfnheoppaelbaaW.PrintMore
/-- A place in a pixel: what is known of it. -/
theorem hits_place {ax ay bx yb x y k : Int} (h : hitsB ax ay bx yb x y k = true) :
    ∃ t : Rat, ((2 * (x * sz k) - sz k : Int) : Rat) ≤ at2 ax bx t ∧ ((2 * (y * sz k) - sz k : Int) : Rat) ≤ at2 ay yb t ∧ at2 ax bx t < ((2 * (x * sz k) + sz k : Int) : Rat) ∧ at2 ay yb t < ((2 * (y * sz k) + sz k : Int) : Rat) := by
  unfold hitsB at h
  rw [Bool.and_eq_true, meetsB_iff] at h
  obtain ⟨_, _, t, _, _, h1, h2, h3, h4⟩ := h
  refine ⟨t, ?_, ?_, ?_, ?_⟩
  · rcases h1 with h | ⟨h, _⟩
    · exact Rat.le_of_lt h
    · rw [h]; exact Rat.le_refl
  · rcases h2 with h | ⟨h, _⟩
    · exact Rat.le_of_lt h
    · rw [h]; exact Rat.le_refl
  · rcases h3 with h | ⟨_, h⟩
    · exact h
    · simp at h
  · rcases h4 with h | ⟨_, h⟩
    · exact h
    · simp at h
theorem sz_gap {p q k : Int} (h0 : 0 ≤ k) (h1 : k ≤ 28) (h : p < q) : 2 * (p * sz k) + sz k ≤ 2 * (q * sz k) - sz k := by
  have hs := sz_bounds h0 h1
  have : (p + 1) * sz k ≤ q * sz k := Int.mul_le_mul_of_nonneg_right (by omega) (by omega)
  rw [Int.add_mul] at this
  omega
theorem cast_le {a b : Int} (h : a ≤ b) : (a : Rat) ≤ (b : Rat) := by exact_mod_cast h
theorem at2_gt {a b : Int} {s t : Rat} (h : at2 a b s < at2 a b t) (hab : a ≤ b) : s < t := by
  unfold at2 at h
  have h2 : (a : Rat) ≤ (b : Rat) := cast_le hab
  rcases Classical.em (s < t) with h3 | h3
  · exact h3
  · replace h3 := Rat.not_lt.1 h3
    have h4 : ((b : Rat) - a) * t ≤ ((b : Rat) - a) * s := Rat.mul_le_mul_of_nonneg_left h3 (by grind)
    grind
theorem at2_lt {a b : Int} {s t : Rat} (h : at2 a b s < at2 a b t) (hab : b ≤ a) : t < s := by
  unfold at2 at h
  have h2 : (b : Rat) ≤ (a : Rat) := cast_le hab
  rcases Classical.em (t < s) with h3 | h3
  · exact h3
  · replace h3 := Rat.not_lt.1 h3
    have h4 : ((a : Rat) - b) * s ≤ ((a : Rat) - b) * t := Rat.mul_le_mul_of_nonneg_left h3 (by grind)
    grind
theorem at2_up {a b : Int} {s t : Rat} (h : s < t) (hab : a ≤ b) : at2 a b s ≤ at2 a b t := by
  unfold at2
  have h2 : (a : Rat) ≤ (b : Rat) := cast_le hab
  have h4 : ((b : Rat) - a) * s ≤ ((b : Rat) - a) * t := Rat.mul_le_mul_of_nonneg_left (Rat.le_of_lt h) (by grind)
  grind
theorem at2_down {a b : Int} {s t : Rat} (h : s < t) (hab : b ≤ a) : at2 a b t ≤ at2 a b s := by
  unfold at2
  have h2 : (b : Rat) ≤ (a : Rat) := cast_le hab
  have h4 : ((a : Rat) - b) * s ≤ ((a : Rat) - b) * t := Rat.mul_le_mul_of_nonneg_left (Rat.le_of_lt h) (by grind)
  grind
/-- Rows do not go back, where the places do not. -/
theorem row_le {p q k : Int} {u v : Rat} (h0 : 0 ≤ k) (h1 : k ≤ 28) (hu : ((2 * (p * sz k) - sz k : Int) : Rat) ≤ u) (hv : v < ((2 * (q * sz k) + sz k : Int) : Rat)) (h : u ≤ v) : p ≤ q := by
  rcases Int.lt_or_le q p with hlt | hle
  · have := cast_le (sz_gap h0 h1 hlt)
    grind
  · exact hle
theorem met_core {ax ay bx yb px py qx qy k : Int} (h0 : 0 ≤ k) (h1 : k ≤ 28) (hp : hitsB ax ay bx yb px py k = true) (hq : hitsB ax ay bx yb qx qy k = true)
    (hx : if bx < ax then qx < px else px < qx) : if yb < ay then qy ≤ py else py ≤ qy := by
  obtain ⟨s, p1, p2, p3, p4⟩ := hits_place hp
  obtain ⟨t, q1, q2, q3, q4⟩ := hits_place hq
  have hst : s < t := by
    split at hx
    · rename_i hb
      have := cast_le (sz_gap h0 h1 hx)
      exact at2_lt (a := ax) (b := bx) (by grind) (by omega)
    · rename_i hb
      have := cast_le (sz_gap h0 h1 hx)
      exact at2_gt (a := ax) (b := bx) (by grind) (by omega)
  split
  · rename_i hb
    exact row_le h0 h1 q2 p4 (at2_down hst (by omega))
  · rename_i hb
    exact row_le h0 h1 p2 q4 (at2_up hst (by omega))
/-- Of two pixels, which one comes ahead. -/
def aheadP (x y : Bool) (px py qx qy : Int) : Bool := if px = qx then (!(py == qy) && ((decide (py < qy)) != y)) else ((decide (px < qx)) != x)
theorem met_true {ax ay bx yb px py qx qy k : Int} (h0 : 0 ≤ k) (h1 : k ≤ 28) (hp : hitsB ax ay bx yb px py k = true) (hq : hitsB ax ay bx yb qx qy k = true)
    (ha : aheadP (decide (bx < ax)) (decide (yb < ay)) px py qx qy = true) : (if bx < ax then qx ≤ px else px ≤ qx) ∧ (if yb < ay then qy ≤ py else py ≤ qy) := by
  unfold aheadP at ha
  by_cases e : px = qx
  · rw [if_pos e] at ha
    subst e
    simp at ha
    refine ⟨by split <;> omega, ?_⟩
    split
    · rename_i hb
      simp [hb] at ha
      omega
    · rename_i hb
      simp [hb] at ha
      omega
  · rw [if_neg e] at ha
    have hx : if bx < ax then qx < px else px < qx := by
      split
      · rename_i hb
        simp [hb] at ha
        omega
      · rename_i hb
        simp [hb] at ha
        omega
    refine ⟨?_, met_core h0 h1 hp hq hx⟩
    split at hx
    · rename_i hb; rw [if_pos hb]; omega
    · rename_i hb; rw [if_neg hb]; omega
theorem met_false {ax ay bx yb px py qx qy k : Int} (h0 : 0 ≤ k) (h1 : k ≤ 28) (hp : hitsB ax ay bx yb px py k = true) (hq : hitsB ax ay bx yb qx qy k = true)
    (ha : aheadP (decide (bx < ax)) (decide (yb < ay)) px py qx qy = false) : (if bx < ax then px ≤ qx else qx ≤ px) ∧ (if yb < ay then py ≤ qy else qy ≤ py) := by
  unfold aheadP at ha
  by_cases e : px = qx
  · rw [if_pos e] at ha
    subst e
    refine ⟨by split <;> omega, ?_⟩
    by_cases e2 : py = qy
    · subst e2; split <;> omega
    · split
      · rename_i hb
        simp [hb, e2] at ha
        omega
      · rename_i hb
        simp [hb, e2] at ha
        omega
  · rw [if_neg e] at ha
    have hx : if bx < ax then px < qx else qx < px := by
      split
      · rename_i hb
        simp [hb] at ha
        omega
      · rename_i hb
        simp [hb] at ha
        omega
    refine ⟨?_, met_core h0 h1 hq hp hx⟩
    split at hx
    · rename_i hb; rw [if_pos hb]; omega
    · rename_i hb; rw [if_neg hb]; omega
end Go.Proofs.Ytcfnheoppaelbaa.PxM
