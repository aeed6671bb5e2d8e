/- The grid's sides and pixels, in plain numbers. -/
import Derived.Test.YtcfnheoppaelbaaPM
import Derived.Test.YtcfnheoppaelbaaF6
import Derived.Laws.Bits128
namespace Go.Proofs.Ytcfnheoppaelbaa.PxM
open Go.RowKit Go.Proofs.Ytcfnheoppaelbaa.F Go.Proofs.YtcfnheoppaelbaaW.PrintWords Go.Proofs.YtcfnheoppaelbaaW.PrintLast Go.Proofs.YtcfnheoppaelbaaW.PrintMore
/-- A pixel's side. -/
def sz (k : Int) : Int := 2 ^ k.toNat
theorem sz_bounds {k : Int} (h0 : 0 ≤ k) (h1 : k ≤ 28) : 1 ≤ sz k ∧ sz k ≤ 268435456 := by
  unfold sz
  have h2 : k.toNat ≤ 28 := by omega
  generalize k.toNat = n at h2
  have hm : (2 : Nat) ^ n ≤ 2 ^ 28 := Nat.pow_le_pow_right (by decide) h2
  have hp : 1 ≤ (2 : Nat) ^ n := Nat.one_le_two_pow
  have e : (2 : Int) ^ n = ((2 ^ n : Nat) : Int) := by push_cast; rfl
  rw [e]
  omega
theorem rung_id {k : Int} (h0 : 0 ≤ k) (h1 : k ≤ 28) : mn (mx k 0) 28 = k := by
  simp only [mn, mx]
  split <;> split <;> omega
theorem near_of {k q : Int} (h0 : 0 ≤ k) (h1 : k ≤ 28) (h : nearB k q = true) : -134217728 ≤ q * sz k ∧ q * sz k ≤ 134217728 := by
  have hs := sz_bounds h0 h1
  have e : mostAt k = 134217728 / sz k := by unfold mostAt sz; rw [rung_id h0 h1]
  unfold nearB at h
  rw [e] at h
  simp only [Bool.and_eq_true, decide_eq_true_eq] at h
  have hle : 134217728 / sz k * sz k ≤ 134217728 := Int.ediv_mul_le _ (by omega)
  generalize 134217728 / sz k = m at h hle
  generalize sz k = n at *
  constructor
  · have := Int.mul_le_mul_of_nonneg_right h.1 (show 0 ≤ n by omega)
    rw [Int.neg_mul] at this
    omega
  · have := Int.mul_le_mul_of_nonneg_right h.2 (show 0 ≤ n by omega)
    omega
theorem shl_eq {k x : Int} (h0 : 0 ≤ k) (h1 : k ≤ 28) (hx : -1073741824 ≤ x * sz k ∧ x * sz k ≤ 1073741824) : shl .i64 x k = x * sz k := by
  unfold shl
  have e : min k.toNat IntKind.i64.bits = k.toNat := Nat.min_eq_left (by have : IntKind.i64.bits = 64 := rfl; omega)
  rw [e]
  change IntKind.i64.wrap (x * sz k) = _
  rw [i64_w]
  exact wneg (by omega) (by omega)
theorem Sides_eq {k x y : Int} (h0 : 0 ≤ k) (h1 : k ≤ 28) (hi : (nearB k x && nearB k y) = true) :
    grid_Sides.f x y k = Option.some (2 * (x * sz k) - sz k, 2 * (y * sz k) - sz k, 2 * (x * sz k) + sz k, 2 * (y * sz k) + sz k) := by
  have hs := sz_bounds h0 h1
  simp only [Bool.and_eq_true] at hi
  have hx := near_of h0 h1 hi.1
  have hy := near_of h0 h1 hi.2
  have e1 := shl_eq (x := x) h0 h1 (by omega)
  have e2 := shl_eq (x := y) h0 h1 (by omega)
  have e3 := shl_eq (x := 1) h0 h1 (by omega)
  rw [Int.one_mul] at e3
  have hin : (nearB k x && nearB k y) = true := by simp [hi]
  simp only [grid_Sides.f, grid_Center.f, grid_In.f, grid_rung.f, rung_id h0 h1, Option.bind_some, hin, if_true]
  simp only [h0, if_true, Option.bind_some, e1, e2, e3]
  generalize x * sz k = X at *
  generalize y * sz k = Y at *
  generalize sz k = n at *
  have w1 : wrap64 (2 * X) = 2 * X := wneg (by omega) (by omega)
  have w2 : wrap64 (2 * Y) = 2 * Y := wneg (by omega) (by omega)
  rw [w1, w2, wneg (x := 2 * X - n) (by omega) (by omega), wneg (x := 2 * Y - n) (by omega) (by omega), wneg (x := 2 * X + n) (by omega) (by omega), wneg (x := 2 * Y + n) (by omega) (by omega)]
/-- pixel.Hits. -/
def hitsB (ax ay bx yb x y k : Int) : Bool := decide (0 ≤ k) && decide (k ≤ 28) && (nearB k x && nearB k y) && meetsB ax ay bx yb (2 * (x * sz k) - sz k) (2 * (y * sz k) - sz k) (2 * (x * sz k) + sz k) (2 * (y * sz k) + sz k) 0
theorem Hits_eq (n : Nat) (ax ay bx yb x y k : Int) : pixel_Hits.f (n + 1) ax ay bx yb x y k = Option.some (hitsB ax ay bx yb x y k) := by
  unfold pixel_Hits.f grid_Right.f hitsB
  by_cases h0 : 0 ≤ k
  · rw [if_pos h0]
    by_cases h1 : k ≤ 28
    · simp only [h0, h1, decide_true, Option.bind_some, if_true, grid_In.f, Bool.true_and]
      cases hi : (nearB k x && nearB k y) with
      | false => simp [pixel_Hits.j0]
      | true => simp [pixel_Hits.j0, Sides_eq h0 h1 hi, pixel_Meets.f]
    · simp [h1, pixel_Hits.j0]
  · simp [h0, pixel_Hits.j0]
end Go.Proofs.Ytcfnheoppaelbaa.PxM
