/- The grid's sides and pixels, in plain numbers. -/
import Derived.Test.YtglkjeeiiflpjaaPM
import Derived.Test.YtglkjeeiiflpjaaF14
import Derived.Test.YtglkjeeiiflpjaaF21
import Derived.Laws.Bits128
namespace Go.Proofs.Ytglkjeeiiflpjaa.PxM
open Go.RowKit Go.Proofs.Ytglkjeeiiflpjaa.F Go.Proofs.YtglkjeeiiflpjaaW.PrintWords Go.Proofs.YtglkjeeiiflpjaaW.PrintLast Go.Proofs.YtglkjeeiiflpjaaW.PrintMore
/-- A pixel's side. -/
def sz (k : Int) : Int := 2 ^ k.toNat
theorem sz_bounds {k : Int} (h0 : 0 ≤ k) (h1 : k ≤ 28) : 1 ≤ sz k ∧ sz k ≤ 268435456 := by
  unfold sz
  have h2 : k.toNat ≤ 28 := by omega
  generalize k.toNat = n at h2
  have hm : (2 : Nat) ^ n ≤ 2 ^ 28 := Nat.pow_le_pow_right (by decide) h2
  have hp : 1 ≤ (2 : Nat) ^ n := Nat.one_le_two_pow
  have e : (2 : Int) ^ n = ((2 ^ n : Nat) : Int) := by push_cast; rfl
  rw [e]
  omega
theorem rung_id {k : Int} (h0 : 0 ≤ k) (h1 : k ≤ 28) : mn (mx k 0) 28 = k := by
  simp only [mn, mx]
  split <;> split <;> omega
theorem near_of {k q : Int} (h0 : 0 ≤ k) (h1 : k ≤ 28) (h : nearB k q = true) : -134217728 ≤ q * sz k ∧ q * sz k ≤ 134217728 := by
  have hs := sz_bounds h0 h1
  have e : mostAt k = 134217728 / sz k := by unfold mostAt sz; rw [rung_id h0 h1]
  unfold nearB at h
  rw [e] at h
  simp only [Bool.and_eq_true, decide_eq_true_eq] at h
  have hle : 134217728 / sz k * sz k ≤ 134217728 := Int.ediv_mul_le _ (by omega)
  generalize 134217728 / sz k = m at h hle
  generalize sz k = n at *
  constructor
  · have := Int.mul_le_mul_of_nonneg_right h.1 (show 0 ≤ n by omega)
    rw [Int.neg_mul] at this
    omega
  · have := Int.mul_le_mul_of_nonneg_right h.2 (show 0 ≤ n by omega)
    omega
theorem shl_eq {k x : Int} (h0 : 0 ≤ k) (h1 : k ≤ 28) (hx : -1073741824 ≤ x * sz k ∧ x * sz k ≤ 1073741824) : shl .i64 x k = x * sz k := by
  unfold shl
  have e : min k.toNat IntKind.i64.bits = k.toNat := Nat.min_eq_left (by have : IntKind.i64.bits = 64 := rfl; omega)
  rw [e]
  change IntKind.i64.wrap (x * sz k) = _
  rw [i64_w]
  exact wneg (by omega) (by omega)
theorem Sides_eq {k x y : Int} (h0 : 0 ≤ k) (h1 : k ≤ 28) (hi : (nearB k x && nearB k y) = true) :
    grid_Sides.f x y k = Option.some (2 * (x * sz k) - sz k, 2 * (y * sz k) - sz k, 2 * (x * sz k) + sz k, 2 * (y * sz k) + sz k) := by
  have hs := sz_bounds h0 h1
  simp only [Bool.and_eq_true] at hi
  have hx := near_of h0 h1 hi.1
  have hy := near_of h0 h1 hi.2
  have e1 := shl_eq (x := x) h0 h1 (by omega)
  have e2 := shl_eq (x := y) h0 h1 (by omega)
  have e3 := shl_eq (x := 1) h0 h1 (by omega)
  rw [Int.one_mul] at e3
  have hin : (nearB k x && nearB k y) = true := by simp [hi]
  simp only [grid_Sides.f, grid_Center.f, grid_In.f, grid_rung.f, rung_id h0 h1, Option.bind_some, hin, if_true]
  simp only [h0, if_true, Option.bind_some, e1, e2, e3]
  generalize x * sz k = X at *
  generalize y * sz k = Y at *
  generalize sz k = n at *
  have w1 : wrap64 (2 * X) = 2 * X := wneg (by omega) (by omega)
  have w2 : wrap64 (2 * Y) = 2 * Y := wneg (by omega) (by omega)
  rw [w1, w2, wneg (x := 2 * X - n) (by omega) (by omega), wneg (x := 2 * Y - n) (by omega) (by omega), wneg (x := 2 * X + n) (by omega) (by omega), wneg (x := 2 * Y + n) (by omega) (by omega)]
/-- pixel.Hits. -/
def hitsB (ax ay bx yb x y k : Int) : Bool := decide (0 ≤ k) && decide (k ≤ 28) && (nearB k x && nearB k y) && meetsB ax ay bx yb (2 * (x * sz k) - sz k) (2 * (y * sz k) - sz k) (2 * (x * sz k) + sz k) (2 * (y * sz k) + sz k) 0
theorem Hits_eq (n : Nat) (ax ay bx yb x y k : Int) : pixel_Hits.f (n + 1) ax ay bx yb x y k = Option.some (hitsB ax ay bx yb x y k) := by
  unfold pixel_Hits.f grid_Right.f hitsB
  by_cases h0 : 0 ≤ k
  · rw [if_pos h0]
    by_cases h1 : k ≤ 28
    · simp only [h0, h1, decide_true, Option.bind_some, if_true, grid_In.f, Bool.true_and]
      cases hi : (nearB k x && nearB k y) with
      | false => simp [pixel_Hits.j0]
      | true => simp [pixel_Hits.j0, Sides_eq h0 h1 hi, pixel_Meets.f]
    · simp [h1, pixel_Hits.j0]
  · simp [h0, pixel_Hits.j0]
theorem i64_and1 (n : Int) : Go.bits .and .i64 n 1 = n % 2 := by
  have h127 : (BitVec.ofInt 64 1).toNat = 2 ^ 1 - 1 := by decide
  have key : (BitVec.ofInt 64 n &&& BitVec.ofInt 64 1).toNat = (n % ((2 ^ 64 : Nat) : Int)).toNat % 2 ^ 1 := by
    rw [BitVec.toNat_and, BitVec.toNat_ofInt, h127, Nat.and_two_pow_sub_one_eq_mod]
  show IntKind.i64.wrap ((BitVec.ofInt 64 n &&& BitVec.ofInt 64 1).toNat : Nat) = n % 2
  rw [key, IntKind.wrap_i64]
  omega
/-- A pixel's number: it is that one whose side, doubled, holds the number. -/
theorem Snap_eq {v k : Int} (h0 : 0 ≤ k) (h1 : k ≤ 28) (hv : -134217728 ≤ v ∧ v ≤ 134217728) :
    ∃ q, grid_Snap.f v k = Option.some q ∧ 2 * (q * sz k) - sz k ≤ 2 * v ∧ 2 * v < 2 * (q * sz k) + sz k ∧ -134217729 ≤ q ∧ q ≤ 134217729 := by
  unfold grid_Snap.f
  simp only [grid_rung.f, rung_id h0 h1, Option.bind_some]
  by_cases hk : k = 0
  · subst hk
    refine ⟨v, by rw [if_pos rfl], ?_⟩
    have : sz 0 = 1 := by decide
    rw [this]
    omega
  · have w1 : wrap64 (k - 1) = k - 1 := wneg (by omega) (by omega)
    rw [if_neg hk, if_pos h0, w1, if_pos (by omega)]
    refine ⟨_, rfl, ?_⟩
    have e1 : shr .i64 v k = v / sz k := by
      unfold shr sz
      rw [Nat.min_eq_left (by have : IntKind.i64.bits = 64 := rfl; omega)]
    have e2 : shr .i64 v (k - 1) = v / sz (k - 1) := by
      unfold shr sz
      rw [Nat.min_eq_left (by have : IntKind.i64.bits = 64 := rfl; omega)]
    have e3 : sz k = 2 * sz (k - 1) := by
      unfold sz
      have : k.toNat = (k - 1).toNat + 1 := by omega
      rw [this, Int.pow_succ, Int.mul_comm]
    have hs := sz_bounds (k := k - 1) (by omega) (by omega)
    rw [i64_and1, e1, e2, e3]
    generalize sz (k - 1) = m at *
    have d1 := Int.mul_ediv_add_emod v m
    have d2 := Int.emod_nonneg v (show m ≠ 0 by omega)
    have d3 := Int.emod_lt_of_pos v (show 0 < m by omega)
    have e4 : v / (2 * m) = v / m / 2 := by rw [Int.mul_comm, Int.ediv_ediv_of_nonneg (by omega)]
    rw [e4]
    have b1 : -134217728 ≤ v / m := by
      have := Int.ediv_le_ediv (a := -134217728) (b := v) (show 0 < m by omega) hv.1
      have h2 : -134217728 ≤ (-134217728 : Int) / m := by
        rw [Int.le_ediv_iff_mul_le (by omega)]
        have := Int.mul_le_mul_of_nonpos_left (a := -134217728) (b := m) (c := 1) (by decide) (by omega)
        omega
      omega
    have b2 : v / m ≤ 134217728 := by
      have := Int.ediv_le_ediv (a := v) (b := 134217728) (show 0 < m by omega) hv.2
      have h2 : (134217728 : Int) / m ≤ 134217728 := Int.ediv_le_self _ (by decide)
      omega
    have w2 : wrap64 (v / m / 2 + v / m % 2) = v / m / 2 + v / m % 2 := wneg (by omega) (by omega)
    rw [w2]
    generalize v / m = c at *
    generalize v % m = r at *
    have e5 : c = 2 * (c / 2) + c % 2 := by omega
    generalize hq : c / 2 = q at *
    generalize hp : c % 2 = p at *
    have hp2 : p = 0 ∨ p = 1 := by omega
    have e6 : (q + p) * (2 * m) = 2 * (m * q) + 2 * (m * p) := by rw [Int.add_mul, Int.mul_left_comm, Int.mul_left_comm p, Int.mul_comm q, Int.mul_comm p]
    have e7 : m * c = 2 * (m * q) + m * p := by rw [e5, Int.mul_add, Int.mul_left_comm]
    rw [e6]
    rw [e7] at d1
    rcases hp2 with rfl | rfl
    · simp only [Int.mul_zero] at *
      omega
    · simp only [Int.mul_one] at *
      omega
end Go.Proofs.Ytglkjeeiiflpjaa.PxM
