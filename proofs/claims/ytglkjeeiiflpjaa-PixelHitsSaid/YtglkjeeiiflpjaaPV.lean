/- PixelMoved, in plain numbers: a segment and a pixel that are moved by as much meet as they did. -/
import Derived.Test.YtglkjeeiiflpjaaPG
import Derived.Test.YtglkjeeiiflpjaaPM
import Derived.Test.YtglkjeeiiflpjaaFS
namespace Go.Proofs.Ytglkjeeiiflpjaa.PxM
open Go.RowKit Go.Proofs.Ytglkjeeiiflpjaa.F Go.Proofs.YtglkjeeiiflpjaaW.PrintWords Go.Proofs.YtglkjeeiiflpjaaW.PrintLast Go.Proofs.YtglkjeeiiflpjaaW.PrintMore
theorem right05V (x y : Int) : cobwebref05_Right.f x y = Option.some (rightB 134217728 x y) := by
  unfold cobwebref05_Right.f rightB
  repeat' split
  all_goals first | (congr 1; exact decide_eq_decide.2 ⟨fun _ => by omega, fun _ => by omega⟩) | (congr 1; exact (decide_eq_false (by omega)).symm)
theorem side_fitV {x y k : Int} (h0 : 0 ≤ k) (h1 : k ≤ 28) (hi : (nearB k x && nearB k y) = true) :
    rightB 536870912 (2 * (x * sz k) - sz k) (2 * (y * sz k) - sz k) = true ∧ rightB 536870912 (2 * (x * sz k) + sz k) (2 * (y * sz k) + sz k) = true := by
  have hs := sz_bounds h0 h1
  simp only [Bool.and_eq_true] at hi
  have hx := near_of h0 h1 hi.1
  have hy := near_of h0 h1 hi.2
  rw [rightB_iff, rightB_iff]
  omega
theorem hits_iffV {ax ay bx yb x y k : Int} (h0 : 0 ≤ k) (h1 : k ≤ 28) (ga : rightB 134217728 ax ay = true) (gb : rightB 134217728 bx yb = true) :
    hitsB ax ay bx yb x y k = true ↔ (nearB k x && nearB k y) = true ∧ Place ax ay bx yb (2 * (x * sz k) - sz k) (2 * (y * sz k) - sz k) (2 * (x * sz k) + sz k) (2 * (y * sz k) + sz k) 0 := by
  unfold hitsB
  rw [Bool.and_eq_true, Bool.and_eq_true, Bool.and_eq_true, meetsB_iff]
  constructor
  · rintro ⟨⟨_, hi⟩, _, hp⟩; exact ⟨hi, hp⟩
  · rintro ⟨hi, hp⟩
    have hf := side_fitV h0 h1 hi
    exact ⟨⟨⟨decide_eq_true h0, decide_eq_true h1⟩, hi⟩, ⟨ga, gb, hf.1, hf.2, by decide, by decide⟩, hp⟩
theorem at2_move (a b d : Int) (t : Rat) : at2 (a + d) (b + d) t = at2 a b t + ((2 * d : Int) : Rat) := by
  unfold at2
  push_cast
  grind
theorem T_move (x l d : Rat) (i : Bool) : T (x + d) (l + d) i ↔ T x l i := by
  unfold T
  constructor <;> (rintro (h | ⟨h, hi⟩) <;> grind)
theorem Hi_move (x l d : Rat) (i : Bool) : Hi (x + d) (l + d) i ↔ Hi x l i := by
  unfold Hi
  constructor <;> (rintro (h | ⟨h, hi⟩) <;> grind)
theorem Place_move {ax ay bx yb lx ly hx hy k : Int} (dx dy : Int) : Place (ax + dx) (ay + dy) (bx + dx) (yb + dy) (lx + 2 * dx) (ly + 2 * dy) (hx + 2 * dx) (hy + 2 * dy) k ↔ Place ax ay bx yb lx ly hx hy k := by
  unfold Place
  have e : ∀ a d : Int, ((a + 2 * d : Int) : Rat) = (a : Rat) + ((2 * d : Int) : Rat) := fun a d => by push_cast; rfl
  simp only [at2_move, e, T_move, Hi_move]
theorem moved {ax ay bx yb qx qy k x y : Int} (h0 : 0 ≤ k) (h1 : k ≤ 28) (ga : rightB 134217728 ax ay = true) (gb : rightB 134217728 bx yb = true) (ga' : rightB 134217728 (ax + x * sz k) (ay + y * sz k) = true) (gb' : rightB 134217728 (bx + x * sz k) (yb + y * sz k) = true)
    (hq : (nearB k qx && nearB k qy) = true) (hz : (nearB k (qx + x) && nearB k (qy + y)) = true) :
    hitsB (ax + x * sz k) (ay + y * sz k) (bx + x * sz k) (yb + y * sz k) (qx + x) (qy + y) k = hitsB ax ay bx yb qx qy k := by
  rw [Bool.eq_iff_iff, hits_iffV h0 h1 ga gb, hits_iffV h0 h1 ga' gb', hq, hz]
  have e : ∀ q x s : Int, 2 * ((q + x) * s) = 2 * (q * s) + 2 * (x * s) := fun q x s => by rw [Int.add_mul, Int.mul_add]
  rw [e qx, e qy]
  have f : ∀ a d s : Int, a + d - s = a - s + d := fun a d s => by omega
  have g : ∀ a d s : Int, a + d + s = a + s + d := fun a d s => by omega
  rw [f (2 * (qx * sz k)), f (2 * (qy * sz k)), g (2 * (qx * sz k)), g (2 * (qy * sz k)), Place_move]
theorem Size_eq {k : Int} (h0 : 0 ≤ k) (h1 : k ≤ 28) : cobwebref03_Size.f 40 k = Option.some (sz k) := by
  have h : ∀ j : Fin 29, cobwebref03_Size.f 40 (j.val : Int) = Option.some ((2 : Int) ^ j.val) := by decide +kernel
  obtain ⟨n, rfl⟩ := Int.eq_ofNat_of_zero_le h0
  have := h ⟨n, by omega⟩
  simpa [sz] using this
def rungR (k : Int) : Int := if k < 0 then 0 else if k > 28 then 28 else k
theorem Rung_eq (k : Int) : cobwebref03_Rung.f k = Option.some (rungR k) := by
  unfold cobwebref03_Rung.f rungR
  repeat' split
  all_goals rfl
theorem rungR_eq {k : Int} (h : k = rungR k) : 0 ≤ k ∧ k ≤ 28 := by
  unfold rungR at h
  split at h
  · omega
  · split at h <;> omega
theorem mul_small {x s : Int} (hx : -1048576 ≤ x) (hx2 : x ≤ 1048576) (h0 : 1 ≤ s) (h1 : s ≤ 268435456) : -281474976710656 ≤ x * s ∧ x * s ≤ 281474976710656 := by
  have h : (x * s).natAbs ≤ 1048576 * 268435456 := by
    rw [Int.natAbs_mul]
    exact Nat.mul_le_mul (by omega) (by omega)
  omega
theorem w64 {x : Int} (h0 : -9223372036854775808 ≤ x) (h1 : x < 9223372036854775808) : wrap64 x = x := by unfold wrap64; omega
end Go.Proofs.Ytglkjeeiiflpjaa.PxM
