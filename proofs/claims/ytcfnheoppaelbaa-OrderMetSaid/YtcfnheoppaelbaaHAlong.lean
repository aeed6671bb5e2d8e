/- order.Along and the order that it hands back, walked by hand. -/
import Derived.Test.YtcfnheoppaelbaaF0
namespace Go.Proofs.Ytcfnheoppaelbaa.F
open Go.RowKit Go.Proofs.YtcfnheoppaelbaaW.PrintWords Go.Proofs.YtcfnheoppaelbaaW.PrintLast Go.Proofs.YtcfnheoppaelbaaW.PrintMore
set_option linter.unusedVariables false
set_option linter.unusedSimpArgs false
/-- What order.Along hands back: a function value over two captured variables that hold x and y. -/
def AlongV (w : World) (base : Nat) (v : Value) (x y : Bool) : Prop := ∃ bx yb, v = .func (.func 18) #[] #[.pointer (some ⟨bx, 0, none⟩), .pointer (some ⟨yb, 0, none⟩)] ∧ base ≤ bx ∧ base ≤ yb ∧ bx < w.heap.size ∧ yb < w.heap.size ∧ w.cell? ⟨bx, 0, none⟩ = some (.bool x) ∧ w.cell? ⟨yb, 0, none⟩ = some (.bool y)
theorem AlongV.below {w w1 : World} {base : Nat} {v : Value} {x y : Bool} (h : AlongV w base v x y) (hb : Below w.heap.size w w1) : AlongV w1 base v x y := by
  obtain ⟨bx, yb, rfl, h1, h2, h3, h4, h5, h6⟩ := h
  exact ⟨bx, yb, rfl, h1, h2, Nat.lt_of_lt_of_le h3 hb.size, Nat.lt_of_lt_of_le h4 hb.size, (hb.cell (p := ⟨bx, 0, none⟩) h3).trans h5, (hb.cell (p := ⟨yb, 0, none⟩) h4).trans h6⟩
set_option maxHeartbeats 1600000 in
set_option maxRecDepth 100000 in
theorem order_Along.calls (ax ay bx yb : Int) (w : World) :
    Calls Try.prog 8 #[.agg #[.int .i64 ax, .int .i64 ay], .agg #[.int .i64 bx, .int .i64 yb]] w fun e w' => ∃ v, e = .returned v ∧ AlongV w' w.heap.size v (decide (bx < ax)) (decide (yb < ay)) ∧ Below w.heap.size w w' := by
  go_enter Try.func8, Try.ntmps8
  go_wp2_with fail
  go_region
  all_goals
    go_wp2
    go_ret
    refine ⟨_, rfl, ⟨_, _, rfl, ?_, ?_, ?_, ?_, ?_, ?_⟩, ?_⟩
    · omega
    · omega
    · first | (simp; done) | (simp; omega)
    · first | (simp; done) | (simp; omega)
    · go_simp
    · go_simp
    · repeat (first | exact Below.refl _ _ | (refine Below.drew ?_) | (refine Below.setCell ?_ (by first | (simp; done) | (simp; omega)) _) | (refine Below.alloc ?_ (by first | (simp; done) | (simp; omega)) _))
/-- Of two pixels, which one comes ahead on a way with x falling, or not, and y falling, or not. -/
def aheadOf (x y : Bool) (px py qx qy : Int) : Bool := if px = qx then (!(py == qy) && ((decide (py < qy)) != y)) else ((decide (px < qx)) != x)
set_option maxHeartbeats 800000 in
set_option maxRecDepth 100000 in
theorem order_Along_1.calls (px py qx qy : Int) (x y : Bool) (bx yb : Nat) (w : World) (hx : w.cell? ⟨bx, 0, none⟩ = some (.bool x)) (hy : w.cell? ⟨yb, 0, none⟩ = some (.bool y)) (hbx : bx < w.heap.size) (hby : yb < w.heap.size) :
    Calls Try.prog 18 #[.agg #[.int .i64 px, .int .i64 py], .agg #[.int .i64 qx, .int .i64 qy], .pointer (some ⟨bx, 0, none⟩), .pointer (some ⟨yb, 0, none⟩)] w
      fun e w' => e = .returned (.bool (aheadOf x y px py qx qy)) ∧ Below w.heap.size w w' := by
  by_cases h1 : px = qx
  · by_cases h2 : py = qy
    · have e : aheadOf x y px py qx qy = false := by simp [aheadOf, h1, h2]
      rw [e]
      subst h1
      subst h2
      go_enter Try.func18, Try.ntmps18
      go_wp2_with fail
      go_ret
      exact ⟨rfl, ((Below.refl _ _).alloc (Nat.le_refl _) _).alloc (by simp) _⟩
    · have e : aheadOf x y px py qx qy = ((decide (py < qy)) != y) := by simp [aheadOf, h1, h2]
      rw [e]
      subst h1
      have h2b : (py != qy) = true := by simpa using h2
      have h2c : (py == qy) = false := by simpa using h2
      clear e
      go_enter Try.func18, Try.ntmps18
      go_wp2_with fail
      go_ret
      exact ⟨by first | rfl | simp, ((Below.refl _ _).alloc (Nat.le_refl _) _).alloc (by simp) _⟩
  · have e : aheadOf x y px py qx qy = ((decide (px < qx)) != x) := by simp [aheadOf, h1]
    rw [e]
    have h2b : (px != qx) = true := by simpa using h1
    have h2c : (px == qx) = false := by simpa using h1
    clear e
    go_enter Try.func18, Try.ntmps18
    go_wp2_with fail
    go_ret
    exact ⟨by first | rfl | simp, ((Below.refl _ _).alloc (Nat.le_refl _) _).alloc (by simp) _⟩
end Go.Proofs.Ytcfnheoppaelbaa.F
