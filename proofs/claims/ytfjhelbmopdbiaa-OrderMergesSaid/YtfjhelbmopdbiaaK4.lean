/- OrderMerges and OrderUnique: the walks, whatever the rows. -/
import Derived.Test.YtfjhelbmopdbiaaR
import Derived.Test.YtfjhelbmopdbiaaO4
namespace Go.Proofs.Ytfjhelbmopdbiaa.R
open Go.RowKit Go.Proofs.Ytfjhelbmopdbiaa.F Go.Proofs.YtfjhelbmopdbiaaW.PrintWords
def mk26' (x : List Int) : S26 := ⟨x.getD 0 0, x.getD 1 0⟩
theorem mk26_K' (w : World) (x : List Int) (h : x.length = 2) : k26.K w (mk26' x) (x.map (Value.int .i64)) := by
  match x, h with
  | [a, b], _ => exact k26_mk w ⟨a, b⟩
theorem OrderMerges_walk (a : Option Addr) (len cap : Nat) (xs : List (List Int)) (a' : Option Addr) (len' cap' : Nat) (ys : List (List Int)) (w : World) (h : IsRows w 2 a len cap xs) (_ : len * 16 ≤ 140737488351232) (h' : IsRows w 2 a' len' cap' ys) (_ : len' * 16 ≤ 140737488351232) :
    Calls Try.prog 4 #[.slice a len cap, .slice a' len' cap'] w fun e w' => e = .returned (.bool true) ∧ Below w.heap.size w w' := by
  obtain ⟨k, hk⟩ := O1.OrderMerges_pure (xs.map mk26') (ys.map mk26')
  have hr := h.reads mk26' rfl (mk26_K' w)
  have hr' := h'.reads mk26' rfl (mk26_K' w)
  have hc : (xs.map mk26').length ≤ cap := by simp only [List.length_map]; have := h.1; have := h.2.1; omega
  have hc' : (ys.map mk26').length ≤ cap' := by simp only [List.length_map]; have := h'.1; have := h'.2.1; omega
  have hl : (xs.map mk26').length = len := by simp only [List.length_map]; exact h.1
  have hl' : (ys.map mk26').length = len' := by simp only [List.length_map]; exact h'.1
  have := cobweblaw07_OrderMerges.calls k a cap (xs.map mk26') a' cap' (ys.map mk26') true w hr hc hr' hc' hk
  rw [hl, hl'] at this
  exact this
end Go.Proofs.Ytfjhelbmopdbiaa.R
