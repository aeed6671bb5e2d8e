/- OrderUnique: the walk, whatever the row. -/
import Derived.Test.YtfjhelbmopdbiaaR
import Derived.Test.YtfjhelbmopdbiaaO5
namespace Go.Proofs.Ytfjhelbmopdbiaa.R
open Go.RowKit Go.Proofs.Ytfjhelbmopdbiaa.F Go.Proofs.YtfjhelbmopdbiaaW.PrintWords
def mkInt (x : List Int) : Int := x.getD 0 0
theorem mkInt_K (w : World) (x : List Int) (h : x.length = 1) : (Kd.int .i64).K w (mkInt x) (x.map (Value.int .i64)) := by
  match x, h with
  | [a], _ => exact rfl
theorem OrderUnique_walk (a : Option Addr) (len cap : Nat) (xs : List (List Int)) (w : World) (h : IsRows w 1 a len cap xs) (_ : len * 8 ≤ 140737488351232) :
    Calls Try.prog 5 #[.slice a len cap] w fun e w' => e = .returned (.bool true) ∧ Below w.heap.size w w' := by
  obtain ⟨k, hk⟩ := O1.OrderUnique_pure (xs.map mkInt)
  have hr := h.reads mkInt rfl (mkInt_K w)
  have hc : (xs.map mkInt).length ≤ cap := by simp only [List.length_map]; have := h.1; have := h.2.1; omega
  have hl : (xs.map mkInt).length = len := by simp only [List.length_map]; exact h.1
  have := cobweblaw07_OrderUnique.calls k a cap (xs.map mkInt) true w hr hc hk
  rw [hl] at this
  exact this
end Go.Proofs.Ytfjhelbmopdbiaa.R
