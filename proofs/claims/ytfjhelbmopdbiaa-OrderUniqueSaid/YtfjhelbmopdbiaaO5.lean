/- OrderUnique, in plain lists. -/
import Derived.Test.YtfjhelbmopdbiaaO1
import Derived.Test.YtfjhelbmopdbiaaF5
namespace Go.Proofs.Ytfjhelbmopdbiaa.O1
open Go.RowKit Go.Proofs.Ytfjhelbmopdbiaa.F Go.Proofs.YtfjhelbmopdbiaaW.PrintWords Go.Proofs.YtfjhelbmopdbiaaW.PrintLast Go.Proofs.YtfjhelbmopdbiaaW.PrintMore Go.Proofs.Ytfjhelbmopdbiaa.Ord

theorem rdi (l : List Int) (j : Nat) (h : j < l.length) : rd l (j : Int) = l.toArray[j]! := by
  simp [rd, List.getD_eq_getElem?_getD, h]

theorem unique_l0 (l : List Int) (hl : l.length < 8796093022208) : ∀ (d i : Nat), l.length - i = d → i ≤ l.length →
    Ev (fun k => cobwebref07_Unique.l0 k l (Go.Lib.compactUpTo l.toArray i) (i : Int)) (Go.Lib.compact l) := by
  intro d
  induction d with
  | zero =>
    intro i hd hi
    obtain rfl : i = l.length := by omega
    refine Ev.step (f := fun _ => some (Go.Lib.compact l)) (fun k => ?_) (Ev.now _)
    simp only [cobwebref07_Unique.l0]
    rw [if_neg (by omega)]
    rfl
  | succ d ih =>
    intro i hd hi
    have hi' : i < l.length := by omega
    have e2 : wrap64 ((i : Int) + 1) = ((i + 1 : Nat) : Int) := by rw [w64 (by omega) (by omega)]; omega
    have hcl : (Go.Lib.compactUpTo l.toArray i).length < 17592186044416 := by
      unfold Go.Lib.compactUpTo
      rw [List.length_map]
      have := List.length_filter_le (Go.Lib.keeps l.toArray) (List.range i)
      rw [List.length_range] at this
      omega
    refine Ev.step (f := fun k => cobwebref07_Unique.l0 k l (Go.Lib.compactUpTo l.toArray (i + 1)) ((i + 1 : Nat) : Int)) (fun k => ?_) (ih (i + 1) (by omega) (by omega))
    simp only [cobwebref07_Unique.l0, e2]
    rw [if_pos (by omega), Go.Lib.compactUpTo_succ]
    by_cases h0 : i = 0
    · subst h0
      rw [if_pos (by omega), if_pos (by omega), if_pos hcl, rdi l 0 hi']
      simp [Go.Lib.keeps]
    · have e1 : wrap64 ((i : Int) - 1) = ((i - 1 : Nat) : Int) := by rw [w64 (by omega) (by omega)]; omega
      rw [if_neg (by omega), if_pos (by omega), e1, if_pos (by omega), if_pos (by omega), rdi l i hi', rdi l (i - 1) (by omega)]
      by_cases he : l.toArray[i]! = l.toArray[i - 1]!
      · rw [if_pos he, Go.Lib.keeps_neg (by omega) he]
        simp
      · rw [if_neg he, if_pos hcl, Go.Lib.keeps_pos he]
        simp

theorem look_l0 (s : List Int) (hl : s.length < 8796093022208) : ∀ (d i : Nat), s.length - i = d → i ≤ s.length →
    Ev (fun k => cobweblaw07_OrderUnique.l0 k s s (s.length : Int) (i : Int)) true := by
  intro d
  induction d with
  | zero =>
    intro i hd hi
    refine Ev.step (f := fun _ => some true) (fun k => ?_) (Ev.now _)
    simp only [cobweblaw07_OrderUnique.l0]
    rw [if_neg (by omega)]
    rfl
  | succ d ih =>
    intro i hd hi
    have e2 : wrap64 ((i : Int) + 1) = ((i + 1 : Nat) : Int) := by rw [w64 (by omega) (by omega)]; omega
    refine Ev.step (fun k => ?_) (ih (i + 1) (by omega) (by omega))
    simp only [cobweblaw07_OrderUnique.l0, e2]
    rw [if_pos (by omega), if_pos (by omega), if_pos (by omega), if_pos (by omega), if_pos trivial]

theorem OrderUnique_pure (l : List Int) : ∃ k, cobweblaw07_OrderUnique.f k l = some true := by
  by_cases h : (l.length : Int) > 300
  · refine ⟨0, ?_⟩
    simp only [cobweblaw07_OrderUnique.f]
    rw [if_pos h]; rfl
  · have hl : l.length < 8796093022208 := by omega
    have hu : Ev (fun k => cobwebref07_Unique.f k l) (Go.Lib.compact l) := unique_l0 l hl _ 0 rfl (by omega)
    have hc := compact_len l
    refine Ev.rounds (Ev.congr (f := fun k => (cobwebref07_Unique.f k l).bind fun t => if ((Go.Lib.compact l).length : Int) = (t.length : Int) then cobweblaw07_OrderUnique.l0 k (Go.Lib.compact l) t ((Go.Lib.compact l).length : Int) 0 else some false) (fun k => ?_) (Ev.bind hu ?_))
    · simp only [cobweblaw07_OrderUnique.f, order_Unique_int.f]
      rw [if_neg h, if_pos (by omega)]
      rfl
    · simp only [if_true]
      exact look_l0 _ (by omega) _ 0 rfl (by omega)
end Go.Proofs.Ytfjhelbmopdbiaa.O1
