/- OrderSorts, in plain lists. -/
import Derived.Test.YtfjhelbmopdbiaaO1
import Derived.Test.YtfjhelbmopdbiaaF3
namespace Go.Proofs.Ytfjhelbmopdbiaa.O1
open Go.RowKit Go.Proofs.Ytfjhelbmopdbiaa.F Go.Proofs.YtfjhelbmopdbiaaW.PrintWords Go.Proofs.YtfjhelbmopdbiaaW.PrintLast Go.Proofs.YtfjhelbmopdbiaaW.PrintMore Go.Proofs.Ytfjhelbmopdbiaa.Ord

/-- The law's own look whether the row is in order goes as the program's. -/
theorem sorts_loop (l w s : List S26) (r : Bool) (hl : l.length ≤ 200) : ∀ (d i : Nat) (x : Bool), l.length - 1 - i = d → i + 1 ≤ l.length ∨ l.length = 0 →
    Ev (fun k => (cobweblaw07_alive.f).bind fun t113 => (if t113 = true then ((cobwebref07_Sort.f k l).bind fun t114 => ((cobweblaw07_same.f k s t114).bind fun t117 => (if t117 = true then ((cobwebref07_Item_13.f k s).bind fun t118 => (if t118 = true then ((cobwebref07_Item_13.f k l).bind fun t119 => (if (t119 == (x && okFrom l d i)) = true then ((cobweblaw07_same.f k l w).bind fun t120 => (some t120)) else (some false))) else (some false))) else (some false)))) else (some false))) r →
    Ev (fun k => cobweblaw07_OrderSorts.l0 k l w s x ((i + 1 : Nat) : Int)) r := by
  intro d
  induction d with
  | zero =>
    intro i x hd hi h
    refine Ev.step (fun k => ?_) h
    simp only [cobweblaw07_OrderSorts.l0]
    rw [if_neg (by omega)]
    simp only [okFrom, Bool.and_true]
  | succ d ih =>
    intro i x hd hi h
    have hi' : i + 1 < l.length := by omega
    have e1 : wrap64 (((i + 1 : Nat) : Int) - 1) = (i : Int) := by rw [w64 (by omega) (by omega)]; omega
    have e2 : wrap64 (((i + 1 : Nat) : Int) + 1) = ((i + 1 + 1 : Nat) : Int) := by rw [w64 (by omega) (by omega)]; omega
    cases x with
    | true =>
      refine Ev.step (f := fun k => cobweblaw07_OrderSorts.l0 k l w s (decide ((rd_T26 l (i : Int)).f0 ≤ (rd_T26 l ((i + 1 : Nat) : Int)).f0)) ((i + 1 + 1 : Nat) : Int)) (fun k => ?_) (ih (i + 1) _ (by omega) (by omega) ?_)
      · simp only [cobweblaw07_OrderSorts.l0, e1, e2]
        rw [if_pos (by omega), if_pos trivial, if_pos (by omega), if_pos (by omega), if_pos (by omega)]
      · simpa [okFrom] using h
    | false =>
      refine Ev.step (f := fun k => cobweblaw07_OrderSorts.l0 k l w s false ((i + 1 + 1 : Nat) : Int)) (fun k => ?_) (ih (i + 1) _ (by omega) (by omega) ?_)
      · simp only [cobweblaw07_OrderSorts.l0, e1, e2]
        rw [if_pos (by omega), if_neg (by simp)]
      · simpa using h

theorem OrderSorts_pure (l : List S26) : ∃ k, cobweblaw07_OrderSorts.f k l = some true := by
  by_cases h : (l.length : Int) > 200
  · refine ⟨0, ?_⟩
    simp only [cobweblaw07_OrderSorts.f]
    rw [if_pos h]
    rfl
  · have hl : l.length ≤ 200 := by omega
    obtain ⟨s, es, os⟩ := sort_f _ l (Nat.le_refl _) (by omega)
    obtain ⟨t, et, ot⟩ := ref_sort l (by omega)
    obtain rfl : s = t := os.unique swoI ot
    have hsl := os.len
    refine Ev.rounds (Ev.congr (f := fun k => (sortItem_9.f k l).bind fun t108 => cobweblaw07_OrderSorts.l0 k l l t108 true ((0 + 1 : Nat) : Int)) (fun k => ?_) (Ev.bind es (sorts_loop l l s true hl _ 0 true rfl (by omega) ?_)))
    · simp only [cobweblaw07_OrderSorts.f]
      rw [if_neg h]
      simp only [Option.bind_some, List.nil_append, List.length_nil, Nat.zero_add]
      rw [if_pos (by omega)]
      rfl
    · refine Ev.bind (a := true) (f := fun k t113 => if t113 = true then _ else _) (Ev.now true) ?_
      simp only [if_true]
      refine Ev.bind et ?_
      refine Ev.bind (same_refl s (by omega)) ?_
      simp only [if_true]
      refine Ev.bind (is_f s (by omega)) ?_
      rw [okFrom_sorted os.srt _ 0 (by omega)]
      simp only [if_true]
      refine Ev.bind (is_f l (by omega)) ?_
      simp only [Bool.true_and, Nat.sub_zero, beq_self_eq_true, if_true]
      exact Ev.bind (same_refl l (by omega)) (Ev.now true)
end Go.Proofs.Ytfjhelbmopdbiaa.O1
