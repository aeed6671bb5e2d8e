-- PRINTED by print.py (a twelfth state) out of the translation. Not trusted: Lean checks it.
import Derived.Test.YtglkjeeiiflpjaaF0
import Derived.Test.YtglkjeeiiflpjaaB3
import Derived.Test.YtglkjeeiiflpjaaF38
namespace Go.Proofs.Ytglkjeeiiflpjaa.F
open Go.RowKit Go.Proofs.YtglkjeeiiflpjaaW.PrintWords Go.Proofs.YtglkjeeiiflpjaaW.PrintLast Go.Proofs.YtglkjeeiiflpjaaW.PrintMore
attribute [local go_sem] max2_int min2_int max_two min_two max_three min_three max_four min_four   -- for this text's walks alone
set_option linter.unusedVariables false
set_option linter.unusedSimpArgs false

/-! ### grid_Snap: function 39 -/
def grid_Snap.f (a0 : Int) (a1 : Int) : Option (Int) := (grid_rung.f a1).bind fun t101 => (if t101 = 0 then (some a0) else (if 0 ≤ t101 then (if 0 ≤ (wrap64 (t101 - 1)) then (some (wrap64 ((shr .i64 a0 t101) + (Go.bits .and .i64 (shr .i64 a0 (wrap64 (t101 - 1))) 1)))) else (none)) else (none)))
set_option maxHeartbeats 8000000 in
set_option maxRecDepth 100000 in
theorem grid_Snap.calls (a0 : Int) (a1 : Int) (r : Int) (w : World) (h : grid_Snap.f a0 a1 = some r) :
    Calls Try.prog 39 #[.int .i64 a0, .int .i64 a1] w fun e w' => e = .returned (.int .i64 r) ∧ Below w.heap.size w w' := by
  have HB := A_ (Below.refl w.heap.size w)
  have H : ((grid_rung.f a1).bind fun t101 => (if t101 = 0 then (some a0) else (if 0 ≤ t101 then (if 0 ≤ (wrap64 (t101 - 1)) then (some (wrap64 ((shr .i64 a0 t101) + (Go.bits .and .i64 (shr .i64 a0 (wrap64 (t101 - 1))) 1)))) else (none)) else (none)))) = some r := h
  clear h
  replace H := Option.bind_eq_some_iff.mp H
  obtain ⟨t101, A30, H⟩ := H
  replace H : (if t101 = 0 then (some a0) else (if 0 ≤ t101 then (if 0 ≤ (wrap64 (t101 - 1)) then (some (wrap64 ((shr .i64 a0 t101) + (Go.bits .and .i64 (shr .i64 a0 (wrap64 (t101 - 1))) 1)))) else (none)) else (none))) = some r := H
  have A3 := A_ A30
  clear A30
  by_cases c4 : t101 = 0
  · rw [if_pos c4] at H
    have c4b0 : (t101 == 0) = true := beq_iff_eq.mpr c4
    have c4b1 : (t101 != 0) = false := bne_eq_false_iff_eq.mpr c4
    clear c4
    obtain rfl := Option.some.inj H
    go_enter Try.func39, Try.ntmps39
    go_wp2_with (first | (go_at_call 38; (with_reducible refine (grid_rung.calls a1 t101 _ A3.out).mono ?_); rintro e w5 ⟨rfl, hb⟩; replace HB := st_ HB hb; (try clear hb); (try clear hb2); (try clear hk); (try clear hi)))
    repeat (go_quiet (first | (go_at_call 38; (with_reducible refine (grid_rung.calls a1 t101 _ A3.out).mono ?_); rintro e w5 ⟨rfl, hb⟩; replace HB := st_ HB hb; (try clear hb); (try clear hb2); (try clear hk); (try clear hi))); try go_wp2_with (first | (go_at_call 38; (with_reducible refine (grid_rung.calls a1 t101 _ A3.out).mono ?_); rintro e w5 ⟨rfl, hb⟩; replace HB := st_ HB hb; (try clear hb); (try clear hb2); (try clear hk); (try clear hi))))
    go_ret
    exact ⟨by first | rfl | (simp [errW_none, errW_some] <;> rfl) | (simp [*, errW_none, errW_some] <;> rfl), l_ HB⟩
  · rw [if_neg c4] at H
    have c4b0 : (t101 == 0) = false := beq_eq_false_iff_ne.mpr c4
    have c4b1 : (t101 != 0) = true := bne_iff_ne.mpr c4
    by_cases c6 : 0 ≤ t101
    · rw [if_pos c6] at H
      have c6b0 := eq_true c6
      have c6b1 : decide (0 ≤ t101) = true := decide_eq_true c6
      clear c6
      obtain ⟨ji7, hji7⟩ : ∃ j_ : Int, (shr .i64 a0 t101) = j_ := ⟨_, rfl⟩
      replace H : (if 0 ≤ (wrap64 (t101 - 1)) then (some (wrap64 ((ji7) + (Go.bits .and .i64 (shr .i64 a0 (wrap64 (t101 - 1))) 1)))) else (none)) = some r := by first | (rw [hji7] at H; exact H) | (simp only [hji7] at H ⊢; exact H)
      (try rw [hji7] at A3)
      have hji7_ : (a0 / 2 ^ min t101.toNat 64) = ji7 := hji7
      have hji7z : t101 ≤ 64 → (a0 / 2 ^ t101.toNat) = ji7 := shr_small hji7
      obtain ⟨ji8, hji8⟩ : ∃ j_ : Int, (wrap64 (t101 - 1)) = j_ := ⟨_, rfl⟩
      replace H : (if 0 ≤ (ji8) then (some (wrap64 ((ji7) + (Go.bits .and .i64 (shr .i64 a0 (ji8)) 1)))) else (none)) = some r := by first | (rw [hji8] at H; exact H) | (simp only [hji8] at H ⊢; exact H)
      (try rw [hji8] at A3)
      have hji8w : (IntKind.i64.wrap (t101 - 1)) = ji8 := (i64_w _).trans hji8
      by_cases c9 : 0 ≤ (ji8)
      · rw [if_pos c9] at H
        have c9b0 := eq_true c9
        have c9b1 : decide (0 ≤ (ji8)) = true := decide_eq_true c9
        clear c9
        obtain ⟨ji10, hji10⟩ : ∃ j_ : Int, (shr .i64 a0 (ji8)) = j_ := ⟨_, rfl⟩
        replace H : (some (wrap64 ((ji7) + (Go.bits .and .i64 (ji10) 1)))) = some r := by first | (rw [hji10] at H; exact H) | (simp only [hji10] at H ⊢; exact H)
        (try rw [hji10] at A3)
        have hji10_ : (a0 / 2 ^ min (ji8).toNat 64) = ji10 := hji10
        have hji10z : (ji8) ≤ 64 → (a0 / 2 ^ (ji8).toNat) = ji10 := shr_small hji10
        obtain rfl := Option.some.inj H
        go_enter Try.func39, Try.ntmps39
        go_wp2_with (first | (go_at_call 38; (with_reducible refine (grid_rung.calls a1 t101 _ A3.out).mono ?_); rintro e w11 ⟨rfl, hb⟩; replace HB := st_ HB hb; (try clear hb); (try clear hb2); (try clear hk); (try clear hi)))
        repeat (go_quiet (first | (go_at_call 38; (with_reducible refine (grid_rung.calls a1 t101 _ A3.out).mono ?_); rintro e w11 ⟨rfl, hb⟩; replace HB := st_ HB hb; (try clear hb); (try clear hb2); (try clear hk); (try clear hi))); try go_wp2_with (first | (go_at_call 38; (with_reducible refine (grid_rung.calls a1 t101 _ A3.out).mono ?_); rintro e w11 ⟨rfl, hb⟩; replace HB := st_ HB hb; (try clear hb); (try clear hb2); (try clear hk); (try clear hi))))
        go_ret
        exact ⟨by first | rfl | (simp [errW_none, errW_some] <;> rfl) | (simp only [← hji7, ← hji8, ← hji10]; first | rfl | (simp [errW_none, errW_some] <;> rfl)) | (simp [*, errW_none, errW_some] <;> rfl), l_ HB⟩
      · rw [if_neg c9] at H
        exact absurd H (by simp)
    · rw [if_neg c6] at H
      exact absurd H (by simp)

end Go.Proofs.Ytglkjeeiiflpjaa.F
