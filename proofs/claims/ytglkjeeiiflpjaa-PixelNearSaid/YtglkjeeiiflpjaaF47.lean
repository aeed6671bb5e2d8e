-- PRINTED by print.py (a twelfth state) out of the translation. Not trusted: Lean checks it.
import Derived.Test.YtglkjeeiiflpjaaF0
import Derived.Test.YtglkjeeiiflpjaaB3
import Derived.Test.YtglkjeeiiflpjaaFS
namespace Go.Proofs.Ytglkjeeiiflpjaa.F
open Go.RowKit Go.Proofs.YtglkjeeiiflpjaaW.PrintWords Go.Proofs.YtglkjeeiiflpjaaW.PrintLast Go.Proofs.YtglkjeeiiflpjaaW.PrintMore
attribute [local go_sem] max2_int min2_int max_two min_two max_three min_three max_four min_four   -- for this text's walks alone
set_option linter.unusedVariables false
set_option linter.unusedSimpArgs false

/-! ### cobwebref01_size: function 47 -/
def cobwebref01_size.l0 : Nat → List Int → List Int → Int → Option (Int)
  | 0, _, _, _ => none
  | k + 1, x0, x1, x5 => if x5 ≥ 0 then ((cobwebref01_digit.f x0 x5).bind fun t101 => ((cobwebref01_digit.f x1 x5).bind fun t102 => (if t101 < t102 then (some (-1)) else ((cobwebref01_digit.f x0 x5).bind fun t103 => ((cobwebref01_digit.f x1 x5).bind fun t104 => (if t103 > t104 then (some 1) else (cobwebref01_size.l0 k x0 x1 (wrap64 (x5 - 1))))))))) else (some 0)
def cobwebref01_size.f (k : Nat) (l0 : List Int) (l1 : List Int) : Option (Int) := cobwebref01_size.l0 k l0 l1 (wrap64 ((mx (l0.length : Int) (l1.length : Int)) - 1))
theorem cobwebref01_size.mono_l : ∀ k, (∀ y0 y1 y2, LeO (cobwebref01_size.l0 k y0 y1 y2) (cobwebref01_size.l0 (k + 1) y0 y1 y2))
  | 0 => fun _ _ _ r h => by simp [cobwebref01_size.l0] at h
  | k + 1 => by
    have ih0 := cobwebref01_size.mono_l k
    · intro y0 y1 y2
      unfold cobwebref01_size.l0
      repeat' first
      | (with_reducible exact ih0 _ _ _)
      | (with_reducible exact LeO.refl _)
      | (with_reducible exact LeO.none _)
      | (with_reducible refine LeO.ite ?_ ?_)
      | (with_reducible refine LeO.bind ?_ (fun _ => ?_))
      | exact ih0 _ _ _
      | exact LeO.none _
      | refine LeO.ite ?_ ?_
      | refine LeO.bind ?_ (fun _ => ?_)
theorem cobwebref01_size.mono : ∀ a0 a1 k, LeO (cobwebref01_size.f k a0 a1) (cobwebref01_size.f (k + 1) a0 a1) := by
  intro a0 a1 k
  have ih0 := cobwebref01_size.mono_l k
  unfold cobwebref01_size.f
  repeat' first
      | (with_reducible exact ih0 _ _ _)
      | (with_reducible exact LeO.refl _)
      | (with_reducible exact LeO.none _)
      | (with_reducible refine LeO.ite ?_ ?_)
      | (with_reducible refine LeO.bind ?_ (fun _ => ?_))
      | exact ih0 _ _ _
      | exact LeO.none _
      | refine LeO.ite ?_ ?_
      | refine LeO.bind ?_ (fun _ => ?_)
set_option maxHeartbeats 8000000 in
set_option maxRecDepth 100000 in
theorem cobwebref01_size.calls (k : Nat) (A0 : Option Addr) (c0 : Nat) (l0 : List Int) (A1 : Option Addr) (c1 : Nat) (l1 : List Int) (r : Int) (w : World) (hr0 : Kd.C (Kd.int .i64) w A0 l0.length l0) (hc0 : l0.length ≤ c0) (hr1 : Kd.C (Kd.int .i64) w A1 l1.length l1) (hc1 : l1.length ≤ c1) (h : cobwebref01_size.f k l0 l1 = some r) :
    Calls Try.prog 47 #[.slice A0 l0.length c0, .slice A1 l1.length c1] w fun e w' => e = .returned (.int .i64 r) ∧ Below w.heap.size w w' := by
  have HR0 := A_ hr0
  have HC0 := A_ hc0
  clear hr0 hc0
  have HR1 := A_ hr1
  have HC1 := A_ hc1
  clear hr1 hc1
  have HB := A_ (Below.refl w.heap.size w)
  have H : (cobwebref01_size.l0 k l0 l1 (wrap64 ((mx (l0.length : Int) (l1.length : Int)) - 1))) = some r := h
  clear h
  obtain ⟨ji3, hji3⟩ : ∃ j_ : Int, (mx (l0.length : Int) (l1.length : Int)) = j_ := ⟨_, rfl⟩
  replace H : (cobwebref01_size.l0 k l0 l1 (wrap64 ((ji3) - 1))) = some r := by first | (rw [hji3] at H; exact H) | (simp only [hji3] at H ⊢; exact H)
  (try (have hji3l : 0 ≤ ji3 := by (rw [← hji3]; unfold mx; (repeat' split) <;> omega)))
  (try (have hji3m : 0 ≤ ji3 := by omega))
  have hji3_ : (if (l0.length : Int) < (l1.length : Int) then (l1.length : Int) else (l0.length : Int)) = ji3 := hji3
  have hji3_n : (if l0.length < l1.length then (l1.length : Int) else (l0.length : Int)) = ji3 := by rw [← hji3_]; split <;> split <;> omega
  have H' := A_ H
  clear H
  go_enter Try.func47, Try.ntmps47
  go_wp2
  go_loopg [5] k (fun kq v5 w' => ∃ (x5_1 : Int), v5 = .int .i64 x5_1 ∧ Aside0 (cobwebref01_size.l0 kq l0 l1 x5_1 = some r) ∧ Aside0 (kq ≤ k) ∧ Aside0 (Below w.heap.size w w'))
  case atStart => exact ⟨(wrap64 ((ji3) - 1)), (by first | rfl | (simp; done) | (simp only [← hji3] <;> (first | rfl | simp)) | (simp [*]; done)), H', ⟨Nat.le_refl _⟩, ⟨l_ HB⟩⟩
  case round =>
    clear H'
    try clear c1
    try clear p2
    obtain ⟨x5_1, rfl, HA, HK1, HB⟩ := hrel
    cases gk with
    | zero => exact absurd HA.out (by simp [cobwebref01_size.l0])
    | succ k1 =>
      have H := HA.out
      clear HA
      simp only [cobwebref01_size.l0] at H
      by_cases c4 : x5_1 ≥ 0
      · rw [if_pos c4] at H
        have c4b0 : decide (0 ≤ x5_1) = true := decide_eq_true c4
        clear c4
        replace H := Option.bind_eq_some_iff.mp H
        obtain ⟨t101, A50, H⟩ := H
        replace H : ((cobwebref01_digit.f l1 x5_1).bind fun t102 => (if t101 < t102 then (some (-1)) else ((cobwebref01_digit.f l0 x5_1).bind fun t103 => ((cobwebref01_digit.f l1 x5_1).bind fun t104 => (if t103 > t104 then (some 1) else (cobwebref01_size.l0 k1 l0 l1 (wrap64 (x5_1 - 1)))))))) = some r := H
        have A5 := A_ A50
        clear A50
        replace H := Option.bind_eq_some_iff.mp H
        obtain ⟨t102, A60, H⟩ := H
        replace H : (if t101 < t102 then (some (-1)) else ((cobwebref01_digit.f l0 x5_1).bind fun t103 => ((cobwebref01_digit.f l1 x5_1).bind fun t104 => (if t103 > t104 then (some 1) else (cobwebref01_size.l0 k1 l0 l1 (wrap64 (x5_1 - 1))))))) = some r := H
        have A6 := A_ A60
        clear A60
        by_cases c7 : t101 < t102
        · rw [if_pos c7] at H
          have c7b0 : decide (t101 < t102) = true := decide_eq_true c7
          clear c7
          obtain rfl := Option.some.inj H
          go_wp2_with (first | ((with_reducible refine gate_callee (f := 53) rfl ?_); refine goesLq_ 18 rfl Try.func53 #[.slice A0 l0.length c0, .int .i64 x5_1] ?_; (with_reducible refine (cobwebref01_digit.calls _ _ l0 x5_1 t101 _ ?side1 ?side2 A5.out).mono ?_); (case side1 => exact c_ (Kd.C_below HR0.out HB.out)); (case side2 => exact HC0.out); rintro e w' ⟨rfl, ⟨nd, rfl⟩⟩; refine ⟨_, rfl, ?_⟩) | ((with_reducible refine gate_callee (f := 53) rfl ?_); refine goesLq_ 21 rfl Try.func53 #[.slice A1 l1.length c1, .int .i64 x5_1] ?_; (with_reducible refine (cobwebref01_digit.calls _ _ l1 x5_1 t102 _ ?side1 ?side2 A6.out).mono ?_); (case side1 => exact Kd.C_below HR1.out (l_ HB)); (case side2 => exact HC1.out); rintro e w' ⟨rfl, ⟨nd, rfl⟩⟩; refine ⟨_, rfl, ?_⟩))
          go_ret
          exact ⟨by first | rfl | (simp [errW_none, errW_some] <;> rfl) | (simp only [← hji3]; first | rfl | (simp [errW_none, errW_some] <;> rfl)) | (simp [*, errW_none, errW_some] <;> rfl), l_ HB⟩
        · rw [if_neg c7] at H
          have c7b0 : decide (t101 < t102) = false := decide_eq_false c7
          clear c7
          replace H := Option.bind_eq_some_iff.mp H
          obtain ⟨t103, A80, H⟩ := H
          replace H : ((cobwebref01_digit.f l1 x5_1).bind fun t104 => (if t103 > t104 then (some 1) else (cobwebref01_size.l0 k1 l0 l1 (wrap64 (x5_1 - 1))))) = some r := H
          have A8 := A_ A80
          clear A80
          replace H := Option.bind_eq_some_iff.mp H
          obtain ⟨t104, A90, H⟩ := H
          replace H : (if t103 > t104 then (some 1) else (cobwebref01_size.l0 k1 l0 l1 (wrap64 (x5_1 - 1)))) = some r := H
          have A9 := A_ A90
          clear A90
          by_cases c10 : t103 > t104
          · rw [if_pos c10] at H
            have c10b0 : decide (t104 < t103) = true := decide_eq_true c10
            clear c10
            obtain rfl := Option.some.inj H
            go_wp2_with (first | ((with_reducible refine gate_callee (f := 53) rfl ?_); refine goesLq_ 18 rfl Try.func53 #[.slice A0 l0.length c0, .int .i64 x5_1] ?_; (with_reducible refine (cobwebref01_digit.calls _ _ l0 x5_1 t101 _ ?side1 ?side2 A5.out).mono ?_); (case side1 => exact c_ (Kd.C_below HR0.out HB.out)); (case side2 => exact HC0.out); rintro e w' ⟨rfl, ⟨nd, rfl⟩⟩; refine ⟨_, rfl, ?_⟩) | ((with_reducible refine gate_callee (f := 53) rfl ?_); refine goesLq_ 21 rfl Try.func53 #[.slice A1 l1.length c1, .int .i64 x5_1] ?_; (with_reducible refine (cobwebref01_digit.calls _ _ l1 x5_1 t102 _ ?side1 ?side2 A6.out).mono ?_); (case side1 => exact Kd.C_below HR1.out (l_ HB)); (case side2 => exact HC1.out); rintro e w' ⟨rfl, ⟨nd, rfl⟩⟩; refine ⟨_, rfl, ?_⟩) | ((with_reducible refine gate_callee (f := 53) rfl ?_); refine goesLq_ 25 rfl Try.func53 #[.slice A0 l0.length c0, .int .i64 x5_1] ?_; (with_reducible refine (cobwebref01_digit.calls _ _ l0 x5_1 t103 _ ?side1 ?side2 A8.out).mono ?_); (case side1 => exact Kd.C_below HR0.out (l_ HB)); (case side2 => exact HC0.out); rintro e w' ⟨rfl, ⟨nd, rfl⟩⟩; refine ⟨_, rfl, ?_⟩) | ((with_reducible refine gate_callee (f := 53) rfl ?_); refine goesLq_ 28 rfl Try.func53 #[.slice A1 l1.length c1, .int .i64 x5_1] ?_; (with_reducible refine (cobwebref01_digit.calls _ _ l1 x5_1 t104 _ ?side1 ?side2 A9.out).mono ?_); (case side1 => exact Kd.C_below HR1.out (l_ HB)); (case side2 => exact HC1.out); rintro e w' ⟨rfl, ⟨nd, rfl⟩⟩; refine ⟨_, rfl, ?_⟩))
            go_ret
            exact ⟨by first | rfl | (simp [errW_none, errW_some] <;> rfl) | (simp only [← hji3]; first | rfl | (simp [errW_none, errW_some] <;> rfl)) | (simp [*, errW_none, errW_some] <;> rfl), l_ HB⟩
          · rw [if_neg c10] at H
            have c10b0 : decide (t104 < t103) = false := decide_eq_false c10
            clear c10
            have H' := A_ H
            clear H
            go_wp2_with (first | ((with_reducible refine gate_callee (f := 53) rfl ?_); refine goesLq_ 18 rfl Try.func53 #[.slice A0 l0.length c0, .int .i64 x5_1] ?_; (with_reducible refine (cobwebref01_digit.calls _ _ l0 x5_1 t101 _ ?side1 ?side2 A5.out).mono ?_); (case side1 => exact c_ (Kd.C_below HR0.out HB.out)); (case side2 => exact HC0.out); rintro e w' ⟨rfl, ⟨nd, rfl⟩⟩; refine ⟨_, rfl, ?_⟩) | ((with_reducible refine gate_callee (f := 53) rfl ?_); refine goesLq_ 21 rfl Try.func53 #[.slice A1 l1.length c1, .int .i64 x5_1] ?_; (with_reducible refine (cobwebref01_digit.calls _ _ l1 x5_1 t102 _ ?side1 ?side2 A6.out).mono ?_); (case side1 => exact Kd.C_below HR1.out (l_ HB)); (case side2 => exact HC1.out); rintro e w' ⟨rfl, ⟨nd, rfl⟩⟩; refine ⟨_, rfl, ?_⟩) | ((with_reducible refine gate_callee (f := 53) rfl ?_); refine goesLq_ 25 rfl Try.func53 #[.slice A0 l0.length c0, .int .i64 x5_1] ?_; (with_reducible refine (cobwebref01_digit.calls _ _ l0 x5_1 t103 _ ?side1 ?side2 A8.out).mono ?_); (case side1 => exact Kd.C_below HR0.out (l_ HB)); (case side2 => exact HC0.out); rintro e w' ⟨rfl, ⟨nd, rfl⟩⟩; refine ⟨_, rfl, ?_⟩) | ((with_reducible refine gate_callee (f := 53) rfl ?_); refine goesLq_ 28 rfl Try.func53 #[.slice A1 l1.length c1, .int .i64 x5_1] ?_; (with_reducible refine (cobwebref01_digit.calls _ _ l1 x5_1 t104 _ ?side1 ?side2 A9.out).mono ?_); (case side1 => exact Kd.C_below HR1.out (l_ HB)); (case side2 => exact HC1.out); rintro e w' ⟨rfl, ⟨nd, rfl⟩⟩; refine ⟨_, rfl, ?_⟩))
            go_roundg k1
            case measure => have := HK1.out; omega
            case rel => exact ⟨(wrap64 (x5_1 - 1)), (by first | rfl | (simp; done) | (simp [*]; done)), H', ⟨by have := HK1.out; omega⟩, ⟨l_ HB⟩⟩
      · rw [if_neg c4] at H
        have c4b0 : decide (0 ≤ x5_1) = false := decide_eq_false c4
        clear c4
        obtain rfl := Option.some.inj H
        go_wp2
        go_ret
        exact ⟨by first | rfl | (simp [errW_none, errW_some] <;> rfl) | (simp only [← hji3]; first | rfl | (simp [errW_none, errW_some] <;> rfl)) | (simp [*, errW_none, errW_some] <;> rfl), l_ HB⟩

end Go.Proofs.Ytglkjeeiiflpjaa.F
