-- PRINTED by print.py (a twelfth state) out of the translation. Not trusted: Lean checks it.
import Derived.Test.YtglkjeeiiflpjaaF0
import Derived.Test.YtglkjeeiiflpjaaB3
import Derived.Test.YtglkjeeiiflpjaaFS
namespace Go.Proofs.Ytglkjeeiiflpjaa.F
open Go.RowKit Go.Proofs.YtglkjeeiiflpjaaW.PrintWords Go.Proofs.YtglkjeeiiflpjaaW.PrintLast Go.Proofs.YtglkjeeiiflpjaaW.PrintMore
attribute [local go_sem] max2_int min2_int max_two min_two max_three min_three max_four min_four   -- for this text's walks alone
set_option linter.unusedVariables false
set_option linter.unusedSimpArgs false

/-! ### cobwebref01_plus: function 46 -/
mutual
def cobwebref01_plus.l0 : Nat → List Int → List Int → List Int → Int → Int → Option (List Int)
  | 0, _, _, _, _, _ => none
  | k + 1, x0, x1, x5, x6, x7 => if x7 < (mx (x0.length : Int) (x1.length : Int)) then (cobwebref01_plus.j1 k x0 x1 x5 x6 x7 true) else (cobwebref01_plus.j1 k x0 x1 x5 x6 x7 (decide (x6 > 0)))
def cobwebref01_plus.j1 : Nat → List Int → List Int → List Int → Int → Int → Bool → Option (List Int)
  | 0, _, _, _, _, _, _ => none
  | k + 1, x0, x1, x5, x6, x7, x18 => if x18 = true then ((cobwebref01_digit.f x0 x7).bind fun t101 => ((cobwebref01_digit.f x1 x7).bind fun t102 => ((cobwebref01_base.f).bind fun t103 => (if t103 = 0 then (none) else (if x5.length < 17592186044416 then ((cobwebref01_base.f).bind fun t107 => (if t107 = 0 then (none) else (cobwebref01_plus.l0 k x0 x1 (x5 ++ [Int.tmod (wrap64 ((wrap64 (x6 + t101)) + t102)) t103]) (wrap64 (Int.tdiv (wrap64 ((wrap64 (x6 + t101)) + t102)) t107)) (wrap64 (x7 + 1))))) else (none)))))) else (some x5)
end
def cobwebref01_plus.f (k : Nat) (l0 : List Int) (l1 : List Int) : Option (List Int) := cobwebref01_plus.l0 k l0 l1 ([] : List Int) 0 0
theorem cobwebref01_plus.mono_l : ∀ k, (∀ y0 y1 y2 y3 y4, LeO (cobwebref01_plus.l0 k y0 y1 y2 y3 y4) (cobwebref01_plus.l0 (k + 1) y0 y1 y2 y3 y4)) ∧ (∀ y0 y1 y2 y3 y4 y5, LeO (cobwebref01_plus.j1 k y0 y1 y2 y3 y4 y5) (cobwebref01_plus.j1 (k + 1) y0 y1 y2 y3 y4 y5))
  | 0 => ⟨fun _ _ _ _ _ r h => by simp [cobwebref01_plus.l0] at h, fun _ _ _ _ _ _ r h => by simp [cobwebref01_plus.j1] at h⟩
  | k + 1 => by
    obtain ⟨ih0, ih1⟩ := cobwebref01_plus.mono_l k
    refine ⟨?_, ?_⟩
    · intro y0 y1 y2 y3 y4
      unfold cobwebref01_plus.l0
      repeat' first
      | (with_reducible exact ih0 _ _ _ _ _)
      | (with_reducible exact ih1 _ _ _ _ _ _)
      | (with_reducible exact LeO.refl _)
      | (with_reducible exact LeO.none _)
      | (with_reducible refine LeO.ite ?_ ?_)
      | (with_reducible refine LeO.bind ?_ (fun _ => ?_))
      | exact ih0 _ _ _ _ _
      | exact ih1 _ _ _ _ _ _
      | exact LeO.none _
      | refine LeO.ite ?_ ?_
      | refine LeO.bind ?_ (fun _ => ?_)
    · intro y0 y1 y2 y3 y4 y5
      unfold cobwebref01_plus.j1
      repeat' first
      | (with_reducible exact ih0 _ _ _ _ _)
      | (with_reducible exact ih1 _ _ _ _ _ _)
      | (with_reducible exact LeO.refl _)
      | (with_reducible exact LeO.none _)
      | (with_reducible refine LeO.ite ?_ ?_)
      | (with_reducible refine LeO.bind ?_ (fun _ => ?_))
      | exact ih0 _ _ _ _ _
      | exact ih1 _ _ _ _ _ _
      | exact LeO.none _
      | refine LeO.ite ?_ ?_
      | refine LeO.bind ?_ (fun _ => ?_)
theorem cobwebref01_plus.mono : ∀ a0 a1 k, LeO (cobwebref01_plus.f k a0 a1) (cobwebref01_plus.f (k + 1) a0 a1) := by
  intro a0 a1 k
  obtain ⟨ih0, ih1⟩ := cobwebref01_plus.mono_l k
  unfold cobwebref01_plus.f
  repeat' first
      | (with_reducible exact ih0 _ _ _ _ _)
      | (with_reducible exact ih1 _ _ _ _ _ _)
      | (with_reducible exact LeO.refl _)
      | (with_reducible exact LeO.none _)
      | (with_reducible refine LeO.ite ?_ ?_)
      | (with_reducible refine LeO.bind ?_ (fun _ => ?_))
      | exact ih0 _ _ _ _ _
      | exact ih1 _ _ _ _ _ _
      | exact LeO.none _
      | refine LeO.ite ?_ ?_
      | refine LeO.bind ?_ (fun _ => ?_)
set_option maxHeartbeats 8000000 in
set_option maxRecDepth 100000 in
theorem cobwebref01_plus.calls (k : Nat) (A0 : Option Addr) (c0 : Nat) (l0 : List Int) (A1 : Option Addr) (c1 : Nat) (l1 : List Int) (r : List Int) (w : World) (hr0 : Kd.C (Kd.int .i64) w A0 l0.length l0) (hc0 : l0.length ≤ c0) (hr1 : Kd.C (Kd.int .i64) w A1 l1.length l1) (hc1 : l1.length ≤ c1) (h : cobwebref01_plus.f k l0 l1 = some r) :
    Calls Try.prog 46 #[.slice A0 l0.length c0, .slice A1 l1.length c1] w fun e w' => ∃ v0_ : Value, e = .returned (v0_) ∧ Kd.R (Kd.int .i64) 3 w' w.heap.size (fun _ => True) v0_ r ∧ Below w.heap.size w w' := by
  have HR0 := A_ hr0
  have HC0 := A_ hc0
  clear hr0 hc0
  have HR1 := A_ hr1
  have HC1 := A_ hc1
  clear hr1 hc1
  have HB := A_ (Below.refl w.heap.size w)
  have H : (cobwebref01_plus.l0 k l0 l1 ([] : List Int) 0 0) = some r := h
  clear h
  have H' := A_ H
  clear H
  go_enter Try.func46, Try.ntmps46
  go_wp2
  go_loopg [5, 6, 7] k (fun kq v5 v6 v7 w' => ∃ (x5_1 : List Int) (x6_1 : Int) (x7_1 : Int), v6 = .int .i64 x6_1 ∧ v7 = .int .i64 x7_1 ∧ Aside0 (cobwebref01_plus.l0 kq l0 l1 x5_1 x6_1 x7_1 = some r) ∧ Aside0 (kq ≤ k) ∧ Aside0 (Kd.R (Kd.int .i64) 3 w' w.heap.size (fun _ => True) v5 x5_1) ∧ Aside0 (Below w.heap.size w w'))
  case atStart => exact ⟨(([] : List Int)), (0), (0), (by first | rfl | (simp; done) | (simp [*]; done)), (by first | rfl | (simp; done) | (simp [*]; done)), H', ⟨Nat.le_refl _⟩, ⟨by first | exact Kd.R_nil _ _ _ _ _ | exact Kd.N_nil _ _ _ _ _ | exact Kd.V_nil _ _ _ _ _ | exact Kd.Q_nil _ _ _ _ _ | exact Kd.S_nil _ _ _ _ _⟩, ⟨l_ HB⟩⟩
  case round =>
    clear H'
    try clear c1
    try clear p2
    obtain ⟨x5_1, x6_1, x7_1, rfl, rfl, HA, HK1, HO_5, HB⟩ := hrel
    cases gk with
    | zero => exact absurd HA.out (by simp [cobwebref01_plus.l0])
    | succ k1 =>
      have H := HA.out
      clear HA
      simp only [cobwebref01_plus.l0] at H
      have HC3 := A_ H
      clear H
      go_upto_region 4 with (fail)
      go_cut [18] (fun v18 wc => ∃ (kq : Nat) (x18_2 : Bool), v18 = .bool x18_2 ∧ Aside0 (cobwebref01_plus.j1 kq l0 l1 x5_1 x6_1 x7_1 x18_2 = some r) ∧ Aside0 (kq ≤ k1) ∧ Aside0 (Kd.R (Kd.int .i64) 3 wc w.heap.size (fun _ => True) u5 x5_1) ∧ Aside0 (Below w.heap.size w wc))
      case first =>
        have H := HC3.out
        clear HC3
        obtain ⟨ji4, hji4⟩ : ∃ j_ : Int, (mx (l0.length : Int) (l1.length : Int)) = j_ := ⟨_, rfl⟩
        replace H : (if x7_1 < (ji4) then (cobwebref01_plus.j1 k1 l0 l1 x5_1 x6_1 x7_1 true) else (cobwebref01_plus.j1 k1 l0 l1 x5_1 x6_1 x7_1 (decide (x6_1 > 0)))) = some r := by first | (rw [hji4] at H; exact H) | (simp only [hji4] at H ⊢; exact H)
        have hji4_ : (if (l0.length : Int) < (l1.length : Int) then (l1.length : Int) else (l0.length : Int)) = ji4 := hji4
        have hji4_n : (if l0.length < l1.length then (l1.length : Int) else (l0.length : Int)) = ji4 := by rw [← hji4_]; split <;> split <;> omega
        by_cases c5 : x7_1 < (ji4)
        · rw [if_pos c5] at H
          have c5b0 : decide (x7_1 < (ji4)) = true := decide_eq_true c5
          clear c5
          (first | rw [c5b0] | (simp only [i64_w, i32_w]; rw [c5b0]) | skip)
          have H' := A_ H
          clear H
          go_wp2
          go_meet
          case rel => exact ⟨_, (true), (by first | rfl | (simp; done) | (simp [*]; done)), H', ⟨by have := HK1.out; first | omega | exact Nat.le_refl _⟩, ⟨by (with_reducible repeat (first | apply Kd.R_alloc | apply Kd.R_drewN | apply Kd.R_drew)); exact HO_5.out⟩, ⟨l_ HB⟩⟩
        · rw [if_neg c5] at H
          have c5b0 : decide (x7_1 < (ji4)) = false := decide_eq_false c5
          clear c5
          (first | rw [c5b0] | (simp only [i64_w, i32_w]; rw [c5b0]) | skip)
          have H' := A_ H
          clear H
          go_wp2
          go_meet
          case rel => exact ⟨_, (decide (x6_1 > 0)), (by first | rfl | (simp; done) | (simp [*]; done)), H', ⟨by have := HK1.out; first | omega | exact Nat.le_refl _⟩, ⟨by (with_reducible repeat (first | apply Kd.R_alloc | apply Kd.R_drewN | apply Kd.R_drew)); exact HO_5.out⟩, ⟨l_ HB⟩⟩
      case rest =>
        clear HC3
        try clear c1
        try clear p2
        try clear c4
        try clear c5
        try clear c5b0
        try clear p2
        obtain ⟨kq, x18_2, rfl, HA, HJ2, HO_5, HB⟩ := hcut
        cases kq with
        | zero => exact absurd HA.out (by simp [cobwebref01_plus.j1])
        | succ kj2 =>
          have H := HA.out
          clear HA
          simp only [cobwebref01_plus.j1] at H
          by_cases c6 : x18_2 = true
          · subst c6
            have H1 : ((cobwebref01_digit.f l0 x7_1).bind fun t101 => ((cobwebref01_digit.f l1 x7_1).bind fun t102 => ((cobwebref01_base.f).bind fun t103 => (if t103 = 0 then (none) else (if x5_1.length < 17592186044416 then ((cobwebref01_base.f).bind fun t107 => (if t107 = 0 then (none) else (cobwebref01_plus.l0 kj2 l0 l1 (x5_1 ++ [Int.tmod (wrap64 ((wrap64 (x6_1 + t101)) + t102)) t103]) (wrap64 (Int.tdiv (wrap64 ((wrap64 (x6_1 + t101)) + t102)) t107)) (wrap64 (x7_1 + 1))))) else (none)))))) = some r := by rw [if_pos rfl] at H; exact H
            clear H
            have H := H1
            clear H1
            replace H := Option.bind_eq_some_iff.mp H
            obtain ⟨t101, A70, H⟩ := H
            replace H : ((cobwebref01_digit.f l1 x7_1).bind fun t102 => ((cobwebref01_base.f).bind fun t103 => (if t103 = 0 then (none) else (if x5_1.length < 17592186044416 then ((cobwebref01_base.f).bind fun t107 => (if t107 = 0 then (none) else (cobwebref01_plus.l0 kj2 l0 l1 (x5_1 ++ [Int.tmod (wrap64 ((wrap64 (x6_1 + t101)) + t102)) t103]) (wrap64 (Int.tdiv (wrap64 ((wrap64 (x6_1 + t101)) + t102)) t107)) (wrap64 (x7_1 + 1))))) else (none))))) = some r := H
            have A7 := A_ A70
            clear A70
            replace H := Option.bind_eq_some_iff.mp H
            obtain ⟨t102, A80, H⟩ := H
            replace H : ((cobwebref01_base.f).bind fun t103 => (if t103 = 0 then (none) else (if x5_1.length < 17592186044416 then ((cobwebref01_base.f).bind fun t107 => (if t107 = 0 then (none) else (cobwebref01_plus.l0 kj2 l0 l1 (x5_1 ++ [Int.tmod (wrap64 ((wrap64 (x6_1 + t101)) + t102)) t103]) (wrap64 (Int.tdiv (wrap64 ((wrap64 (x6_1 + t101)) + t102)) t107)) (wrap64 (x7_1 + 1))))) else (none)))) = some r := H
            have A8 := A_ A80
            clear A80
            replace H := Option.bind_eq_some_iff.mp H
            obtain ⟨t103, A90, H⟩ := H
            replace H : (if t103 = 0 then (none) else (if x5_1.length < 17592186044416 then ((cobwebref01_base.f).bind fun t107 => (if t107 = 0 then (none) else (cobwebref01_plus.l0 kj2 l0 l1 (x5_1 ++ [Int.tmod (wrap64 ((wrap64 (x6_1 + t101)) + t102)) t103]) (wrap64 (Int.tdiv (wrap64 ((wrap64 (x6_1 + t101)) + t102)) t107)) (wrap64 (x7_1 + 1))))) else (none))) = some r := H
            have A9 := A_ A90
            clear A90
            by_cases c10 : t103 = 0
            · rw [if_pos c10] at H
              exact absurd H (by simp)
            · rw [if_neg c10] at H
              have c10b0 : (t103 == 0) = false := beq_eq_false_iff_ne.mpr c10
              have c10b1 : (t103 != 0) = true := bne_iff_ne.mpr c10
              by_cases c11 : x5_1.length < 17592186044416
              · rw [if_pos c11] at H
                have LMc11 := A_ c11
                clear c11
                obtain ⟨y104, hy104⟩ : ∃ y_ : List Int, y_ = (x5_1 ++ [Int.tmod (wrap64 ((wrap64 (x6_1 + t101)) + t102)) t103]) := ⟨_, rfl⟩
                replace H : ((cobwebref01_base.f).bind fun t107 => (if t107 = 0 then (none) else (cobwebref01_plus.l0 kj2 l0 l1 y104 (wrap64 (Int.tdiv (wrap64 ((wrap64 (x6_1 + t101)) + t102)) t107)) (wrap64 (x7_1 + 1))))) = some r := by first | (rw [hy104]; with_reducible exact H) | (have H2_ := (Option.bind_some _ _).symm.trans H; rw [hy104]; with_reducible exact H2_) | (have H2_ := (Option.bind_some _ _).symm.trans H; with_reducible exact H2_) | with_reducible exact H | (rw [hy104]; exact H) | exact H
                have Ny104 := A_ hy104
                clear hy104
                replace H := Option.bind_eq_some_iff.mp H
                obtain ⟨t107, A120, H⟩ := H
                replace H : (if t107 = 0 then (none) else (cobwebref01_plus.l0 kj2 l0 l1 y104 (wrap64 (Int.tdiv (wrap64 ((wrap64 (x6_1 + t101)) + t102)) t107)) (wrap64 (x7_1 + 1)))) = some r := H
                have A12 := A_ A120
                clear A120
                by_cases c13 : t107 = 0
                · rw [if_pos c13] at H
                  exact absurd H (by simp)
                · rw [if_neg c13] at H
                  have c13b0 : (t107 == 0) = false := beq_eq_false_iff_ne.mpr c13
                  have c13b1 : (t107 != 0) = true := bne_iff_ne.mpr c13
                  have H' := A_ H
                  clear H
                  go_wp2_with (first | ((with_reducible refine gate_callee (f := 53) rfl ?_); refine goesLq_ 24 rfl Try.func53 #[.slice A0 l0.length c0, .int .i64 x7_1] ?_; (with_reducible refine (cobwebref01_digit.calls _ _ l0 x7_1 t101 _ ?side1 ?side2 A7.out).mono ?_); (case side1 => exact c_ (Kd.C_below HR0.out HB.out)); (case side2 => exact HC0.out); rintro e w' ⟨rfl, ⟨nd, rfl⟩⟩; refine ⟨_, rfl, ?_⟩) | ((with_reducible refine gate_callee (f := 53) rfl ?_); refine goesLq_ 28 rfl Try.func53 #[.slice A1 l1.length c1, .int .i64 x7_1] ?_; (with_reducible refine (cobwebref01_digit.calls _ _ l1 x7_1 t102 _ ?side1 ?side2 A8.out).mono ?_); (case side1 => exact Kd.C_below HR1.out (l_ HB)); (case side2 => exact HC1.out); rintro e w' ⟨rfl, ⟨nd, rfl⟩⟩; refine ⟨_, rfl, ?_⟩) | ((with_reducible refine gate_callee (f := 54) rfl ?_); refine goesLq_ 32 rfl Try.func54 #[] ?_; (with_reducible refine (cobwebref01_base.calls  t103 _ A9.out).mono ?_); rintro e w' ⟨rfl, ⟨nd, rfl⟩⟩; refine ⟨_, rfl, ?_⟩) | ((with_reducible refine gate_builtin (b := .append) (xs := #[.tmp 30, .tmp 34]) rfl ?_); at_builtin; refine Kd.R_append (Kd.int .i64) (w0 := w) w.heap.size rfl (.tmp 30) (.tmp 34) 53 3 (.int .i64 0) 8 rfl Try.underlying53 info3 rfl (by decide) (by omega) u5 x5_1 (Int.tmod (wrap64 ((wrap64 (x6_1 + t101)) + t102)) t103) [.int .i64 (Int.tmod (wrap64 ((wrap64 (x6_1 + t101)) + t102)) t103)] (fun _ => True) (fun _ => False) rfl rfl ?aP (fun _ hk => hk.elim) ?aF ?aO ?aB ?aS ?aL ?_; (case aP => exact rfl); (case aB => exact (l_ HB)); (case aF => exact (fun _ _ => trivial)); (case aO => exact (r_ HO_5.out)); (case aS => exact (below_size (l_ HB))); (case aL => have := LMc11.out; omega); intro v105 w14 ho hb hg hat; rw [← Ny104.out] at ho; replace HB := A_ (hb); have HO106 := A_ (ho); clear HO_5; clear ho hb hg hat) | ((with_reducible refine gate_callee (f := 54) rfl ?_); refine goesLq_ 37 rfl Try.func54 #[] ?_; (with_reducible refine (cobwebref01_base.calls  t107 _ A12.out).mono ?_); rintro e w' ⟨rfl, ⟨nd, rfl⟩⟩; refine ⟨_, rfl, ?_⟩))
                  go_roundg kj2
                  case measure => have := HK1.out; have := HJ2.out; omega
                  case rel => exact ⟨(y104), (wrap64 (Int.tdiv (wrap64 ((wrap64 (x6_1 + t101)) + t102)) t107)), (wrap64 (x7_1 + 1)), (by first | rfl | (simp; done) | (simp [*]; done)), (by first | rfl | (simp; done) | (simp [*]; done)), H', ⟨by have := HK1.out; have := HJ2.out; omega⟩, ⟨by (with_reducible repeat (first | apply Kd.R_alloc | apply Kd.R_drewN | apply Kd.R_drew)); exact HO106.out⟩, ⟨l_ HB⟩⟩
              · rw [if_neg c11] at H
                exact absurd H (by simp)
          · replace c6 := Bool.eq_false_iff.mpr c6
            subst c6
            have H1 : (some x5_1) = some r := by rw [if_neg (show ¬ (false = true) by decide)] at H; exact H
            clear H
            have H := H1
            clear H1
            obtain rfl := Option.some.inj H
            go_wp2
            go_ret
            exact ⟨_, by first | rfl | (simp [errW_none, errW_some] <;> rfl) | (simp [*, errW_none, errW_some] <;> rfl), by (with_reducible repeat (first | apply Kd.R_alloc | apply Kd.R_drewN | apply Kd.R_drew)); exact HO_5.out, l_ HB⟩

end Go.Proofs.Ytglkjeeiiflpjaa.F
