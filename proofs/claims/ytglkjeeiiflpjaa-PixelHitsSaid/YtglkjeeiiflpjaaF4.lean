-- PRINTED by print.py (a twelfth state) out of the translation. Not trusted: Lean checks it.
import Derived.Test.YtglkjeeiiflpjaaF0
import Derived.Test.YtglkjeeiiflpjaaB3
import Derived.Test.YtglkjeeiiflpjaaF12
import Derived.Test.YtglkjeeiiflpjaaF14
import Derived.Test.YtglkjeeiiflpjaaFS
import Derived.Test.YtglkjeeiiflpjaaF16
import Derived.Test.YtglkjeeiiflpjaaHAlive06
namespace Go.Proofs.Ytglkjeeiiflpjaa.F
open Go.RowKit Go.Proofs.YtglkjeeiiflpjaaW.PrintWords Go.Proofs.YtglkjeeiiflpjaaW.PrintLast Go.Proofs.YtglkjeeiiflpjaaW.PrintMore
attribute [local go_sem] max2_int min2_int max_two min_two max_three min_three max_four min_four   -- for this text's walks alone
set_option linter.unusedVariables false
set_option linter.unusedSimpArgs false

/-! ### cobweblaw06_PixelHits: function 4 -/
def cobweblaw06_PixelHits.j0 : Nat → Int → Bool → Bool → Int → Int → Int → Int → Int → Int → Option (Bool)
  | 0, _, _, _, _, _, _, _, _, _ => none
  | k + 1, x2, x7, x26, x102000, x102001, x102002, x102003, x103000, x103001 => if x26 = true then ((cobweblaw06_alive.f).bind fun t106 => (if t106 = true then (some (!x7)) else (some false))) else ((cobwebref03_Size.f k x2).bind fun t107 => ((cobweblaw06_alive.f).bind fun t109 => (if t109 = true then ((cobwebref06_Meets.f k x102000 x102001 x102002 x102003 (wrap64 ((wrap64 ((wrap64 (2 * t107)) * x103000)) - t107)) (wrap64 ((wrap64 ((wrap64 (2 * t107)) * x103001)) - t107)) (wrap64 ((wrap64 ((wrap64 ((wrap64 (2 * t107)) * x103000)) - t107)) + (wrap64 (2 * t107)))) (wrap64 ((wrap64 ((wrap64 ((wrap64 (2 * t107)) * x103001)) - t107)) + (wrap64 (2 * t107)))) 0).bind fun t110 => (some (x7 == t110))) else (some false))))
def cobweblaw06_PixelHits.f (k : Nat) (a0_0 : Int) (a0_1 : Int) (a0_2 : Int) (a0_3 : Int) (a1_0 : Int) (a1_1 : Int) (a2 : Int) : Option (Bool) := (pixel_Hits.f k a0_0 a0_1 a0_2 a0_3 a1_0 a1_1 a2).bind fun t103 => ((cobwebref03_Rung.f a2).bind fun t104 => (if a2 = t104 then ((cobwebref03_In.f k a1_0 a1_1 a2).bind fun t105 => (cobweblaw06_PixelHits.j0 k a2 t103 (!t105) a0_0 a0_1 a0_2 a0_3 a1_0 a1_1)) else (cobweblaw06_PixelHits.j0 k a2 t103 true a0_0 a0_1 a0_2 a0_3 a1_0 a1_1)))
theorem cobweblaw06_PixelHits.mono_l : ∀ k, (∀ y0 y1 y2 y3 y4 y5 y6 y7 y8, LeO (cobweblaw06_PixelHits.j0 k y0 y1 y2 y3 y4 y5 y6 y7 y8) (cobweblaw06_PixelHits.j0 (k + 1) y0 y1 y2 y3 y4 y5 y6 y7 y8))
  | 0 => fun _ _ _ _ _ _ _ _ _ r h => by simp [cobweblaw06_PixelHits.j0] at h
  | k + 1 => by
    have ih0 := cobweblaw06_PixelHits.mono_l k
    · intro y0 y1 y2 y3 y4 y5 y6 y7 y8
      unfold cobweblaw06_PixelHits.j0
      repeat' first
      | (with_reducible exact ih0 _ _ _ _ _ _ _ _ _)
      | (with_reducible exact cobwebref03_In.mono _ _ _ _)
      | (with_reducible exact cobwebref03_Size.mono _ _)
      | (with_reducible exact cobwebref06_Meets.mono _ _ _ _ _ _ _ _ _ _)
      | (with_reducible exact pixel_Hits.mono _ _ _ _ _ _ _ _)
      | (with_reducible exact LeO.refl _)
      | (with_reducible exact LeO.none _)
      | (with_reducible refine LeO.ite ?_ ?_)
      | (with_reducible refine LeO.bind ?_ (fun _ => ?_))
      | exact ih0 _ _ _ _ _ _ _ _ _
      | exact cobwebref03_In.mono _ _ _ _
      | exact cobwebref03_Size.mono _ _
      | exact cobwebref06_Meets.mono _ _ _ _ _ _ _ _ _ _
      | exact pixel_Hits.mono _ _ _ _ _ _ _ _
      | exact LeO.none _
      | refine LeO.ite ?_ ?_
      | refine LeO.bind ?_ (fun _ => ?_)
theorem cobweblaw06_PixelHits.mono : ∀ a0 a1 a2 a3 a4 a5 a6 k, LeO (cobweblaw06_PixelHits.f k a0 a1 a2 a3 a4 a5 a6) (cobweblaw06_PixelHits.f (k + 1) a0 a1 a2 a3 a4 a5 a6) := by
  intro a0 a1 a2 a3 a4 a5 a6 k
  have ih0 := cobweblaw06_PixelHits.mono_l k
  unfold cobweblaw06_PixelHits.f
  repeat' first
      | (with_reducible exact ih0 _ _ _ _ _ _ _ _ _)
      | (with_reducible exact cobwebref03_In.mono _ _ _ _)
      | (with_reducible exact cobwebref03_Size.mono _ _)
      | (with_reducible exact cobwebref06_Meets.mono _ _ _ _ _ _ _ _ _ _)
      | (with_reducible exact pixel_Hits.mono _ _ _ _ _ _ _ _)
      | (with_reducible exact LeO.refl _)
      | (with_reducible exact LeO.none _)
      | (with_reducible refine LeO.ite ?_ ?_)
      | (with_reducible refine LeO.bind ?_ (fun _ => ?_))
      | exact ih0 _ _ _ _ _ _ _ _ _
      | exact cobwebref03_In.mono _ _ _ _
      | exact cobwebref03_Size.mono _ _
      | exact cobwebref06_Meets.mono _ _ _ _ _ _ _ _ _ _
      | exact pixel_Hits.mono _ _ _ _ _ _ _ _
      | exact LeO.none _
      | refine LeO.ite ?_ ?_
      | refine LeO.bind ?_ (fun _ => ?_)
set_option maxHeartbeats 8000000 in
set_option maxRecDepth 100000 in
theorem cobweblaw06_PixelHits.calls (k : Nat) (a0_0 : Int) (a0_1 : Int) (a0_2 : Int) (a0_3 : Int) (a1_0 : Int) (a1_1 : Int) (a2 : Int) (r : Bool) (w : World) (h : cobweblaw06_PixelHits.f k a0_0 a0_1 a0_2 a0_3 a1_0 a1_1 a2 = some r) :
    Calls Try.prog 4 #[.agg #[.int .i64 a0_0, .int .i64 a0_1, .int .i64 a0_2, .int .i64 a0_3], .agg #[.int .i64 a1_0, .int .i64 a1_1], .int .i64 a2] w fun e w' => e = .returned (.bool r) ∧ Below w.heap.size w w' := by
  have hu24 := Try.underlying24
  have hu30 := Try.underlying30
  have hu23 := Try.underlying23
  have HB := A_ (Below.refl w.heap.size w)
  have H : ((pixel_Hits.f k a0_0 a0_1 a0_2 a0_3 a1_0 a1_1 a2).bind fun t103 => ((cobwebref03_Rung.f a2).bind fun t104 => (if a2 = t104 then ((cobwebref03_In.f k a1_0 a1_1 a2).bind fun t105 => (cobweblaw06_PixelHits.j0 k a2 t103 (!t105) a0_0 a0_1 a0_2 a0_3 a1_0 a1_1)) else (cobweblaw06_PixelHits.j0 k a2 t103 true a0_0 a0_1 a0_2 a0_3 a1_0 a1_1)))) = some r := h
  clear h
  replace H := Option.bind_eq_some_iff.mp H
  obtain ⟨t103, A40, H⟩ := H
  replace H : ((cobwebref03_Rung.f a2).bind fun t104 => (if a2 = t104 then ((cobwebref03_In.f k a1_0 a1_1 a2).bind fun t105 => (cobweblaw06_PixelHits.j0 k a2 t103 (!t105) a0_0 a0_1 a0_2 a0_3 a1_0 a1_1)) else (cobweblaw06_PixelHits.j0 k a2 t103 true a0_0 a0_1 a0_2 a0_3 a1_0 a1_1))) = some r := H
  have A4 := A_ A40
  clear A40
  have HC5 := A_ H
  clear H
  go_enter Try.func4, Try.ntmps4
  go_upto_region 2 with (first | ((with_reducible refine gate_dst (N := 3) rfl ?_); refine boxeq_ 3 #[.int .i64 a0_0, .int .i64 a0_1, .int .i64 a0_2, .int .i64 a0_3] 24 ?_; intro gb101 hg w6 hbox hb; have BK101 := A_ (hbox); have GW101 := ge_ HB hg; replace HB := st_ HB hb; have GE101 := GW101; clear hb hbox hg) | ((with_reducible refine gate_dst (N := 4) rfl ?_); refine boxeq_ 4 #[.int .i64 a1_0, .int .i64 a1_1] 30 ?_; intro gb102 hg w7 hbox hb; have BK102 := A_ (hbox); have GW102 := ge_ HB hg; replace HB := st_ HB hb; have GE102 := GW102; have NB101_102 := ne_ BK101 hg; replace BK101 := bb_ BK101 hb; have NB102_101 := A_ NB101_102.out.symm; clear hb hbox hg; have hnb8 := NB101_102.out; have hnc8 := NB102_101.out; have hcz9_0 : w7.cell? ⟨gb101, 0, none⟩ = some (.int .i64 a0_0) := (blk_cell BK101.out 0).trans rfl; have hcz9_1 : w7.cell? ⟨gb101, 1, none⟩ = some (.int .i64 a0_1) := (blk_cell BK101.out 1).trans rfl; have hcz9_2 : w7.cell? ⟨gb101, 2, none⟩ = some (.int .i64 a0_2) := (blk_cell BK101.out 2).trans rfl; have hcz9_3 : w7.cell? ⟨gb101, 3, none⟩ = some (.int .i64 a0_3) := (blk_cell BK101.out 3).trans rfl; have hfz9_0 := blk_frozen BK101.out 0; have hfz9_1 := blk_frozen BK101.out 1; have hfz9_2 := blk_frozen BK101.out 2; have hfz9_3 := blk_frozen BK101.out 3; have hcz10_0 : w7.cell? ⟨gb102, 0, none⟩ = some (.int .i64 a1_0) := (blk_cell BK102.out 0).trans rfl; have hcz10_1 : w7.cell? ⟨gb102, 1, none⟩ = some (.int .i64 a1_1) := (blk_cell BK102.out 1).trans rfl; have hfz10_0 := blk_frozen BK102.out 0; have hfz10_1 := blk_frozen BK102.out 1) | ((with_reducible refine gate_callee (f := 14) rfl ?_); refine goesLq_ 16 rfl Try.func14 #[.agg #[.int .i64 a0_0, .int .i64 a0_1], .agg #[.int .i64 a0_2, .int .i64 a0_3], .agg #[.int .i64 a1_0, .int .i64 a1_1], .int .i64 a2] ?_; (with_reducible refine (pixel_Hits.calls k a0_0 a0_1 a0_2 a0_3 a1_0 a1_1 a2 t103 _ A4.out).mono ?_); rintro e w11 ⟨rfl, hb⟩; refine ⟨_, rfl, ?_⟩; replace BK101 := bb_ BK101 hb; replace BK102 := bb_ BK102 hb; replace HB := st_ HB hb; (try clear hb); (try clear hb2); (try clear hk); (try clear hi)))
  (try simp only [Act.put, List.setIfInBounds_toArray, List.set_cons_zero, List.set_cons_succ])
  go_cut [26] (fun v26 wc => ∃ (kq : Nat) (x26_4 : Bool), v26 = .bool x26_4 ∧ Aside0 (cobweblaw06_PixelHits.j0 kq a2 t103 x26_4 a0_0 a0_1 a0_2 a0_3 a1_0 a1_1 = some r) ∧ Aside0 (kq ≤ k) ∧ Aside0 (wc.heap[gb101]? = some (.cells #[.int .i64 a0_0, .int .i64 a0_1, .int .i64 a0_2, .int .i64 a0_3] 24 (0, 0))) ∧ Aside0 (wc.heap[gb102]? = some (.cells #[.int .i64 a1_0, .int .i64 a1_1] 30 (0, 0))) ∧ Aside0 (Below w.heap.size w wc))
  case first =>
    have H := HC5.out
    clear HC5
    replace H := Option.bind_eq_some_iff.mp H
    obtain ⟨t104, A120, H⟩ := H
    replace H : (if a2 = t104 then ((cobwebref03_In.f k a1_0 a1_1 a2).bind fun t105 => (cobweblaw06_PixelHits.j0 k a2 t103 (!t105) a0_0 a0_1 a0_2 a0_3 a1_0 a1_1)) else (cobweblaw06_PixelHits.j0 k a2 t103 true a0_0 a0_1 a0_2 a0_3 a1_0 a1_1)) = some r := H
    have A12 := A_ A120
    clear A120
    by_cases c13 : a2 = t104
    · rw [if_pos c13] at H
      have c13b0 : (a2 == t104) = true := beq_iff_eq.mpr c13
      have c13b1 : (a2 != t104) = false := bne_eq_false_iff_eq.mpr c13
      clear c13
      (first | rw [c13b0] | (simp only [i64_w, i32_w]; rw [c13b0]) | skip)
      replace H := Option.bind_eq_some_iff.mp H
      obtain ⟨t105, A140, H⟩ := H
      replace H : (cobweblaw06_PixelHits.j0 k a2 t103 (!t105) a0_0 a0_1 a0_2 a0_3 a1_0 a1_1) = some r := H
      have A14 := A_ A140
      clear A140
      have H' := A_ H
      clear H
      go_wp2_with (first | ((with_reducible refine gate_callee (f := 15) rfl ?_); refine goesLq_ 19 rfl Try.func15 #[.int .i64 a2] ?_; (with_reducible refine (cobwebref03_Rung.calls a2 t104 _ A12.out).mono ?_); rintro e w' ⟨rfl, ⟨nd, rfl⟩⟩; refine ⟨_, rfl, ?_⟩; have hnb15 := NB102_101.out; have hnc15 := NB101_102.out; have hcz16_0 : w11.cell? ⟨gb102, 0, none⟩ = some (.int .i64 a1_0) := (blk_cell BK102.out 0).trans rfl; have hcz16_1 : w11.cell? ⟨gb102, 1, none⟩ = some (.int .i64 a1_1) := (blk_cell BK102.out 1).trans rfl; have hfz16_0 := blk_frozen BK102.out 0; have hfz16_1 := blk_frozen BK102.out 1) | (go_at_call 16; (with_reducible refine (cobwebref03_In.calls k a1_0 a1_1 a2 t105 _ A14.out).mono ?_); rintro e w17 ⟨rfl, hb⟩; replace BK101 := bb_ BK101 hb; replace BK102 := bb_ BK102 hb; replace HB := st_ HB hb; (try clear hb); (try clear hb2); (try clear hk); (try clear hi)))
      go_meet
      case rel => exact ⟨_, (!t105), (by first | rfl | (simp; done) | (simp [*]; done)), H', ⟨by first | omega | exact Nat.le_refl _⟩, ⟨b_ BK101⟩, ⟨b_ BK102⟩, ⟨l_ HB⟩⟩
    · rw [if_neg c13] at H
      have c13b0 : (a2 == t104) = false := beq_eq_false_iff_ne.mpr c13
      have c13b1 : (a2 != t104) = true := bne_iff_ne.mpr c13
      (first | rw [c13b0] | (simp only [i64_w, i32_w]; rw [c13b0]) | skip)
      have H' := A_ H
      clear H
      go_wp2_with (first | ((with_reducible refine gate_callee (f := 15) rfl ?_); refine goesLq_ 19 rfl Try.func15 #[.int .i64 a2] ?_; (with_reducible refine (cobwebref03_Rung.calls a2 t104 _ A12.out).mono ?_); rintro e w' ⟨rfl, ⟨nd, rfl⟩⟩; refine ⟨_, rfl, ?_⟩))
      go_meet
      case rel => exact ⟨_, (true), (by first | rfl | (simp; done) | (simp [*]; done)), H', ⟨by first | omega | exact Nat.le_refl _⟩, ⟨b_ BK101⟩, ⟨b_ BK102⟩, ⟨l_ HB⟩⟩
  case rest =>
    clear HC5
    try clear c1
    try clear p2
    try clear c4
    try clear c8
    try clear c13
    try clear c13b0
    try clear c13b1
    try clear c14
    try clear c15
    try clear hcz10_0
    try clear hcz10_1
    try clear hcz16_0
    try clear hcz16_1
    try clear hcz9_0
    try clear hcz9_1
    try clear hcz9_2
    try clear hcz9_3
    try clear hfz10_0
    try clear hfz10_1
    try clear hfz16_0
    try clear hfz16_1
    try clear hfz9_0
    try clear hfz9_1
    try clear hfz9_2
    try clear hfz9_3
    obtain ⟨kq, x26_4, rfl, HA, HJ4, BK101, BK102, HB⟩ := hcut
    cases kq with
    | zero => exact absurd HA.out (by simp [cobweblaw06_PixelHits.j0])
    | succ kj4 =>
      have H := HA.out
      clear HA
      simp only [cobweblaw06_PixelHits.j0] at H
      by_cases c18 : x26_4 = true
      · subst c18
        have H1 : ((cobweblaw06_alive.f).bind fun t106 => (if t106 = true then (some (!t103)) else (some false))) = some r := by rw [if_pos rfl] at H; exact H
        clear H
        have H := H1
        clear H1
        replace H := Option.bind_eq_some_iff.mp H
        obtain ⟨t106, A190, H⟩ := H
        replace H : (if t106 = true then (some (!t103)) else (some false)) = some r := H
        have A19 := A_ A190
        clear A190
        by_cases c20 : t106 = true
        · subst c20
          have H1 : (some (!t103)) = some r := by rw [if_pos rfl] at H; exact H
          clear H
          have H := H1
          clear H1
          obtain rfl := Option.some.inj H
          go_wp2_with (first | ((with_reducible refine gate_callee (f := 13) rfl ?_); refine goesLq_ 27 rfl Try.func13 #[] ?_; (with_reducible refine (cobweblaw06_alive.calls  true _ A19.out).mono ?_); rintro e w21 ⟨rfl, hb⟩; refine ⟨_, rfl, ?_⟩; replace BK101 := bb_ BK101 hb; replace BK102 := bb_ BK102 hb; replace HB := st_ HB hb; (try clear hb); (try clear hb2); (try clear hk); (try clear hi)))
          go_ret
          exact ⟨by first | rfl | (simp [errW_none, errW_some] <;> rfl) | (simp [*, errW_none, errW_some] <;> rfl), l_ HB⟩
        · replace c20 := Bool.eq_false_iff.mpr c20
          subst c20
          have H1 : (some false) = some r := by rw [if_neg (show ¬ (false = true) by decide)] at H; exact H
          clear H
          have H := H1
          clear H1
          obtain rfl := Option.some.inj H
          go_wp2_with (first | ((with_reducible refine gate_callee (f := 13) rfl ?_); refine goesLq_ 27 rfl Try.func13 #[] ?_; (with_reducible refine (cobweblaw06_alive.calls  false _ A19.out).mono ?_); rintro e w22 ⟨rfl, hb⟩; refine ⟨_, rfl, ?_⟩; replace BK101 := bb_ BK101 hb; replace BK102 := bb_ BK102 hb; replace HB := st_ HB hb; (try clear hb); (try clear hb2); (try clear hk); (try clear hi)))
          go_ret
          exact ⟨by first | rfl | (simp [errW_none, errW_some] <;> rfl) | (simp [*, errW_none, errW_some] <;> rfl), l_ HB⟩
      · replace c18 := Bool.eq_false_iff.mpr c18
        subst c18
        have H1 : ((cobwebref03_Size.f kj4 a2).bind fun t107 => ((cobweblaw06_alive.f).bind fun t109 => (if t109 = true then ((cobwebref06_Meets.f kj4 a0_0 a0_1 a0_2 a0_3 (wrap64 ((wrap64 ((wrap64 (2 * t107)) * a1_0)) - t107)) (wrap64 ((wrap64 ((wrap64 (2 * t107)) * a1_1)) - t107)) (wrap64 ((wrap64 ((wrap64 ((wrap64 (2 * t107)) * a1_0)) - t107)) + (wrap64 (2 * t107)))) (wrap64 ((wrap64 ((wrap64 ((wrap64 (2 * t107)) * a1_1)) - t107)) + (wrap64 (2 * t107)))) 0).bind fun t110 => (some (t103 == t110))) else (some false)))) = some r := by rw [if_neg (show ¬ (false = true) by decide)] at H; exact H
        clear H
        have H := H1
        clear H1
        replace H := Option.bind_eq_some_iff.mp H
        obtain ⟨t107, A230, H⟩ := H
        replace H : ((cobweblaw06_alive.f).bind fun t109 => (if t109 = true then ((cobwebref06_Meets.f kj4 a0_0 a0_1 a0_2 a0_3 (wrap64 ((wrap64 ((wrap64 (2 * t107)) * a1_0)) - t107)) (wrap64 ((wrap64 ((wrap64 (2 * t107)) * a1_1)) - t107)) (wrap64 ((wrap64 ((wrap64 ((wrap64 (2 * t107)) * a1_0)) - t107)) + (wrap64 (2 * t107)))) (wrap64 ((wrap64 ((wrap64 ((wrap64 (2 * t107)) * a1_1)) - t107)) + (wrap64 (2 * t107)))) 0).bind fun t110 => (some (t103 == t110))) else (some false))) = some r := H
        have A23 := A_ A230
        clear A230
        replace H := Option.bind_eq_some_iff.mp H
        obtain ⟨t109, A240, H⟩ := H
        replace H : (if t109 = true then ((cobwebref06_Meets.f kj4 a0_0 a0_1 a0_2 a0_3 (wrap64 ((wrap64 ((wrap64 (2 * t107)) * a1_0)) - t107)) (wrap64 ((wrap64 ((wrap64 (2 * t107)) * a1_1)) - t107)) (wrap64 ((wrap64 ((wrap64 ((wrap64 (2 * t107)) * a1_0)) - t107)) + (wrap64 (2 * t107)))) (wrap64 ((wrap64 ((wrap64 ((wrap64 (2 * t107)) * a1_1)) - t107)) + (wrap64 (2 * t107)))) 0).bind fun t110 => (some (t103 == t110))) else (some false)) = some r := H
        have A24 := A_ A240
        clear A240
        by_cases c25 : t109 = true
        · subst c25
          have H1 : ((cobwebref06_Meets.f kj4 a0_0 a0_1 a0_2 a0_3 (wrap64 ((wrap64 ((wrap64 (2 * t107)) * a1_0)) - t107)) (wrap64 ((wrap64 ((wrap64 (2 * t107)) * a1_1)) - t107)) (wrap64 ((wrap64 ((wrap64 ((wrap64 (2 * t107)) * a1_0)) - t107)) + (wrap64 (2 * t107)))) (wrap64 ((wrap64 ((wrap64 ((wrap64 (2 * t107)) * a1_1)) - t107)) + (wrap64 (2 * t107)))) 0).bind fun t110 => (some (t103 == t110))) = some r := by rw [if_pos rfl] at H; exact H
          clear H
          have H := H1
          clear H1
          replace H := Option.bind_eq_some_iff.mp H
          obtain ⟨t110, A260, H⟩ := H
          replace H : (some (t103 == t110)) = some r := H
          have A26 := A_ A260
          clear A260
          obtain rfl := Option.some.inj H
          go_wp2_with (first | ((with_reducible refine gate_callee (f := 17) rfl ?_); refine goesLq_ 33 rfl Try.func17 #[.int .i64 a2] ?_; (with_reducible refine (cobwebref03_Size.calls kj4 a2 t107 _ A23.out).mono ?_); rintro e w' ⟨rfl, ⟨nd, rfl⟩⟩; refine ⟨_, rfl, ?_⟩; (try (rw [drewN_self wc]; generalize hq_ : World.drewN wc _ = wc; have n0_ : Aside0 (wc.heap[gb101]? = some (.cells #[.int .i64 a0_0, .int .i64 a0_1, .int .i64 a0_2, .int .i64 a0_3] 24 (0, 0))) := ⟨by rw [← hq_]; exact (b_ BK101)⟩; have n1_ : Aside0 (wc.heap[gb102]? = some (.cells #[.int .i64 a1_0, .int .i64 a1_1] 30 (0, 0))) := ⟨by rw [← hq_]; exact (b_ BK102)⟩; have n2_ : Aside0 (Below w.heap.size w wc) := ⟨by rw [← hq_]; exact (l_ HB)⟩; clear BK101 BK102 HB hq_; have BK101 := n0_; have BK102 := n1_; have HB := n2_; clear n0_ n1_ n2_)); have hnb27 := NB102_101.out; have hnc27 := NB101_102.out; have hcz28_0 : wc.cell? ⟨gb102, 0, none⟩ = some (.int .i64 a1_0) := (blk_cell BK102.out 0).trans rfl; have hcz28_1 : wc.cell? ⟨gb102, 1, none⟩ = some (.int .i64 a1_1) := (blk_cell BK102.out 1).trans rfl; have hfz28_0 := blk_frozen BK102.out 0; have hfz28_1 := blk_frozen BK102.out 1) | ((with_reducible refine gate_dst (N := 9) rfl ?_); refine boxeq_ 9 #[.int .i64 0, .int .i64 0] 23 ?_; intro gb108 hg w29 hbox hb; have BK108 := A_ (hbox); have GW108 := ge_ HB hg; replace HB := st_ HB hb; have GE108 := GW108; have NB101_108 := ne_ BK101 hg; replace BK101 := bb_ BK101 hb; have NB108_101 := A_ NB101_108.out.symm; have NB102_108 := ne_ BK102 hg; replace BK102 := bb_ BK102 hb; have NB108_102 := A_ NB102_108.out.symm; clear hb hbox hg; have hnb30 := NB108_101.out; have hnc30 := NB101_108.out; have hnb31 := NB108_102.out; have hnc31 := NB102_108.out; have hcz32_0 : w29.cell? ⟨gb108, 0, none⟩ = some (.int .i64 0) := (blk_cell BK108.out 0).trans rfl; have hcz32_1 : w29.cell? ⟨gb108, 1, none⟩ = some (.int .i64 0) := (blk_cell BK108.out 1).trans rfl; have hfz32_0 := blk_frozen BK108.out 0; have hfz32_1 := blk_frozen BK108.out 1) | ((with_reducible refine gate_callee (f := 13) rfl ?_); refine goesLq_ 49 rfl Try.func13 #[] ?_; (with_reducible refine (cobweblaw06_alive.calls  true _ A24.out).mono ?_); rintro e w33 ⟨rfl, hb⟩; refine ⟨_, rfl, ?_⟩; replace BK101 := A_ (blk_below (g := gb101) (o := .cells #[.int .i64 a0_0, .int .i64 a0_1, .int .i64 a0_2, .int .i64 a0_3] 24 (0, 0)) (by (with_reducible repeat (first | refine blk_drewN ?_ _ | refine blk_drew ?_ | refine blk_alloc ?_ _)); refine blk_far ?_ NB101_108.out _; (with_reducible repeat (first | refine blk_drewN ?_ _ | refine blk_drew ?_ | refine blk_alloc ?_ _)); refine blk_far ?_ NB101_108.out _; (with_reducible repeat (first | refine blk_drewN ?_ _ | refine blk_drew ?_ | refine blk_alloc ?_ _)); exact BK101.out) hb); replace BK102 := A_ (blk_below (g := gb102) (o := .cells #[.int .i64 a1_0, .int .i64 a1_1] 30 (0, 0)) (by (with_reducible repeat (first | refine blk_drewN ?_ _ | refine blk_drew ?_ | refine blk_alloc ?_ _)); refine blk_far ?_ NB102_108.out _; (with_reducible repeat (first | refine blk_drewN ?_ _ | refine blk_drew ?_ | refine blk_alloc ?_ _)); refine blk_far ?_ NB102_108.out _; (with_reducible repeat (first | refine blk_drewN ?_ _ | refine blk_drew ?_ | refine blk_alloc ?_ _)); exact BK102.out) hb); replace BK108 := A_ (blk_below (g := gb108) (o := .cells #[.int .i64 (wrap64 ((wrap64 ((wrap64 (2 * t107)) * a1_0)) - t107)), .int .i64 (wrap64 ((wrap64 ((wrap64 (2 * t107)) * a1_1)) - t107))] 23 (0, 0)) (by (with_reducible repeat (first | refine blk_drewN ?_ _ | refine blk_drew ?_ | refine blk_alloc ?_ _)); refine blk_put (cs := #[.int .i64 (wrap64 ((wrap64 ((wrap64 (2 * t107)) * a1_0)) - t107)), .int .i64 0]) ?_ 1 _ rfl; (with_reducible repeat (first | refine blk_drewN ?_ _ | refine blk_drew ?_ | refine blk_alloc ?_ _)); refine blk_put (cs := #[.int .i64 0, .int .i64 0]) ?_ 0 _ rfl; (with_reducible repeat (first | refine blk_drewN ?_ _ | refine blk_drew ?_ | refine blk_alloc ?_ _)); exact BK108.out) hb); replace HB := st_ HB hb; (try clear hb); (try clear hb2); (try clear hk); (try clear hi); have hcz34_0 : w33.cell? ⟨gb101, 0, none⟩ = some (.int .i64 a0_0) := (blk_cell BK101.out 0).trans rfl; have hcz34_1 : w33.cell? ⟨gb101, 1, none⟩ = some (.int .i64 a0_1) := (blk_cell BK101.out 1).trans rfl; have hcz34_2 : w33.cell? ⟨gb101, 2, none⟩ = some (.int .i64 a0_2) := (blk_cell BK101.out 2).trans rfl; have hcz34_3 : w33.cell? ⟨gb101, 3, none⟩ = some (.int .i64 a0_3) := (blk_cell BK101.out 3).trans rfl; have hfz34_0 := blk_frozen BK101.out 0; have hfz34_1 := blk_frozen BK101.out 1; have hfz34_2 := blk_frozen BK101.out 2; have hfz34_3 := blk_frozen BK101.out 3; have hcz35_0 : w33.cell? ⟨gb108, 0, none⟩ = some (.int .i64 (wrap64 ((wrap64 ((wrap64 (2 * t107)) * a1_0)) - t107))) := (blk_cell BK108.out 0).trans rfl; have hcz35_1 : w33.cell? ⟨gb108, 1, none⟩ = some (.int .i64 (wrap64 ((wrap64 ((wrap64 (2 * t107)) * a1_1)) - t107))) := (blk_cell BK108.out 1).trans rfl; have hfz35_0 := blk_frozen BK108.out 0; have hfz35_1 := blk_frozen BK108.out 1) | (go_at_call 12; (with_reducible refine (cobwebref06_Meets.calls kj4 a0_0 a0_1 a0_2 a0_3 (wrap64 ((wrap64 ((wrap64 (2 * t107)) * a1_0)) - t107)) (wrap64 ((wrap64 ((wrap64 (2 * t107)) * a1_1)) - t107)) (wrap64 ((wrap64 ((wrap64 ((wrap64 (2 * t107)) * a1_0)) - t107)) + (wrap64 (2 * t107)))) (wrap64 ((wrap64 ((wrap64 ((wrap64 (2 * t107)) * a1_1)) - t107)) + (wrap64 (2 * t107)))) 0 t110 _ A26.out).mono ?_); rintro e w36 ⟨rfl, hb⟩; replace BK101 := bb_ BK101 hb; replace BK102 := bb_ BK102 hb; replace BK108 := A_ (blk_below (g := gb108) (o := .cells #[.int .i64 (wrap64 ((wrap64 ((wrap64 (2 * t107)) * a1_0)) - t107)), .int .i64 (wrap64 ((wrap64 ((wrap64 (2 * t107)) * a1_1)) - t107))] 23 (0, 0)) (b_ BK108) hb); replace HB := st_ HB hb; (try clear hb); (try clear hb2); (try clear hk); (try clear hi)))
          go_ret
          exact ⟨by first | rfl | (simp [errW_none, errW_some] <;> rfl) | (simp [*, errW_none, errW_some] <;> rfl), l_ HB⟩
        · replace c25 := Bool.eq_false_iff.mpr c25
          subst c25
          have H1 : (some false) = some r := by rw [if_neg (show ¬ (false = true) by decide)] at H; exact H
          clear H
          have H := H1
          clear H1
          obtain rfl := Option.some.inj H
          go_wp2_with (first | ((with_reducible refine gate_callee (f := 17) rfl ?_); refine goesLq_ 33 rfl Try.func17 #[.int .i64 a2] ?_; (with_reducible refine (cobwebref03_Size.calls kj4 a2 t107 _ A23.out).mono ?_); rintro e w' ⟨rfl, ⟨nd, rfl⟩⟩; refine ⟨_, rfl, ?_⟩; (try (rw [drewN_self wc]; generalize hq_ : World.drewN wc _ = wc; have n0_ : Aside0 (wc.heap[gb101]? = some (.cells #[.int .i64 a0_0, .int .i64 a0_1, .int .i64 a0_2, .int .i64 a0_3] 24 (0, 0))) := ⟨by rw [← hq_]; exact (b_ BK101)⟩; have n1_ : Aside0 (wc.heap[gb102]? = some (.cells #[.int .i64 a1_0, .int .i64 a1_1] 30 (0, 0))) := ⟨by rw [← hq_]; exact (b_ BK102)⟩; have n2_ : Aside0 (Below w.heap.size w wc) := ⟨by rw [← hq_]; exact (l_ HB)⟩; clear BK101 BK102 HB hq_; have BK101 := n0_; have BK102 := n1_; have HB := n2_; clear n0_ n1_ n2_)); have hnb37 := NB102_101.out; have hnc37 := NB101_102.out; have hcz38_0 : wc.cell? ⟨gb102, 0, none⟩ = some (.int .i64 a1_0) := (blk_cell BK102.out 0).trans rfl; have hcz38_1 : wc.cell? ⟨gb102, 1, none⟩ = some (.int .i64 a1_1) := (blk_cell BK102.out 1).trans rfl; have hfz38_0 := blk_frozen BK102.out 0; have hfz38_1 := blk_frozen BK102.out 1) | ((with_reducible refine gate_dst (N := 9) rfl ?_); refine boxeq_ 9 #[.int .i64 0, .int .i64 0] 23 ?_; intro gb108 hg w39 hbox hb; have BK108 := A_ (hbox); have GW108 := ge_ HB hg; replace HB := st_ HB hb; have GE108 := GW108; have NB101_108 := ne_ BK101 hg; replace BK101 := bb_ BK101 hb; have NB108_101 := A_ NB101_108.out.symm; have NB102_108 := ne_ BK102 hg; replace BK102 := bb_ BK102 hb; have NB108_102 := A_ NB102_108.out.symm; clear hb hbox hg; have hnb40 := NB108_101.out; have hnc40 := NB101_108.out; have hnb41 := NB108_102.out; have hnc41 := NB102_108.out; have hcz42_0 : w39.cell? ⟨gb108, 0, none⟩ = some (.int .i64 0) := (blk_cell BK108.out 0).trans rfl; have hcz42_1 : w39.cell? ⟨gb108, 1, none⟩ = some (.int .i64 0) := (blk_cell BK108.out 1).trans rfl; have hfz42_0 := blk_frozen BK108.out 0; have hfz42_1 := blk_frozen BK108.out 1) | ((with_reducible refine gate_callee (f := 13) rfl ?_); refine goesLq_ 49 rfl Try.func13 #[] ?_; (with_reducible refine (cobweblaw06_alive.calls  false _ A24.out).mono ?_); rintro e w43 ⟨rfl, hb⟩; refine ⟨_, rfl, ?_⟩; replace BK101 := A_ (blk_below (g := gb101) (o := .cells #[.int .i64 a0_0, .int .i64 a0_1, .int .i64 a0_2, .int .i64 a0_3] 24 (0, 0)) (by (with_reducible repeat (first | refine blk_drewN ?_ _ | refine blk_drew ?_ | refine blk_alloc ?_ _)); refine blk_far ?_ NB101_108.out _; (with_reducible repeat (first | refine blk_drewN ?_ _ | refine blk_drew ?_ | refine blk_alloc ?_ _)); refine blk_far ?_ NB101_108.out _; (with_reducible repeat (first | refine blk_drewN ?_ _ | refine blk_drew ?_ | refine blk_alloc ?_ _)); exact BK101.out) hb); replace BK102 := A_ (blk_below (g := gb102) (o := .cells #[.int .i64 a1_0, .int .i64 a1_1] 30 (0, 0)) (by (with_reducible repeat (first | refine blk_drewN ?_ _ | refine blk_drew ?_ | refine blk_alloc ?_ _)); refine blk_far ?_ NB102_108.out _; (with_reducible repeat (first | refine blk_drewN ?_ _ | refine blk_drew ?_ | refine blk_alloc ?_ _)); refine blk_far ?_ NB102_108.out _; (with_reducible repeat (first | refine blk_drewN ?_ _ | refine blk_drew ?_ | refine blk_alloc ?_ _)); exact BK102.out) hb); replace BK108 := A_ (blk_below (g := gb108) (o := .cells #[.int .i64 (wrap64 ((wrap64 ((wrap64 (2 * t107)) * a1_0)) - t107)), .int .i64 (wrap64 ((wrap64 ((wrap64 (2 * t107)) * a1_1)) - t107))] 23 (0, 0)) (by (with_reducible repeat (first | refine blk_drewN ?_ _ | refine blk_drew ?_ | refine blk_alloc ?_ _)); refine blk_put (cs := #[.int .i64 (wrap64 ((wrap64 ((wrap64 (2 * t107)) * a1_0)) - t107)), .int .i64 0]) ?_ 1 _ rfl; (with_reducible repeat (first | refine blk_drewN ?_ _ | refine blk_drew ?_ | refine blk_alloc ?_ _)); refine blk_put (cs := #[.int .i64 0, .int .i64 0]) ?_ 0 _ rfl; (with_reducible repeat (first | refine blk_drewN ?_ _ | refine blk_drew ?_ | refine blk_alloc ?_ _)); exact BK108.out) hb); replace HB := st_ HB hb; (try clear hb); (try clear hb2); (try clear hk); (try clear hi)))
          go_ret
          exact ⟨by first | rfl | (simp [errW_none, errW_some] <;> rfl) | (simp [*, errW_none, errW_some] <;> rfl), l_ HB⟩

end Go.Proofs.Ytglkjeeiiflpjaa.F
