-- PRINTED by print.py (a twelfth state) out of the translation. Not trusted: Lean checks it.
import Derived.Test.YtglkjeeiiflpjaaF0
import Derived.Test.YtglkjeeiiflpjaaB3
import Derived.Test.YtglkjeeiiflpjaaF12
import Derived.Test.YtglkjeeiiflpjaaF18
import Derived.Test.YtglkjeeiiflpjaaFS
import Derived.Test.YtglkjeeiiflpjaaHAlive06
namespace Go.Proofs.Ytglkjeeiiflpjaa.F
open Go.RowKit Go.Proofs.YtglkjeeiiflpjaaW.PrintWords Go.Proofs.YtglkjeeiiflpjaaW.PrintLast Go.Proofs.YtglkjeeiiflpjaaW.PrintMore
attribute [local go_sem] max2_int min2_int max_two min_two max_three min_three max_four min_four   -- for this text's walks alone
set_option linter.unusedVariables false
set_option linter.unusedSimpArgs false

/-! ### cobweblaw06_PixelNear: function 5 -/
mutual
def cobweblaw06_PixelNear.j0 : Nat → Int → Bool → Bool → Int → Int → Int → Int → Int → Int → Option (Bool)
  | 0, _, _, _, _, _, _, _, _, _ => none
  | k + 1, x2, x7, x40, x102000, x102001, x102002, x102003, x103000, x103001 => if x40 = true then ((cobweblaw06_alive.f).bind fun t107 => (if t107 = true then (some (!x7)) else (some false))) else (if x2 = 268435456 then (cobweblaw06_PixelNear.j1 k x7 true x102000 x102001 x102002 x102003 (wrap64 ((wrap64 (2 * x103000)) - x2)) (wrap64 ((wrap64 (2 * x103001)) - x2)) (wrap64 ((wrap64 (2 * x103000)) + x2)) (wrap64 ((wrap64 (2 * x103001)) + x2))) else ((pixel_Near.f x102000 x102001 x102002 x102003 x103000 x103001 (wrap64 (x2 + 1))).bind fun t110 => (cobweblaw06_PixelNear.j1 k x7 t110 x102000 x102001 x102002 x102003 (wrap64 ((wrap64 (2 * x103000)) - x2)) (wrap64 ((wrap64 (2 * x103001)) - x2)) (wrap64 ((wrap64 (2 * x103000)) + x2)) (wrap64 ((wrap64 (2 * x103001)) + x2)))))
def cobweblaw06_PixelNear.j1 : Nat → Bool → Bool → Int → Int → Int → Int → Int → Int → Int → Int → Option (Bool)
  | 0, _, _, _, _, _, _, _, _, _, _ => none
  | k + 1, x7, x10, x102000, x102001, x102002, x102003, x109000, x109001, x110000, x110001 => (cobweblaw06_alive.f).bind fun t111 => (if t111 = true then ((cobwebref06_Meets.f k x102000 x102001 x102002 x102003 x109000 x109001 x110000 x110001 1).bind fun t112 => (if (x7 == t112) = true then (if x7 = true then (if x10 = true then ((pixel_Near.f x102000 x102001 x102002 x102003 x102000 x102001 0).bind fun t113 => (if t113 = true then ((pixel_Near.f x102000 x102001 x102002 x102003 x102002 x102003 0).bind fun t114 => (some t114)) else (some false))) else (some false)) else ((pixel_Near.f x102000 x102001 x102002 x102003 x102000 x102001 0).bind fun t115 => (if t115 = true then ((pixel_Near.f x102000 x102001 x102002 x102003 x102002 x102003 0).bind fun t116 => (some t116)) else (some false)))) else (some false))) else (some false))
end
def cobweblaw06_PixelNear.f (k : Nat) (a0_0 : Int) (a0_1 : Int) (a0_2 : Int) (a0_3 : Int) (a1_0 : Int) (a1_1 : Int) (a2 : Int) : Option (Bool) := (pixel_Near.f a0_0 a0_1 a0_2 a0_3 a1_0 a1_1 a2).bind fun t103 => ((cobwebref05_Right.f a0_0 a0_1).bind fun t104 => (if t104 = true then ((cobwebref05_Right.f a0_2 a0_3).bind fun t105 => (if t105 = true then ((cobwebref05_Right.f a1_0 a1_1).bind fun t106 => (if t106 = true then (if a2 < 0 then (cobweblaw06_PixelNear.j0 k a2 t103 true a0_0 a0_1 a0_2 a0_3 a1_0 a1_1) else (cobweblaw06_PixelNear.j0 k a2 t103 (decide (a2 > 268435456)) a0_0 a0_1 a0_2 a0_3 a1_0 a1_1)) else (cobweblaw06_PixelNear.j0 k a2 t103 true a0_0 a0_1 a0_2 a0_3 a1_0 a1_1))) else (cobweblaw06_PixelNear.j0 k a2 t103 true a0_0 a0_1 a0_2 a0_3 a1_0 a1_1))) else (cobweblaw06_PixelNear.j0 k a2 t103 true a0_0 a0_1 a0_2 a0_3 a1_0 a1_1)))
theorem cobweblaw06_PixelNear.mono_l : ∀ k, (∀ y0 y1 y2 y3 y4 y5 y6 y7 y8, LeO (cobweblaw06_PixelNear.j0 k y0 y1 y2 y3 y4 y5 y6 y7 y8) (cobweblaw06_PixelNear.j0 (k + 1) y0 y1 y2 y3 y4 y5 y6 y7 y8)) ∧ (∀ y0 y1 y2 y3 y4 y5 y6 y7 y8 y9, LeO (cobweblaw06_PixelNear.j1 k y0 y1 y2 y3 y4 y5 y6 y7 y8 y9) (cobweblaw06_PixelNear.j1 (k + 1) y0 y1 y2 y3 y4 y5 y6 y7 y8 y9))
  | 0 => ⟨fun _ _ _ _ _ _ _ _ _ r h => by simp [cobweblaw06_PixelNear.j0] at h, fun _ _ _ _ _ _ _ _ _ _ r h => by simp [cobweblaw06_PixelNear.j1] at h⟩
  | k + 1 => by
    obtain ⟨ih0, ih1⟩ := cobweblaw06_PixelNear.mono_l k
    refine ⟨?_, ?_⟩
    · intro y0 y1 y2 y3 y4 y5 y6 y7 y8
      unfold cobweblaw06_PixelNear.j0
      repeat' first
      | (with_reducible exact ih0 _ _ _ _ _ _ _ _ _)
      | (with_reducible exact ih1 _ _ _ _ _ _ _ _ _ _)
      | (with_reducible exact cobwebref06_Meets.mono _ _ _ _ _ _ _ _ _ _)
      | (with_reducible exact LeO.refl _)
      | (with_reducible exact LeO.none _)
      | (with_reducible refine LeO.ite ?_ ?_)
      | (with_reducible refine LeO.bind ?_ (fun _ => ?_))
      | exact ih0 _ _ _ _ _ _ _ _ _
      | exact ih1 _ _ _ _ _ _ _ _ _ _
      | exact cobwebref06_Meets.mono _ _ _ _ _ _ _ _ _ _
      | exact LeO.none _
      | refine LeO.ite ?_ ?_
      | refine LeO.bind ?_ (fun _ => ?_)
    · intro y0 y1 y2 y3 y4 y5 y6 y7 y8 y9
      unfold cobweblaw06_PixelNear.j1
      repeat' first
      | (with_reducible exact ih0 _ _ _ _ _ _ _ _ _)
      | (with_reducible exact ih1 _ _ _ _ _ _ _ _ _ _)
      | (with_reducible exact cobwebref06_Meets.mono _ _ _ _ _ _ _ _ _ _)
      | (with_reducible exact LeO.refl _)
      | (with_reducible exact LeO.none _)
      | (with_reducible refine LeO.ite ?_ ?_)
      | (with_reducible refine LeO.bind ?_ (fun _ => ?_))
      | exact ih0 _ _ _ _ _ _ _ _ _
      | exact ih1 _ _ _ _ _ _ _ _ _ _
      | exact cobwebref06_Meets.mono _ _ _ _ _ _ _ _ _ _
      | exact LeO.none _
      | refine LeO.ite ?_ ?_
      | refine LeO.bind ?_ (fun _ => ?_)
theorem cobweblaw06_PixelNear.mono : ∀ a0 a1 a2 a3 a4 a5 a6 k, LeO (cobweblaw06_PixelNear.f k a0 a1 a2 a3 a4 a5 a6) (cobweblaw06_PixelNear.f (k + 1) a0 a1 a2 a3 a4 a5 a6) := by
  intro a0 a1 a2 a3 a4 a5 a6 k
  obtain ⟨ih0, ih1⟩ := cobweblaw06_PixelNear.mono_l k
  unfold cobweblaw06_PixelNear.f
  repeat' first
      | (with_reducible exact ih0 _ _ _ _ _ _ _ _ _)
      | (with_reducible exact ih1 _ _ _ _ _ _ _ _ _ _)
      | (with_reducible exact cobwebref06_Meets.mono _ _ _ _ _ _ _ _ _ _)
      | (with_reducible exact LeO.refl _)
      | (with_reducible exact LeO.none _)
      | (with_reducible refine LeO.ite ?_ ?_)
      | (with_reducible refine LeO.bind ?_ (fun _ => ?_))
      | exact ih0 _ _ _ _ _ _ _ _ _
      | exact ih1 _ _ _ _ _ _ _ _ _ _
      | exact cobwebref06_Meets.mono _ _ _ _ _ _ _ _ _ _
      | exact LeO.none _
      | refine LeO.ite ?_ ?_
      | refine LeO.bind ?_ (fun _ => ?_)
def cobweblaw06_PixelNear.T4 : Bool × List (List Nat × List Nat) := (true, [([], []), ([0], [0]), ([1], [1]), ([], []), ([2, 3], [2, 3]), ([], []), ([5], [5]), ([6], [6]), ([], []), ([7, 8], [7, 8]), ([4, 9], [4, 9]), ([], []), ([11], [11]), ([12], [12]), ([], []), ([13, 14], [13, 14]), ([], []), ([16], [16]), ([17], [17]), ([], []), ([18, 19], [18, 19]), ([15, 20], [15, 20]), ([], []), ([], []), ([22, 10, 0, 1, 2, 3, 4, 5, 6, 7, 8, 9, 10, 22, 23], [10, 22]), ([23, 21, 24, 0, 1, 2, 3, 4, 5, 6, 7, 8, 9, 10, 11, 12, 13, 14, 15, 16, 17, 18, 19, 20, 21, 22, 23, 24], [21, 23])])
def cobweblaw06_PixelNear.B4 : List Nat := [0, 1, 3, 0, 15, 0, 32, 96, 0, 480, 1023, 0, 2048, 6144, 0, 30720, 0, 65536, 196608, 0, 983040, 2095104, 0, 0, 12584959, 33554431]
theorem cobweblaw06_PixelNear.tab4 : rtab .any (opsOf Try.f5 4) = cobweblaw06_PixelNear.T4 := by kernel_rfl
theorem cobweblaw06_PixelNear.bits4 : waitsOk cobweblaw06_PixelNear.T4.2 cobweblaw06_PixelNear.B4 = true := by kernel_rfl
set_option maxHeartbeats 8000000 in
set_option maxRecDepth 100000 in
theorem cobweblaw06_PixelNear.calls (k : Nat) (a0_0 : Int) (a0_1 : Int) (a0_2 : Int) (a0_3 : Int) (a1_0 : Int) (a1_1 : Int) (a2 : Int) (r : Bool) (w : World) (h : cobweblaw06_PixelNear.f k a0_0 a0_1 a0_2 a0_3 a1_0 a1_1 a2 = some r) :
    Calls Try.prog 5 #[.agg #[.int .i64 a0_0, .int .i64 a0_1, .int .i64 a0_2, .int .i64 a0_3], .agg #[.int .i64 a1_0, .int .i64 a1_1], .int .i64 a2] w fun e w' => e = .returned (.bool r) ∧ Below w.heap.size w w' := by
  have hu24 := Try.underlying24
  have hu23 := Try.underlying23
  have HB := A_ (Below.refl w.heap.size w)
  have H : ((pixel_Near.f a0_0 a0_1 a0_2 a0_3 a1_0 a1_1 a2).bind fun t103 => ((cobwebref05_Right.f a0_0 a0_1).bind fun t104 => (if t104 = true then ((cobwebref05_Right.f a0_2 a0_3).bind fun t105 => (if t105 = true then ((cobwebref05_Right.f a1_0 a1_1).bind fun t106 => (if t106 = true then (if a2 < 0 then (cobweblaw06_PixelNear.j0 k a2 t103 true a0_0 a0_1 a0_2 a0_3 a1_0 a1_1) else (cobweblaw06_PixelNear.j0 k a2 t103 (decide (a2 > 268435456)) a0_0 a0_1 a0_2 a0_3 a1_0 a1_1)) else (cobweblaw06_PixelNear.j0 k a2 t103 true a0_0 a0_1 a0_2 a0_3 a1_0 a1_1))) else (cobweblaw06_PixelNear.j0 k a2 t103 true a0_0 a0_1 a0_2 a0_3 a1_0 a1_1))) else (cobweblaw06_PixelNear.j0 k a2 t103 true a0_0 a0_1 a0_2 a0_3 a1_0 a1_1)))) = some r := h
  clear h
  replace H := Option.bind_eq_some_iff.mp H
  obtain ⟨t103, A40, H⟩ := H
  replace H : ((cobwebref05_Right.f a0_0 a0_1).bind fun t104 => (if t104 = true then ((cobwebref05_Right.f a0_2 a0_3).bind fun t105 => (if t105 = true then ((cobwebref05_Right.f a1_0 a1_1).bind fun t106 => (if t106 = true then (if a2 < 0 then (cobweblaw06_PixelNear.j0 k a2 t103 true a0_0 a0_1 a0_2 a0_3 a1_0 a1_1) else (cobweblaw06_PixelNear.j0 k a2 t103 (decide (a2 > 268435456)) a0_0 a0_1 a0_2 a0_3 a1_0 a1_1)) else (cobweblaw06_PixelNear.j0 k a2 t103 true a0_0 a0_1 a0_2 a0_3 a1_0 a1_1))) else (cobweblaw06_PixelNear.j0 k a2 t103 true a0_0 a0_1 a0_2 a0_3 a1_0 a1_1))) else (cobweblaw06_PixelNear.j0 k a2 t103 true a0_0 a0_1 a0_2 a0_3 a1_0 a1_1))) = some r := H
  have A4 := A_ A40
  clear A40
  have HC5 := A_ H
  clear H
  go_enter Try.func5, Try.ntmps5
  go_upto_region 2 with (first | ((with_reducible refine gate_dst (N := 3) rfl ?_); refine boxeq_ 3 #[.int .i64 a0_0, .int .i64 a0_1, .int .i64 a0_2, .int .i64 a0_3] 24 ?_; intro gb101 hg w6 hbox hb; have BK101 := A_ (hbox); have GW101 := ge_ HB hg; replace HB := st_ HB hb; have GE101 := GW101; clear hb hbox hg) | ((with_reducible refine gate_dst (N := 4) rfl ?_); refine boxeq_ 4 #[.int .i64 a1_0, .int .i64 a1_1] 23 ?_; intro gb102 hg w7 hbox hb; have BK102 := A_ (hbox); have GW102 := ge_ HB hg; replace HB := st_ HB hb; have GE102 := GW102; have NB101_102 := ne_ BK101 hg; replace BK101 := bb_ BK101 hb; have NB102_101 := A_ NB101_102.out.symm; clear hb hbox hg; have hnb8 := NB101_102.out; have hnc8 := NB102_101.out; have hcz9_0 : w7.cell? ⟨gb101, 0, none⟩ = some (.int .i64 a0_0) := (blk_cell BK101.out 0).trans rfl; have hcz9_1 : w7.cell? ⟨gb101, 1, none⟩ = some (.int .i64 a0_1) := (blk_cell BK101.out 1).trans rfl; have hcz9_2 : w7.cell? ⟨gb101, 2, none⟩ = some (.int .i64 a0_2) := (blk_cell BK101.out 2).trans rfl; have hcz9_3 : w7.cell? ⟨gb101, 3, none⟩ = some (.int .i64 a0_3) := (blk_cell BK101.out 3).trans rfl; have hfz9_0 := blk_frozen BK101.out 0; have hfz9_1 := blk_frozen BK101.out 1; have hfz9_2 := blk_frozen BK101.out 2; have hfz9_3 := blk_frozen BK101.out 3; have hcz10_0 : w7.cell? ⟨gb102, 0, none⟩ = some (.int .i64 a1_0) := (blk_cell BK102.out 0).trans rfl; have hcz10_1 : w7.cell? ⟨gb102, 1, none⟩ = some (.int .i64 a1_1) := (blk_cell BK102.out 1).trans rfl; have hfz10_0 := blk_frozen BK102.out 0; have hfz10_1 := blk_frozen BK102.out 1) | ((with_reducible refine gate_callee (f := 18) rfl ?_); refine goesLq_ 17 rfl Try.func18 #[.agg #[.int .i64 a0_0, .int .i64 a0_1], .agg #[.int .i64 a0_2, .int .i64 a0_3], .agg #[.int .i64 a1_0, .int .i64 a1_1], .int .i64 a2] ?_; (with_reducible refine (pixel_Near.calls a0_0 a0_1 a0_2 a0_3 a1_0 a1_1 a2 t103 _ A4.out).mono ?_); rintro e w11 ⟨rfl, hb⟩; refine ⟨_, rfl, ?_⟩; replace BK101 := bb_ BK101 hb; replace BK102 := bb_ BK102 hb; replace HB := st_ HB hb; (try clear hb); (try clear hb2); (try clear hk); (try clear hi)))
  (try simp only [Act.put, List.setIfInBounds_toArray, List.set_cons_zero, List.set_cons_succ])
  go_cut [40] (fun v40 wc => ∃ (kq : Nat) (x40_4 : Bool), v40 = .bool x40_4 ∧ Aside0 (cobweblaw06_PixelNear.j0 kq a2 t103 x40_4 a0_0 a0_1 a0_2 a0_3 a1_0 a1_1 = some r) ∧ Aside0 (kq ≤ k) ∧ Aside0 (wc.heap[gb101]? = some (.cells #[.int .i64 a0_0, .int .i64 a0_1, .int .i64 a0_2, .int .i64 a0_3] 24 (0, 0))) ∧ Aside0 (wc.heap[gb102]? = some (.cells #[.int .i64 a1_0, .int .i64 a1_1] 23 (0, 0))) ∧ Aside0 (Below w.heap.size w wc))
  case first =>
    have H := HC5.out
    clear HC5
    replace H := Option.bind_eq_some_iff.mp H
    obtain ⟨t104, A120, H⟩ := H
    replace H : (if t104 = true then ((cobwebref05_Right.f a0_2 a0_3).bind fun t105 => (if t105 = true then ((cobwebref05_Right.f a1_0 a1_1).bind fun t106 => (if t106 = true then (if a2 < 0 then (cobweblaw06_PixelNear.j0 k a2 t103 true a0_0 a0_1 a0_2 a0_3 a1_0 a1_1) else (cobweblaw06_PixelNear.j0 k a2 t103 (decide (a2 > 268435456)) a0_0 a0_1 a0_2 a0_3 a1_0 a1_1)) else (cobweblaw06_PixelNear.j0 k a2 t103 true a0_0 a0_1 a0_2 a0_3 a1_0 a1_1))) else (cobweblaw06_PixelNear.j0 k a2 t103 true a0_0 a0_1 a0_2 a0_3 a1_0 a1_1))) else (cobweblaw06_PixelNear.j0 k a2 t103 true a0_0 a0_1 a0_2 a0_3 a1_0 a1_1)) = some r := H
    have A12 := A_ A120
    clear A120
    by_cases c13 : t104 = true
    · subst c13
      have H1 : ((cobwebref05_Right.f a0_2 a0_3).bind fun t105 => (if t105 = true then ((cobwebref05_Right.f a1_0 a1_1).bind fun t106 => (if t106 = true then (if a2 < 0 then (cobweblaw06_PixelNear.j0 k a2 t103 true a0_0 a0_1 a0_2 a0_3 a1_0 a1_1) else (cobweblaw06_PixelNear.j0 k a2 t103 (decide (a2 > 268435456)) a0_0 a0_1 a0_2 a0_3 a1_0 a1_1)) else (cobweblaw06_PixelNear.j0 k a2 t103 true a0_0 a0_1 a0_2 a0_3 a1_0 a1_1))) else (cobweblaw06_PixelNear.j0 k a2 t103 true a0_0 a0_1 a0_2 a0_3 a1_0 a1_1))) = some r := by rw [if_pos rfl] at H; exact H
      clear H
      have H := H1
      clear H1
      replace H := Option.bind_eq_some_iff.mp H
      obtain ⟨t105, A140, H⟩ := H
      replace H : (if t105 = true then ((cobwebref05_Right.f a1_0 a1_1).bind fun t106 => (if t106 = true then (if a2 < 0 then (cobweblaw06_PixelNear.j0 k a2 t103 true a0_0 a0_1 a0_2 a0_3 a1_0 a1_1) else (cobweblaw06_PixelNear.j0 k a2 t103 (decide (a2 > 268435456)) a0_0 a0_1 a0_2 a0_3 a1_0 a1_1)) else (cobweblaw06_PixelNear.j0 k a2 t103 true a0_0 a0_1 a0_2 a0_3 a1_0 a1_1))) else (cobweblaw06_PixelNear.j0 k a2 t103 true a0_0 a0_1 a0_2 a0_3 a1_0 a1_1)) = some r := H
      have A14 := A_ A140
      clear A140
      by_cases c15 : t105 = true
      · subst c15
        have H1 : ((cobwebref05_Right.f a1_0 a1_1).bind fun t106 => (if t106 = true then (if a2 < 0 then (cobweblaw06_PixelNear.j0 k a2 t103 true a0_0 a0_1 a0_2 a0_3 a1_0 a1_1) else (cobweblaw06_PixelNear.j0 k a2 t103 (decide (a2 > 268435456)) a0_0 a0_1 a0_2 a0_3 a1_0 a1_1)) else (cobweblaw06_PixelNear.j0 k a2 t103 true a0_0 a0_1 a0_2 a0_3 a1_0 a1_1))) = some r := by rw [if_pos rfl] at H; exact H
        clear H
        have H := H1
        clear H1
        replace H := Option.bind_eq_some_iff.mp H
        obtain ⟨t106, A160, H⟩ := H
        replace H : (if t106 = true then (if a2 < 0 then (cobweblaw06_PixelNear.j0 k a2 t103 true a0_0 a0_1 a0_2 a0_3 a1_0 a1_1) else (cobweblaw06_PixelNear.j0 k a2 t103 (decide (a2 > 268435456)) a0_0 a0_1 a0_2 a0_3 a1_0 a1_1)) else (cobweblaw06_PixelNear.j0 k a2 t103 true a0_0 a0_1 a0_2 a0_3 a1_0 a1_1)) = some r := H
        have A16 := A_ A160
        clear A160
        by_cases c17 : t106 = true
        · subst c17
          have H1 : (if a2 < 0 then (cobweblaw06_PixelNear.j0 k a2 t103 true a0_0 a0_1 a0_2 a0_3 a1_0 a1_1) else (cobweblaw06_PixelNear.j0 k a2 t103 (decide (a2 > 268435456)) a0_0 a0_1 a0_2 a0_3 a1_0 a1_1)) = some r := by rw [if_pos rfl] at H; exact H
          clear H
          have H := H1
          clear H1
          by_cases c18 : a2 < 0
          · rw [if_pos c18] at H
            have c18b0 : decide (a2 < 0) = true := decide_eq_true c18
            clear c18
            (first | rw [c18b0] | (simp only [i64_w, i32_w]; rw [c18b0]) | skip)
            have H' := A_ H
            clear H
            have hnb19 := NB101_102.out
            have hnc19 := NB102_101.out
            have hcz20_0 : w11.cell? ⟨gb101, 0, none⟩ = some (.int .i64 a0_0) := (blk_cell BK101.out 0).trans rfl
            have hcz20_1 : w11.cell? ⟨gb101, 1, none⟩ = some (.int .i64 a0_1) := (blk_cell BK101.out 1).trans rfl
            have hcz20_2 : w11.cell? ⟨gb101, 2, none⟩ = some (.int .i64 a0_2) := (blk_cell BK101.out 2).trans rfl
            have hcz20_3 : w11.cell? ⟨gb101, 3, none⟩ = some (.int .i64 a0_3) := (blk_cell BK101.out 3).trans rfl
            have hfz20_0 := blk_frozen BK101.out 0
            have hfz20_1 := blk_frozen BK101.out 1
            have hfz20_2 := blk_frozen BK101.out 2
            have hfz20_3 := blk_frozen BK101.out 3
            go_wp2_with (first | ((with_reducible refine gate_callee (f := 19) rfl ?_); refine goesLq_ 20 rfl Try.func19 #[.agg #[.int .i64 a0_0, .int .i64 a0_1]] ?_; (with_reducible refine (cobwebref05_Right.calls a0_0 a0_1 true _ A12.out).mono ?_); rintro e w21 ⟨rfl, hb⟩; refine ⟨_, rfl, ?_⟩; replace BK101 := bb_ BK101 hb; replace BK102 := bb_ BK102 hb; replace HB := st_ HB hb; (try clear hb); (try clear hb2); (try clear hk); (try clear hi); have hcz22_0 : w21.cell? ⟨gb101, 0, none⟩ = some (.int .i64 a0_0) := (blk_cell BK101.out 0).trans rfl; have hcz22_1 : w21.cell? ⟨gb101, 1, none⟩ = some (.int .i64 a0_1) := (blk_cell BK101.out 1).trans rfl; have hcz22_2 : w21.cell? ⟨gb101, 2, none⟩ = some (.int .i64 a0_2) := (blk_cell BK101.out 2).trans rfl; have hcz22_3 : w21.cell? ⟨gb101, 3, none⟩ = some (.int .i64 a0_3) := (blk_cell BK101.out 3).trans rfl; have hfz22_0 := blk_frozen BK101.out 0; have hfz22_1 := blk_frozen BK101.out 1; have hfz22_2 := blk_frozen BK101.out 2; have hfz22_3 := blk_frozen BK101.out 3) | (go_at_call 19; (with_reducible refine (cobwebref05_Right.calls a0_2 a0_3 true _ A14.out).mono ?_); rintro e w23 ⟨rfl, hb⟩; replace BK101 := bb_ BK101 hb; replace BK102 := bb_ BK102 hb; replace HB := st_ HB hb; (try clear hb); (try clear hb2); (try clear hk); (try clear hi); have hcz24_0 : w23.cell? ⟨gb102, 0, none⟩ = some (.int .i64 a1_0) := (blk_cell BK102.out 0).trans rfl; have hcz24_1 : w23.cell? ⟨gb102, 1, none⟩ = some (.int .i64 a1_1) := (blk_cell BK102.out 1).trans rfl; have hfz24_0 := blk_frozen BK102.out 0; have hfz24_1 := blk_frozen BK102.out 1) | (go_at_call 19; (with_reducible refine (cobwebref05_Right.calls a1_0 a1_1 true _ A16.out).mono ?_); rintro e w25 ⟨rfl, hb⟩; replace BK101 := bb_ BK101 hb; replace BK102 := bb_ BK102 hb; replace HB := st_ HB hb; (try clear hb); (try clear hb2); (try clear hk); (try clear hi)))
            go_meet
            case rel => exact ⟨_, (true), (by first | rfl | (simp; done) | (simp [*]; done)), H', ⟨by first | omega | exact Nat.le_refl _⟩, ⟨b_ BK101⟩, ⟨b_ BK102⟩, ⟨l_ HB⟩⟩
          · rw [if_neg c18] at H
            have c18b0 : decide (a2 < 0) = false := decide_eq_false c18
            clear c18
            (first | rw [c18b0] | (simp only [i64_w, i32_w]; rw [c18b0]) | skip)
            have H' := A_ H
            clear H
            have hnb26 := NB101_102.out
            have hnc26 := NB102_101.out
            have hcz27_0 : w11.cell? ⟨gb101, 0, none⟩ = some (.int .i64 a0_0) := (blk_cell BK101.out 0).trans rfl
            have hcz27_1 : w11.cell? ⟨gb101, 1, none⟩ = some (.int .i64 a0_1) := (blk_cell BK101.out 1).trans rfl
            have hcz27_2 : w11.cell? ⟨gb101, 2, none⟩ = some (.int .i64 a0_2) := (blk_cell BK101.out 2).trans rfl
            have hcz27_3 : w11.cell? ⟨gb101, 3, none⟩ = some (.int .i64 a0_3) := (blk_cell BK101.out 3).trans rfl
            have hfz27_0 := blk_frozen BK101.out 0
            have hfz27_1 := blk_frozen BK101.out 1
            have hfz27_2 := blk_frozen BK101.out 2
            have hfz27_3 := blk_frozen BK101.out 3
            go_wp2_with (first | ((with_reducible refine gate_callee (f := 19) rfl ?_); refine goesLq_ 20 rfl Try.func19 #[.agg #[.int .i64 a0_0, .int .i64 a0_1]] ?_; (with_reducible refine (cobwebref05_Right.calls a0_0 a0_1 true _ A12.out).mono ?_); rintro e w28 ⟨rfl, hb⟩; refine ⟨_, rfl, ?_⟩; replace BK101 := bb_ BK101 hb; replace BK102 := bb_ BK102 hb; replace HB := st_ HB hb; (try clear hb); (try clear hb2); (try clear hk); (try clear hi); have hcz29_0 : w28.cell? ⟨gb101, 0, none⟩ = some (.int .i64 a0_0) := (blk_cell BK101.out 0).trans rfl; have hcz29_1 : w28.cell? ⟨gb101, 1, none⟩ = some (.int .i64 a0_1) := (blk_cell BK101.out 1).trans rfl; have hcz29_2 : w28.cell? ⟨gb101, 2, none⟩ = some (.int .i64 a0_2) := (blk_cell BK101.out 2).trans rfl; have hcz29_3 : w28.cell? ⟨gb101, 3, none⟩ = some (.int .i64 a0_3) := (blk_cell BK101.out 3).trans rfl; have hfz29_0 := blk_frozen BK101.out 0; have hfz29_1 := blk_frozen BK101.out 1; have hfz29_2 := blk_frozen BK101.out 2; have hfz29_3 := blk_frozen BK101.out 3) | (go_at_call 19; (with_reducible refine (cobwebref05_Right.calls a0_2 a0_3 true _ A14.out).mono ?_); rintro e w30 ⟨rfl, hb⟩; replace BK101 := bb_ BK101 hb; replace BK102 := bb_ BK102 hb; replace HB := st_ HB hb; (try clear hb); (try clear hb2); (try clear hk); (try clear hi); have hcz31_0 : w30.cell? ⟨gb102, 0, none⟩ = some (.int .i64 a1_0) := (blk_cell BK102.out 0).trans rfl; have hcz31_1 : w30.cell? ⟨gb102, 1, none⟩ = some (.int .i64 a1_1) := (blk_cell BK102.out 1).trans rfl; have hfz31_0 := blk_frozen BK102.out 0; have hfz31_1 := blk_frozen BK102.out 1) | (go_at_call 19; (with_reducible refine (cobwebref05_Right.calls a1_0 a1_1 true _ A16.out).mono ?_); rintro e w32 ⟨rfl, hb⟩; replace BK101 := bb_ BK101 hb; replace BK102 := bb_ BK102 hb; replace HB := st_ HB hb; (try clear hb); (try clear hb2); (try clear hk); (try clear hi)))
            go_meet
            case rel => exact ⟨_, (decide (a2 > 268435456)), (by first | rfl | (simp; done) | (simp [*]; done)), H', ⟨by first | omega | exact Nat.le_refl _⟩, ⟨b_ BK101⟩, ⟨b_ BK102⟩, ⟨l_ HB⟩⟩
        · replace c17 := Bool.eq_false_iff.mpr c17
          subst c17
          have H1 : (cobweblaw06_PixelNear.j0 k a2 t103 true a0_0 a0_1 a0_2 a0_3 a1_0 a1_1) = some r := by rw [if_neg (show ¬ (false = true) by decide)] at H; exact H
          clear H
          have H := H1
          clear H1
          have H' := A_ H
          clear H
          have hnb33 := NB101_102.out
          have hnc33 := NB102_101.out
          have hcz34_0 : w11.cell? ⟨gb101, 0, none⟩ = some (.int .i64 a0_0) := (blk_cell BK101.out 0).trans rfl
          have hcz34_1 : w11.cell? ⟨gb101, 1, none⟩ = some (.int .i64 a0_1) := (blk_cell BK101.out 1).trans rfl
          have hcz34_2 : w11.cell? ⟨gb101, 2, none⟩ = some (.int .i64 a0_2) := (blk_cell BK101.out 2).trans rfl
          have hcz34_3 : w11.cell? ⟨gb101, 3, none⟩ = some (.int .i64 a0_3) := (blk_cell BK101.out 3).trans rfl
          have hfz34_0 := blk_frozen BK101.out 0
          have hfz34_1 := blk_frozen BK101.out 1
          have hfz34_2 := blk_frozen BK101.out 2
          have hfz34_3 := blk_frozen BK101.out 3
          go_wp2_with (first | ((with_reducible refine gate_callee (f := 19) rfl ?_); refine goesLq_ 20 rfl Try.func19 #[.agg #[.int .i64 a0_0, .int .i64 a0_1]] ?_; (with_reducible refine (cobwebref05_Right.calls a0_0 a0_1 true _ A12.out).mono ?_); rintro e w35 ⟨rfl, hb⟩; refine ⟨_, rfl, ?_⟩; replace BK101 := bb_ BK101 hb; replace BK102 := bb_ BK102 hb; replace HB := st_ HB hb; (try clear hb); (try clear hb2); (try clear hk); (try clear hi); have hcz36_0 : w35.cell? ⟨gb101, 0, none⟩ = some (.int .i64 a0_0) := (blk_cell BK101.out 0).trans rfl; have hcz36_1 : w35.cell? ⟨gb101, 1, none⟩ = some (.int .i64 a0_1) := (blk_cell BK101.out 1).trans rfl; have hcz36_2 : w35.cell? ⟨gb101, 2, none⟩ = some (.int .i64 a0_2) := (blk_cell BK101.out 2).trans rfl; have hcz36_3 : w35.cell? ⟨gb101, 3, none⟩ = some (.int .i64 a0_3) := (blk_cell BK101.out 3).trans rfl; have hfz36_0 := blk_frozen BK101.out 0; have hfz36_1 := blk_frozen BK101.out 1; have hfz36_2 := blk_frozen BK101.out 2; have hfz36_3 := blk_frozen BK101.out 3) | (go_at_call 19; (with_reducible refine (cobwebref05_Right.calls a0_2 a0_3 true _ A14.out).mono ?_); rintro e w37 ⟨rfl, hb⟩; replace BK101 := bb_ BK101 hb; replace BK102 := bb_ BK102 hb; replace HB := st_ HB hb; (try clear hb); (try clear hb2); (try clear hk); (try clear hi); have hcz38_0 : w37.cell? ⟨gb102, 0, none⟩ = some (.int .i64 a1_0) := (blk_cell BK102.out 0).trans rfl; have hcz38_1 : w37.cell? ⟨gb102, 1, none⟩ = some (.int .i64 a1_1) := (blk_cell BK102.out 1).trans rfl; have hfz38_0 := blk_frozen BK102.out 0; have hfz38_1 := blk_frozen BK102.out 1) | (go_at_call 19; (with_reducible refine (cobwebref05_Right.calls a1_0 a1_1 false _ A16.out).mono ?_); rintro e w39 ⟨rfl, hb⟩; replace BK101 := bb_ BK101 hb; replace BK102 := bb_ BK102 hb; replace HB := st_ HB hb; (try clear hb); (try clear hb2); (try clear hk); (try clear hi)))
          go_meet
          case rel => exact ⟨_, (true), (by first | rfl | (simp; done) | (simp [*]; done)), H', ⟨by first | omega | exact Nat.le_refl _⟩, ⟨b_ BK101⟩, ⟨b_ BK102⟩, ⟨l_ HB⟩⟩
      · replace c15 := Bool.eq_false_iff.mpr c15
        subst c15
        have H1 : (cobweblaw06_PixelNear.j0 k a2 t103 true a0_0 a0_1 a0_2 a0_3 a1_0 a1_1) = some r := by rw [if_neg (show ¬ (false = true) by decide)] at H; exact H
        clear H
        have H := H1
        clear H1
        have H' := A_ H
        clear H
        have hnb40 := NB101_102.out
        have hnc40 := NB102_101.out
        have hcz41_0 : w11.cell? ⟨gb101, 0, none⟩ = some (.int .i64 a0_0) := (blk_cell BK101.out 0).trans rfl
        have hcz41_1 : w11.cell? ⟨gb101, 1, none⟩ = some (.int .i64 a0_1) := (blk_cell BK101.out 1).trans rfl
        have hcz41_2 : w11.cell? ⟨gb101, 2, none⟩ = some (.int .i64 a0_2) := (blk_cell BK101.out 2).trans rfl
        have hcz41_3 : w11.cell? ⟨gb101, 3, none⟩ = some (.int .i64 a0_3) := (blk_cell BK101.out 3).trans rfl
        have hfz41_0 := blk_frozen BK101.out 0
        have hfz41_1 := blk_frozen BK101.out 1
        have hfz41_2 := blk_frozen BK101.out 2
        have hfz41_3 := blk_frozen BK101.out 3
        go_wp2_with (first | ((with_reducible refine gate_callee (f := 19) rfl ?_); refine goesLq_ 20 rfl Try.func19 #[.agg #[.int .i64 a0_0, .int .i64 a0_1]] ?_; (with_reducible refine (cobwebref05_Right.calls a0_0 a0_1 true _ A12.out).mono ?_); rintro e w42 ⟨rfl, hb⟩; refine ⟨_, rfl, ?_⟩; replace BK101 := bb_ BK101 hb; replace BK102 := bb_ BK102 hb; replace HB := st_ HB hb; (try clear hb); (try clear hb2); (try clear hk); (try clear hi); have hcz43_0 : w42.cell? ⟨gb101, 0, none⟩ = some (.int .i64 a0_0) := (blk_cell BK101.out 0).trans rfl; have hcz43_1 : w42.cell? ⟨gb101, 1, none⟩ = some (.int .i64 a0_1) := (blk_cell BK101.out 1).trans rfl; have hcz43_2 : w42.cell? ⟨gb101, 2, none⟩ = some (.int .i64 a0_2) := (blk_cell BK101.out 2).trans rfl; have hcz43_3 : w42.cell? ⟨gb101, 3, none⟩ = some (.int .i64 a0_3) := (blk_cell BK101.out 3).trans rfl; have hfz43_0 := blk_frozen BK101.out 0; have hfz43_1 := blk_frozen BK101.out 1; have hfz43_2 := blk_frozen BK101.out 2; have hfz43_3 := blk_frozen BK101.out 3) | (go_at_call 19; (with_reducible refine (cobwebref05_Right.calls a0_2 a0_3 false _ A14.out).mono ?_); rintro e w44 ⟨rfl, hb⟩; replace BK101 := bb_ BK101 hb; replace BK102 := bb_ BK102 hb; replace HB := st_ HB hb; (try clear hb); (try clear hb2); (try clear hk); (try clear hi)))
        go_meet
        case rel => exact ⟨_, (true), (by first | rfl | (simp; done) | (simp [*]; done)), H', ⟨by first | omega | exact Nat.le_refl _⟩, ⟨b_ BK101⟩, ⟨b_ BK102⟩, ⟨l_ HB⟩⟩
    · replace c13 := Bool.eq_false_iff.mpr c13
      subst c13
      have H1 : (cobweblaw06_PixelNear.j0 k a2 t103 true a0_0 a0_1 a0_2 a0_3 a1_0 a1_1) = some r := by rw [if_neg (show ¬ (false = true) by decide)] at H; exact H
      clear H
      have H := H1
      clear H1
      have H' := A_ H
      clear H
      have hnb45 := NB101_102.out
      have hnc45 := NB102_101.out
      have hcz46_0 : w11.cell? ⟨gb101, 0, none⟩ = some (.int .i64 a0_0) := (blk_cell BK101.out 0).trans rfl
      have hcz46_1 : w11.cell? ⟨gb101, 1, none⟩ = some (.int .i64 a0_1) := (blk_cell BK101.out 1).trans rfl
      have hcz46_2 : w11.cell? ⟨gb101, 2, none⟩ = some (.int .i64 a0_2) := (blk_cell BK101.out 2).trans rfl
      have hcz46_3 : w11.cell? ⟨gb101, 3, none⟩ = some (.int .i64 a0_3) := (blk_cell BK101.out 3).trans rfl
      have hfz46_0 := blk_frozen BK101.out 0
      have hfz46_1 := blk_frozen BK101.out 1
      have hfz46_2 := blk_frozen BK101.out 2
      have hfz46_3 := blk_frozen BK101.out 3
      go_wp2_with (first | ((with_reducible refine gate_callee (f := 19) rfl ?_); refine goesLq_ 20 rfl Try.func19 #[.agg #[.int .i64 a0_0, .int .i64 a0_1]] ?_; (with_reducible refine (cobwebref05_Right.calls a0_0 a0_1 false _ A12.out).mono ?_); rintro e w47 ⟨rfl, hb⟩; refine ⟨_, rfl, ?_⟩; replace BK101 := bb_ BK101 hb; replace BK102 := bb_ BK102 hb; replace HB := st_ HB hb; (try clear hb); (try clear hb2); (try clear hk); (try clear hi)))
      go_meet
      case rel => exact ⟨_, (true), (by first | rfl | (simp; done) | (simp [*]; done)), H', ⟨by first | omega | exact Nat.le_refl _⟩, ⟨b_ BK101⟩, ⟨b_ BK102⟩, ⟨l_ HB⟩⟩
  case rest =>
    clear HC5
    try clear c1
    try clear c2
    try clear p2
    try clear c3
    try clear c4
    try clear c5
    try clear c8
    try clear c13
    try clear c15
    try clear c17
    try clear c18
    try clear c18b0
    try clear c19
    try clear c26
    try clear c33
    try clear c40
    try clear c45
    try clear hcz10_0
    try clear hcz10_1
    try clear hcz20_0
    try clear hcz20_1
    try clear hcz20_2
    try clear hcz20_3
    try clear hcz22_0
    try clear hcz22_1
    try clear hcz22_2
    try clear hcz22_3
    try clear hcz24_0
    try clear hcz24_1
    try clear hcz27_0
    try clear hcz27_1
    try clear hcz27_2
    try clear hcz27_3
    try clear hcz29_0
    try clear hcz29_1
    try clear hcz29_2
    try clear hcz29_3
    try clear hcz31_0
    try clear hcz31_1
    try clear hcz34_0
    try clear hcz34_1
    try clear hcz34_2
    try clear hcz34_3
    try clear hcz36_0
    try clear hcz36_1
    try clear hcz36_2
    try clear hcz36_3
    try clear hcz38_0
    try clear hcz38_1
    try clear hcz41_0
    try clear hcz41_1
    try clear hcz41_2
    try clear hcz41_3
    try clear hcz43_0
    try clear hcz43_1
    try clear hcz43_2
    try clear hcz43_3
    try clear hcz46_0
    try clear hcz46_1
    try clear hcz46_2
    try clear hcz46_3
    try clear hcz9_0
    try clear hcz9_1
    try clear hcz9_2
    try clear hcz9_3
    try clear hfz10_0
    try clear hfz10_1
    try clear hfz20_0
    try clear hfz20_1
    try clear hfz20_2
    try clear hfz20_3
    try clear hfz22_0
    try clear hfz22_1
    try clear hfz22_2
    try clear hfz22_3
    try clear hfz24_0
    try clear hfz24_1
    try clear hfz27_0
    try clear hfz27_1
    try clear hfz27_2
    try clear hfz27_3
    try clear hfz29_0
    try clear hfz29_1
    try clear hfz29_2
    try clear hfz29_3
    try clear hfz31_0
    try clear hfz31_1
    try clear hfz34_0
    try clear hfz34_1
    try clear hfz34_2
    try clear hfz34_3
    try clear hfz36_0
    try clear hfz36_1
    try clear hfz36_2
    try clear hfz36_3
    try clear hfz38_0
    try clear hfz38_1
    try clear hfz41_0
    try clear hfz41_1
    try clear hfz41_2
    try clear hfz41_3
    try clear hfz43_0
    try clear hfz43_1
    try clear hfz43_2
    try clear hfz43_3
    try clear hfz46_0
    try clear hfz46_1
    try clear hfz46_2
    try clear hfz46_3
    try clear hfz9_0
    try clear hfz9_1
    try clear hfz9_2
    try clear hfz9_3
    obtain ⟨kq, x40_4, rfl, HA, HJ4, BK101, BK102, HB⟩ := hcut
    cases kq with
    | zero => exact absurd HA.out (by simp [cobweblaw06_PixelNear.j0])
    | succ kj4 =>
      have H := HA.out
      clear HA
      simp only [cobweblaw06_PixelNear.j0] at H
      by_cases c48 : x40_4 = true
      · subst c48
        have H1 : ((cobweblaw06_alive.f).bind fun t107 => (if t107 = true then (some (!t103)) else (some false))) = some r := by rw [if_pos rfl] at H; exact H
        clear H
        have H := H1
        clear H1
        replace H := Option.bind_eq_some_iff.mp H
        obtain ⟨t107, A490, H⟩ := H
        replace H : (if t107 = true then (some (!t103)) else (some false)) = some r := H
        have A49 := A_ A490
        clear A490
        by_cases c50 : t107 = true
        · subst c50
          have H1 : (some (!t103)) = some r := by rw [if_pos rfl] at H; exact H
          clear H
          have H := H1
          clear H1
          obtain rfl := Option.some.inj H
          go_wp2_with (first | ((with_reducible refine gate_callee (f := 13) rfl ?_); refine goesLq_ 41 rfl Try.func13 #[] ?_; (with_reducible refine (cobweblaw06_alive.calls  true _ A49.out).mono ?_); rintro e w51 ⟨rfl, hb⟩; refine ⟨_, rfl, ?_⟩; replace BK101 := bb_ BK101 hb; replace BK102 := bb_ BK102 hb; replace HB := st_ HB hb; (try clear hb); (try clear hb2); (try clear hk); (try clear hi)))
          go_ret
          exact ⟨by first | rfl | (simp [errW_none, errW_some] <;> rfl) | (simp [*, errW_none, errW_some] <;> rfl), l_ HB⟩
        · replace c50 := Bool.eq_false_iff.mpr c50
          subst c50
          have H1 : (some false) = some r := by rw [if_neg (show ¬ (false = true) by decide)] at H; exact H
          clear H
          have H := H1
          clear H1
          obtain rfl := Option.some.inj H
          go_wp2_with (first | ((with_reducible refine gate_callee (f := 13) rfl ?_); refine goesLq_ 41 rfl Try.func13 #[] ?_; (with_reducible refine (cobweblaw06_alive.calls  false _ A49.out).mono ?_); rintro e w52 ⟨rfl, hb⟩; refine ⟨_, rfl, ?_⟩; replace BK101 := bb_ BK101 hb; replace BK102 := bb_ BK102 hb; replace HB := st_ HB hb; (try clear hb); (try clear hb2); (try clear hk); (try clear hi)))
          go_ret
          exact ⟨by first | rfl | (simp [errW_none, errW_some] <;> rfl) | (simp [*, errW_none, errW_some] <;> rfl), l_ HB⟩
      · replace c48 := Bool.eq_false_iff.mpr c48
        subst c48
        have H1 : (if a2 = 268435456 then (cobweblaw06_PixelNear.j1 kj4 t103 true a0_0 a0_1 a0_2 a0_3 (wrap64 ((wrap64 (2 * a1_0)) - a2)) (wrap64 ((wrap64 (2 * a1_1)) - a2)) (wrap64 ((wrap64 (2 * a1_0)) + a2)) (wrap64 ((wrap64 (2 * a1_1)) + a2))) else ((pixel_Near.f a0_0 a0_1 a0_2 a0_3 a1_0 a1_1 (wrap64 (a2 + 1))).bind fun t110 => (cobweblaw06_PixelNear.j1 kj4 t103 t110 a0_0 a0_1 a0_2 a0_3 (wrap64 ((wrap64 (2 * a1_0)) - a2)) (wrap64 ((wrap64 (2 * a1_1)) - a2)) (wrap64 ((wrap64 (2 * a1_0)) + a2)) (wrap64 ((wrap64 (2 * a1_1)) + a2))))) = some r := by rw [if_neg (show ¬ (false = true) by decide)] at H; exact H
        clear H
        have H := H1
        clear H1
        have HC53 := A_ H
        clear H
        try go_wp2
        replace BK101 := A_ (blk_drew BK101.out)
        replace BK102 := A_ (blk_drew BK102.out)
        replace HB := A_ (below_drew1 HB.out)
        refine start_ (n := 26) (S := fun w' => w'.cell? ⟨gb102, 0, none⟩ = some (.int .i64 a1_0) ∧ w'.cell? ⟨gb102, 1, none⟩ = some (.int .i64 a1_1)) (ds := []) (Array.replicate 26 false) (by kernel_rfl) rfl rfl ⟨(blk_cell BK102.out 0).trans rfl, (blk_cell BK102.out 1).trans rfl⟩ (fun hHeld => ?_); refine with_tabW cobweblaw06_PixelNear.tab4 cobweblaw06_PixelNear.bits4 (fun HT_ HW_ => ?_)
        generalize wc.drew = w54 at BK101 BK102 HB hHeld ⊢
        refine pureq_ 0 46 HT_ ?_
        refine pureq_ 3 49 HT_ ?_
        refine pureq_ 5 51 HT_ ?_
        refine pureq_ 8 54 HT_ ?_
        refine pureq_ 11 57 HT_ ?_
        refine pureq_ 14 60 HT_ ?_
        refine pureq_ 16 62 HT_ ?_
        refine pureq_ 19 65 HT_ ?_
        refine takeq_ 1 47 HT_ HW_ hHeld ?_
        refine pureq_ 2 48 HT_ ?_
        refine pureq_ 4 50 HT_ ?_
        refine takeq_ 6 52 HT_ HW_ hHeld ?_
        refine pureq_ 7 53 HT_ ?_
        refine pureq_ 9 55 HT_ ?_
        refine pureq_ 10 56 HT_ ?_
        refine takeq_ 12 58 HT_ HW_ hHeld ?_
        refine pureq_ 13 59 HT_ ?_
        refine pureq_ 15 61 HT_ ?_
        refine takeq_ 17 63 HT_ HW_ hHeld ?_
        refine pureq_ 18 64 HT_ ?_
        refine pureq_ 20 66 HT_ ?_
        refine pureq_ 21 67 HT_ ?_
        refine join_ (σ := Nat × Nat) 2 (bb 26 16777215) (fun s_ => [(8, .pointer (some ⟨s_.1, 0, none⟩)), (9, .pointer (some ⟨s_.2, 0, none⟩))]) (fun s_ w' => (w'.cell? ⟨gb102, 0, none⟩ = some (.int .i64 a1_0) ∧ w'.cell? ⟨gb102, 1, none⟩ = some (.int .i64 a1_1)) ∧ (w'.heap[gb101]? = some (.cells #[.int .i64 a0_0, .int .i64 a0_1, .int .i64 a0_2, .int .i64 a0_3] 24 (0, 0))) ∧ (w'.heap[gb102]? = some (.cells #[.int .i64 a1_0, .int .i64 a1_1] 23 (0, 0))) ∧ (w'.heap[s_.1]? = some (.cells #[.int .i64 0, .int .i64 0] 23 (0, 0))) ∧ (w'.heap[s_.2]? = some (.cells #[.int .i64 0, .int .i64 0] 23 (0, 0))) ∧ (w.heap.size ≤ s_.1) ∧ (w.heap.size ≤ s_.1) ∧ (gb101 ≠ s_.1) ∧ (s_.1 ≠ gb101) ∧ (gb102 ≠ s_.1) ∧ (s_.1 ≠ gb102) ∧ (s_.2 ≠ s_.1) ∧ (s_.1 ≠ s_.2) ∧ (w.heap.size ≤ s_.2) ∧ (w.heap.size ≤ s_.2) ∧ (gb101 ≠ s_.2) ∧ (s_.2 ≠ gb101) ∧ (gb102 ≠ s_.2) ∧ (s_.2 ≠ gb102) ∧ (Below w.heap.size w w')) ?_ ?_
        rotate_left
        · intro hCont
          refine twoq_ 22 23 (some 8) (some 9) HT_ (fun K hK => ?_) (fun K hK => ?_)
          · skip
            refine boxsq_ 8 #[.int .i64 0, .int .i64 0] 23 ?_
            intro gb108 hg w55 hbox hb
            have BK108 := A_ (hbox)
            have GW108 := ge_ HB hg
            replace HB := st_ HB hb
            have GE108 := GW108
            have NB101_108 := ne_ BK101 hg
            replace BK101 := bb_ BK101 hb
            have NB108_101 := A_ NB101_108.out.symm
            have NB102_108 := ne_ BK102 hg
            replace BK102 := bb_ BK102 hb
            have NB108_102 := A_ NB102_108.out.symm
            clear hb hbox hg
            refine hK.out _ _ ⟨(blk_cell BK102.out 0).trans rfl, (blk_cell BK102.out 1).trans rfl⟩ (fun hHeld => ?_)
            clear hK K
            refine normq_ 8 ?_
            refine oneq_ 23 (some 9) HT_ (fun K hK => ?_)
            refine boxsq_ 9 #[.int .i64 0, .int .i64 0] 23 ?_
            intro gb109 hg w56 hbox hb
            have BK109 := A_ (hbox)
            have GW109 := ge_ HB hg
            replace HB := st_ HB hb
            have GE109 := GW109
            have NB101_109 := ne_ BK101 hg
            replace BK101 := bb_ BK101 hb
            have NB109_101 := A_ NB101_109.out.symm
            have NB102_109 := ne_ BK102 hg
            replace BK102 := bb_ BK102 hb
            have NB109_102 := A_ NB102_109.out.symm
            have NB108_109 := ne_ BK108 hg
            replace BK108 := bb_ BK108 hb
            have NB109_108 := A_ NB108_109.out.symm
            clear hb hbox hg
            refine hK.out _ _ ⟨(blk_cell BK102.out 0).trans rfl, (blk_cell BK102.out 1).trans rfl⟩ (fun hHeld => ?_)
            clear hK K
            refine normq_ 9 ?_
            exact normp_ (hCont (gb108, gb109) _ ⟨hHeld, (b_ BK101), (b_ BK102), (b_ BK108), (b_ BK109), GW108.out, GE108.out, NB101_108.out, NB108_101.out, NB102_108.out, NB108_102.out, NB109_108.out, NB108_109.out, GW109.out, GE109.out, NB101_109.out, NB109_101.out, NB102_109.out, NB109_102.out, (l_ HB)⟩)
          · skip
            refine boxsq_ 9 #[.int .i64 0, .int .i64 0] 23 ?_
            intro gb109 hg w55 hbox hb
            have BK109 := A_ (hbox)
            have GW109 := ge_ HB hg
            replace HB := st_ HB hb
            have GE109 := GW109
            have NB101_109 := ne_ BK101 hg
            replace BK101 := bb_ BK101 hb
            have NB109_101 := A_ NB101_109.out.symm
            have NB102_109 := ne_ BK102 hg
            replace BK102 := bb_ BK102 hb
            have NB109_102 := A_ NB102_109.out.symm
            clear hb hbox hg
            refine hK.out _ _ ⟨(blk_cell BK102.out 0).trans rfl, (blk_cell BK102.out 1).trans rfl⟩ (fun hHeld => ?_)
            clear hK K
            refine normq_ 9 ?_
            refine oneq_ 22 (some 8) HT_ (fun K hK => ?_)
            refine boxsq_ 8 #[.int .i64 0, .int .i64 0] 23 ?_
            intro gb108 hg w56 hbox hb
            have BK108 := A_ (hbox)
            have GW108 := ge_ HB hg
            replace HB := st_ HB hb
            have GE108 := GW108
            have NB101_108 := ne_ BK101 hg
            replace BK101 := bb_ BK101 hb
            have NB108_101 := A_ NB101_108.out.symm
            have NB102_108 := ne_ BK102 hg
            replace BK102 := bb_ BK102 hb
            have NB108_102 := A_ NB102_108.out.symm
            have NB109_108 := ne_ BK109 hg
            replace BK109 := bb_ BK109 hb
            have NB108_109 := A_ NB109_108.out.symm
            clear hb hbox hg
            refine hK.out _ _ ⟨(blk_cell BK102.out 0).trans rfl, (blk_cell BK102.out 1).trans rfl⟩ (fun hHeld => ?_)
            clear hK K
            refine normq_ 8 ?_
            exact normp_ (hCont (gb108, gb109) _ ⟨hHeld, (b_ BK101), (b_ BK102), (b_ BK108), (b_ BK109), GW108.out, GE108.out, NB101_108.out, NB108_101.out, NB102_108.out, NB108_102.out, NB109_108.out, NB108_109.out, GW109.out, GE109.out, NB101_109.out, NB109_101.out, NB102_109.out, NB109_102.out, (l_ HB)⟩)
        rintro ⟨gb108, gb109⟩ w57 ⟨hS_, h0_, h1_, h2_, h3_, h4_, h5_, h6_, h7_, h8_, h9_, h10_, h11_, h12_, h13_, h14_, h15_, h16_, h17_, h18_⟩
        have n0_ : Aside0 (w57.heap[gb101]? = some (.cells #[.int .i64 a0_0, .int .i64 a0_1, .int .i64 a0_2, .int .i64 a0_3] 24 (0, 0))) := ⟨h0_⟩
        have n1_ : Aside0 (w57.heap[gb102]? = some (.cells #[.int .i64 a1_0, .int .i64 a1_1] 23 (0, 0))) := ⟨h1_⟩
        have n2_ : Aside0 (w57.heap[gb108]? = some (.cells #[.int .i64 0, .int .i64 0] 23 (0, 0))) := ⟨h2_⟩
        have n3_ : Aside0 (w57.heap[gb109]? = some (.cells #[.int .i64 0, .int .i64 0] 23 (0, 0))) := ⟨h3_⟩
        have n4_ : Aside0 (w.heap.size ≤ gb108) := ⟨h4_⟩
        have n5_ : Aside0 (w.heap.size ≤ gb108) := ⟨h5_⟩
        have n6_ : Aside0 (gb101 ≠ gb108) := ⟨h6_⟩
        have n7_ : Aside0 (gb108 ≠ gb101) := ⟨h7_⟩
        have n8_ : Aside0 (gb102 ≠ gb108) := ⟨h8_⟩
        have n9_ : Aside0 (gb108 ≠ gb102) := ⟨h9_⟩
        have n10_ : Aside0 (gb109 ≠ gb108) := ⟨h10_⟩
        have n11_ : Aside0 (gb108 ≠ gb109) := ⟨h11_⟩
        have n12_ : Aside0 (w.heap.size ≤ gb109) := ⟨h12_⟩
        have n13_ : Aside0 (w.heap.size ≤ gb109) := ⟨h13_⟩
        have n14_ : Aside0 (gb101 ≠ gb109) := ⟨h14_⟩
        have n15_ : Aside0 (gb109 ≠ gb101) := ⟨h15_⟩
        have n16_ : Aside0 (gb102 ≠ gb109) := ⟨h16_⟩
        have n17_ : Aside0 (gb109 ≠ gb102) := ⟨h17_⟩
        have n18_ : Aside0 (Below w.heap.size w w57) := ⟨h18_⟩
        clear BK101 BK102 HB h0_ h1_ h2_ h3_ h4_ h5_ h6_ h7_ h8_ h9_ h10_ h11_ h12_ h13_ h14_ h15_ h16_ h17_ h18_
        have BK101 := n0_
        have BK102 := n1_
        have BK108 := n2_
        have BK109 := n3_
        have GW108 := n4_
        have GE108 := n5_
        have NB101_108 := n6_
        have NB108_101 := n7_
        have NB102_108 := n8_
        have NB108_102 := n9_
        have NB109_108 := n10_
        have NB108_109 := n11_
        have GW109 := n12_
        have GE109 := n13_
        have NB101_109 := n14_
        have NB109_101 := n15_
        have NB102_109 := n16_
        have NB109_102 := n17_
        have HB := n18_
        clear n0_ n1_ n2_ n3_ n4_ n5_ n6_ n7_ n8_ n9_ n10_ n11_ n12_ n13_ n14_ n15_ n16_ n17_ n18_
        have hHeld : w57.cell? ⟨gb102, 0, none⟩ = some (.int .i64 a1_0) ∧ w57.cell? ⟨gb102, 1, none⟩ = some (.int .i64 a1_1) := hS_
        refine norm_ (a' := ?_) ?_ ?_
        rotate_left
        · simp only [putAll, Act.put, List.setIfInBounds_toArray, List.set_cons_zero, List.set_cons_succ]
          rfl
        refine oneq_ 24 none HT_ (fun K hK => ?_)
        have hs58 : w57.cell? ⟨gb108, 0, none⟩ = some (.int .i64 0) := (blk_cell BK108.out 0).trans rfl
        have hfs58 := blk_frozen BK108.out 0
        have hns58_0 := NB101_108.out
        have hns58_1 := NB102_108.out
        have hns58_3 := NB109_108.out
        have hms58_0 := NB108_101.out
        have hms58_1 := NB108_102.out
        have hms58_3 := NB108_109.out
        have hs59 : w57.cell? ⟨gb108, 1, none⟩ = some (.int .i64 0) := (blk_cell BK108.out 1).trans rfl
        have hfs59 := blk_frozen BK108.out 1
        have hns59_0 := NB101_108.out
        have hns59_1 := NB102_108.out
        have hns59_3 := NB109_108.out
        have hms59_0 := NB108_101.out
        have hms59_1 := NB108_102.out
        have hms59_3 := NB108_109.out
        refine skip_ (w1 := ?_) (by rfl) rfl ?_ ?_
        rotate_left
        · go_simp
          rfl
        refine hK.out _ _ ⟨((cell_far (p := ⟨gb108, _, none⟩) NB102_108.out _).trans (((cell_far (p := ⟨gb108, _, none⟩) NB102_108.out _).trans (hHeld.1)))), ((cell_far (p := ⟨gb108, _, none⟩) NB102_108.out _).trans (((cell_far (p := ⟨gb108, _, none⟩) NB102_108.out _).trans (hHeld.2))))⟩ (fun hHeld => ?_)
        clear hK K
        refine oneq_ 25 none HT_ (fun K hK => ?_)
        have hs60 : w57.cell? ⟨gb109, 0, none⟩ = some (.int .i64 0) := (blk_cell BK109.out 0).trans rfl
        have hfs60 := blk_frozen BK109.out 0
        have hns60_0 := NB101_109.out
        have hns60_1 := NB102_109.out
        have hns60_2 := NB108_109.out
        have hms60_0 := NB109_101.out
        have hms60_1 := NB109_102.out
        have hms60_2 := NB109_108.out
        have hs61 : w57.cell? ⟨gb109, 1, none⟩ = some (.int .i64 0) := (blk_cell BK109.out 1).trans rfl
        have hfs61 := blk_frozen BK109.out 1
        have hns61_0 := NB101_109.out
        have hns61_1 := NB102_109.out
        have hns61_2 := NB108_109.out
        have hms61_0 := NB109_101.out
        have hms61_1 := NB109_102.out
        have hms61_2 := NB109_108.out
        refine skip_ (w1 := ?_) (by rfl) rfl ?_ ?_
        rotate_left
        · go_simp
          rfl
        refine hK.out _ _ ⟨((cell_far (p := ⟨gb109, _, none⟩) NB102_109.out _).trans (((cell_far (p := ⟨gb109, _, none⟩) NB102_109.out _).trans (hHeld.1)))), ((cell_far (p := ⟨gb109, _, none⟩) NB102_109.out _).trans (((cell_far (p := ⟨gb109, _, none⟩) NB102_109.out _).trans (hHeld.2))))⟩ (fun hHeld => ?_)
        clear hK K
        refine done_ (done_of HT_.out (by kernel_rfl)) ?_
        go_upto_region 5 with (fail)
        go_cut [10] (fun v10 wc => ∃ (kq : Nat) (x10_52 : Bool), v10 = .bool x10_52 ∧ Aside0 (cobweblaw06_PixelNear.j1 kq t103 x10_52 a0_0 a0_1 a0_2 a0_3 (wrap64 ((wrap64 (2 * a1_0)) - a2)) (wrap64 ((wrap64 (2 * a1_1)) - a2)) (wrap64 ((wrap64 (2 * a1_0)) + a2)) (wrap64 ((wrap64 (2 * a1_1)) + a2)) = some r) ∧ Aside0 (kq ≤ kj4) ∧ Aside0 (wc.heap[gb101]? = some (.cells #[.int .i64 a0_0, .int .i64 a0_1, .int .i64 a0_2, .int .i64 a0_3] 24 (0, 0))) ∧ Aside0 (wc.heap[gb102]? = some (.cells #[.int .i64 a1_0, .int .i64 a1_1] 23 (0, 0))) ∧ Aside0 (wc.heap[gb108]? = some (.cells #[.int .i64 (wrap64 ((wrap64 (2 * a1_0)) - a2)), .int .i64 (wrap64 ((wrap64 (2 * a1_1)) - a2))] 23 (0, 0))) ∧ Aside0 (wc.heap[gb109]? = some (.cells #[.int .i64 (wrap64 ((wrap64 (2 * a1_0)) + a2)), .int .i64 (wrap64 ((wrap64 (2 * a1_1)) + a2))] 23 (0, 0))) ∧ Aside0 (Below w.heap.size w wc))
        case first =>
          have H := HC53.out
          clear HC53
          by_cases c62 : a2 = 268435456
          · rw [if_pos c62] at H
            have c62b0 : (a2 == 268435456) = true := beq_iff_eq.mpr c62
            have c62b1 : (a2 != 268435456) = false := bne_eq_false_iff_eq.mpr c62
            clear c62
            (first | rw [c62b0] | (simp only [i64_w, i32_w]; rw [c62b0]) | skip)
            have H' := A_ H
            clear H
            go_wp2
            go_meet
            case rel => exact ⟨_, (true), (by first | rfl | (simp; done) | (simp [*]; done)), H', ⟨by have := HJ4.out; first | omega | exact Nat.le_refl _⟩, ⟨by (with_reducible repeat (first | refine blk_drewN ?_ _ | refine blk_drew ?_ | refine blk_alloc ?_ _)); refine blk_far ?_ NB101_109.out _; (with_reducible repeat (first | refine blk_drewN ?_ _ | refine blk_drew ?_ | refine blk_alloc ?_ _)); refine blk_far ?_ NB101_109.out _; (with_reducible repeat (first | refine blk_drewN ?_ _ | refine blk_drew ?_ | refine blk_alloc ?_ _)); refine blk_far ?_ NB101_108.out _; (with_reducible repeat (first | refine blk_drewN ?_ _ | refine blk_drew ?_ | refine blk_alloc ?_ _)); refine blk_far ?_ NB101_108.out _; (with_reducible repeat (first | refine blk_drewN ?_ _ | refine blk_drew ?_ | refine blk_alloc ?_ _)); exact BK101.out⟩, ⟨by (with_reducible repeat (first | refine blk_drewN ?_ _ | refine blk_drew ?_ | refine blk_alloc ?_ _)); refine blk_far ?_ NB102_109.out _; (with_reducible repeat (first | refine blk_drewN ?_ _ | refine blk_drew ?_ | refine blk_alloc ?_ _)); refine blk_far ?_ NB102_109.out _; (with_reducible repeat (first | refine blk_drewN ?_ _ | refine blk_drew ?_ | refine blk_alloc ?_ _)); refine blk_far ?_ NB102_108.out _; (with_reducible repeat (first | refine blk_drewN ?_ _ | refine blk_drew ?_ | refine blk_alloc ?_ _)); refine blk_far ?_ NB102_108.out _; (with_reducible repeat (first | refine blk_drewN ?_ _ | refine blk_drew ?_ | refine blk_alloc ?_ _)); exact BK102.out⟩, ⟨by (with_reducible repeat (first | refine blk_drewN ?_ _ | refine blk_drew ?_ | refine blk_alloc ?_ _)); refine blk_far ?_ NB108_109.out _; (with_reducible repeat (first | refine blk_drewN ?_ _ | refine blk_drew ?_ | refine blk_alloc ?_ _)); refine blk_far ?_ NB108_109.out _; (with_reducible repeat (first | refine blk_drewN ?_ _ | refine blk_drew ?_ | refine blk_alloc ?_ _)); refine blk_put (cs := #[.int .i64 (wrap64 ((wrap64 (2 * a1_0)) - a2)), .int .i64 0]) ?_ 1 _ rfl; (with_reducible repeat (first | refine blk_drewN ?_ _ | refine blk_drew ?_ | refine blk_alloc ?_ _)); refine blk_put (cs := #[.int .i64 0, .int .i64 0]) ?_ 0 _ rfl; (with_reducible repeat (first | refine blk_drewN ?_ _ | refine blk_drew ?_ | refine blk_alloc ?_ _)); exact BK108.out⟩, ⟨by (with_reducible repeat (first | refine blk_drewN ?_ _ | refine blk_drew ?_ | refine blk_alloc ?_ _)); refine blk_put (cs := #[.int .i64 (wrap64 ((wrap64 (2 * a1_0)) + a2)), .int .i64 0]) ?_ 1 _ rfl; (with_reducible repeat (first | refine blk_drewN ?_ _ | refine blk_drew ?_ | refine blk_alloc ?_ _)); refine blk_put (cs := #[.int .i64 0, .int .i64 0]) ?_ 0 _ rfl; (with_reducible repeat (first | refine blk_drewN ?_ _ | refine blk_drew ?_ | refine blk_alloc ?_ _)); refine blk_far ?_ NB109_108.out _; (with_reducible repeat (first | refine blk_drewN ?_ _ | refine blk_drew ?_ | refine blk_alloc ?_ _)); refine blk_far ?_ NB109_108.out _; (with_reducible repeat (first | refine blk_drewN ?_ _ | refine blk_drew ?_ | refine blk_alloc ?_ _)); exact BK109.out⟩, ⟨l_ HB⟩⟩
          · rw [if_neg c62] at H
            have c62b0 : (a2 == 268435456) = false := beq_eq_false_iff_ne.mpr c62
            have c62b1 : (a2 != 268435456) = true := bne_iff_ne.mpr c62
            (first | rw [c62b0] | (simp only [i64_w, i32_w]; rw [c62b0]) | skip)
            replace H := Option.bind_eq_some_iff.mp H
            obtain ⟨t110, A630, H⟩ := H
            replace H : (cobweblaw06_PixelNear.j1 kj4 t103 t110 a0_0 a0_1 a0_2 a0_3 (wrap64 ((wrap64 (2 * a1_0)) - a2)) (wrap64 ((wrap64 (2 * a1_1)) - a2)) (wrap64 ((wrap64 (2 * a1_0)) + a2)) (wrap64 ((wrap64 (2 * a1_1)) + a2))) = some r := H
            have A63 := A_ A630
            clear A630
            have H' := A_ H
            clear H
            have hnb64 := NB101_102.out
            have hnc64 := NB102_101.out
            have hnb65 := NB101_108.out
            have hnc65 := NB108_101.out
            have hnb66 := NB101_109.out
            have hnc66 := NB109_101.out
            have hcz67_0 : w57.cell? ⟨gb101, 0, none⟩ = some (.int .i64 a0_0) := (blk_cell BK101.out 0).trans rfl
            have hcz67_1 : w57.cell? ⟨gb101, 1, none⟩ = some (.int .i64 a0_1) := (blk_cell BK101.out 1).trans rfl
            have hcz67_2 : w57.cell? ⟨gb101, 2, none⟩ = some (.int .i64 a0_2) := (blk_cell BK101.out 2).trans rfl
            have hcz67_3 : w57.cell? ⟨gb101, 3, none⟩ = some (.int .i64 a0_3) := (blk_cell BK101.out 3).trans rfl
            have hfz67_0 := blk_frozen BK101.out 0
            have hfz67_1 := blk_frozen BK101.out 1
            have hfz67_2 := blk_frozen BK101.out 2
            have hfz67_3 := blk_frozen BK101.out 3
            have hnb68 := NB102_108.out
            have hnc68 := NB108_102.out
            have hnb69 := NB102_109.out
            have hnc69 := NB109_102.out
            have hcz70_0 : w57.cell? ⟨gb102, 0, none⟩ = some (.int .i64 a1_0) := (blk_cell BK102.out 0).trans rfl
            have hcz70_1 : w57.cell? ⟨gb102, 1, none⟩ = some (.int .i64 a1_1) := (blk_cell BK102.out 1).trans rfl
            have hfz70_0 := blk_frozen BK102.out 0
            have hfz70_1 := blk_frozen BK102.out 1
            go_wp2_with (first | (go_at_call 18; (with_reducible refine (pixel_Near.calls a0_0 a0_1 a0_2 a0_3 a1_0 a1_1 (wrap64 (a2 + 1)) t110 _ A63.out).mono ?_); rintro e w71 ⟨rfl, hb⟩; replace BK101 := A_ (blk_below (g := gb101) (o := .cells #[.int .i64 a0_0, .int .i64 a0_1, .int .i64 a0_2, .int .i64 a0_3] 24 (0, 0)) (by (with_reducible repeat (first | refine blk_drewN ?_ _ | refine blk_drew ?_ | refine blk_alloc ?_ _)); refine blk_far ?_ NB101_109.out _; (with_reducible repeat (first | refine blk_drewN ?_ _ | refine blk_drew ?_ | refine blk_alloc ?_ _)); refine blk_far ?_ NB101_109.out _; (with_reducible repeat (first | refine blk_drewN ?_ _ | refine blk_drew ?_ | refine blk_alloc ?_ _)); refine blk_far ?_ NB101_108.out _; (with_reducible repeat (first | refine blk_drewN ?_ _ | refine blk_drew ?_ | refine blk_alloc ?_ _)); refine blk_far ?_ NB101_108.out _; (with_reducible repeat (first | refine blk_drewN ?_ _ | refine blk_drew ?_ | refine blk_alloc ?_ _)); exact BK101.out) hb); replace BK102 := A_ (blk_below (g := gb102) (o := .cells #[.int .i64 a1_0, .int .i64 a1_1] 23 (0, 0)) (by (with_reducible repeat (first | refine blk_drewN ?_ _ | refine blk_drew ?_ | refine blk_alloc ?_ _)); refine blk_far ?_ NB102_109.out _; (with_reducible repeat (first | refine blk_drewN ?_ _ | refine blk_drew ?_ | refine blk_alloc ?_ _)); refine blk_far ?_ NB102_109.out _; (with_reducible repeat (first | refine blk_drewN ?_ _ | refine blk_drew ?_ | refine blk_alloc ?_ _)); refine blk_far ?_ NB102_108.out _; (with_reducible repeat (first | refine blk_drewN ?_ _ | refine blk_drew ?_ | refine blk_alloc ?_ _)); refine blk_far ?_ NB102_108.out _; (with_reducible repeat (first | refine blk_drewN ?_ _ | refine blk_drew ?_ | refine blk_alloc ?_ _)); exact BK102.out) hb); replace BK108 := A_ (blk_below (g := gb108) (o := .cells #[.int .i64 (wrap64 ((wrap64 (2 * a1_0)) - a2)), .int .i64 (wrap64 ((wrap64 (2 * a1_1)) - a2))] 23 (0, 0)) (by (with_reducible repeat (first | refine blk_drewN ?_ _ | refine blk_drew ?_ | refine blk_alloc ?_ _)); refine blk_far ?_ NB108_109.out _; (with_reducible repeat (first | refine blk_drewN ?_ _ | refine blk_drew ?_ | refine blk_alloc ?_ _)); refine blk_far ?_ NB108_109.out _; (with_reducible repeat (first | refine blk_drewN ?_ _ | refine blk_drew ?_ | refine blk_alloc ?_ _)); refine blk_put (cs := #[.int .i64 (wrap64 ((wrap64 (2 * a1_0)) - a2)), .int .i64 0]) ?_ 1 _ rfl; (with_reducible repeat (first | refine blk_drewN ?_ _ | refine blk_drew ?_ | refine blk_alloc ?_ _)); refine blk_put (cs := #[.int .i64 0, .int .i64 0]) ?_ 0 _ rfl; (with_reducible repeat (first | refine blk_drewN ?_ _ | refine blk_drew ?_ | refine blk_alloc ?_ _)); exact BK108.out) hb); replace BK109 := A_ (blk_below (g := gb109) (o := .cells #[.int .i64 (wrap64 ((wrap64 (2 * a1_0)) + a2)), .int .i64 (wrap64 ((wrap64 (2 * a1_1)) + a2))] 23 (0, 0)) (by (with_reducible repeat (first | refine blk_drewN ?_ _ | refine blk_drew ?_ | refine blk_alloc ?_ _)); refine blk_put (cs := #[.int .i64 (wrap64 ((wrap64 (2 * a1_0)) + a2)), .int .i64 0]) ?_ 1 _ rfl; (with_reducible repeat (first | refine blk_drewN ?_ _ | refine blk_drew ?_ | refine blk_alloc ?_ _)); refine blk_put (cs := #[.int .i64 0, .int .i64 0]) ?_ 0 _ rfl; (with_reducible repeat (first | refine blk_drewN ?_ _ | refine blk_drew ?_ | refine blk_alloc ?_ _)); refine blk_far ?_ NB109_108.out _; (with_reducible repeat (first | refine blk_drewN ?_ _ | refine blk_drew ?_ | refine blk_alloc ?_ _)); refine blk_far ?_ NB109_108.out _; (with_reducible repeat (first | refine blk_drewN ?_ _ | refine blk_drew ?_ | refine blk_alloc ?_ _)); exact BK109.out) hb); replace HB := st_ HB hb; (try clear hb); (try clear hb2); (try clear hk); (try clear hi)))
            go_meet
            case rel => exact ⟨_, (t110), (by first | rfl | (simp; done) | (simp [*]; done)), H', ⟨by have := HJ4.out; first | omega | exact Nat.le_refl _⟩, ⟨b_ BK101⟩, ⟨b_ BK102⟩, ⟨b_ BK108⟩, ⟨b_ BK109⟩, ⟨l_ HB⟩⟩
        case rest =>
          clear HC53
          try clear c1
          try clear p2
          try clear c4
          try clear c5
          try clear c6
          try clear p6
          try clear c13
          try clear c48
          try clear c50
          try clear c62
          try clear c62b0
          try clear c62b1
          try clear c64
          try clear p64
          try clear c65
          try clear c66
          try clear c68
          try clear c69
          try clear hcz46_1
          try clear hcz46_2
          try clear hcz46_3
          try clear hcz67_0
          try clear hcz67_1
          try clear hcz67_2
          try clear hcz67_3
          try clear hcz70_0
          try clear hcz70_1
          try clear hcz9_0
          try clear hcz9_1
          try clear hcz9_2
          try clear hcz9_3
          try clear hfz10_0
          try clear hfz10_1
          try clear hfz20_0
          try clear hfz20_1
          try clear hfz20_2
          try clear hfz20_3
          try clear hfz22_0
          try clear hfz22_1
          try clear hfz22_2
          try clear hfz22_3
          try clear hfz24_0
          try clear hfz24_1
          try clear hfz27_0
          try clear hfz27_1
          try clear hfz27_2
          try clear hfz27_3
          try clear hfz29_0
          try clear hfz29_1
          try clear hfz29_2
          try clear hfz29_3
          try clear hfz31_0
          try clear hfz31_1
          try clear hfz34_0
          try clear hfz34_1
          try clear hfz34_2
          try clear hfz34_3
          try clear hfz36_0
          try clear hfz36_1
          try clear hfz36_2
          try clear hfz36_3
          try clear hfz38_0
          try clear hfz38_1
          try clear hfz41_0
          try clear hfz41_1
          try clear hfz41_2
          try clear hfz41_3
          try clear hfz43_0
          try clear hfz43_1
          try clear hfz43_2
          try clear hfz43_3
          try clear hfz46_0
          try clear hfz46_1
          try clear hfz46_2
          try clear hfz46_3
          try clear hfz67_0
          try clear hfz67_1
          try clear hfz67_2
          try clear hfz67_3
          try clear hfz70_0
          try clear hfz70_1
          try clear hfz9_0
          try clear hfz9_1
          try clear hfz9_2
          try clear hfz9_3
          obtain ⟨kq, x10_52, rfl, HA, HJ52, BK101, BK102, BK108, BK109, HB⟩ := hcut
          cases kq with
          | zero => exact absurd HA.out (by simp [cobweblaw06_PixelNear.j1])
          | succ kj52 =>
            have H := HA.out
            clear HA
            simp only [cobweblaw06_PixelNear.j1] at H
            replace H := Option.bind_eq_some_iff.mp H
            obtain ⟨t111, A720, H⟩ := H
            replace H : (if t111 = true then ((cobwebref06_Meets.f kj52 a0_0 a0_1 a0_2 a0_3 (wrap64 ((wrap64 (2 * a1_0)) - a2)) (wrap64 ((wrap64 (2 * a1_1)) - a2)) (wrap64 ((wrap64 (2 * a1_0)) + a2)) (wrap64 ((wrap64 (2 * a1_1)) + a2)) 1).bind fun t112 => (if (t103 == t112) = true then (if t103 = true then (if x10_52 = true then ((pixel_Near.f a0_0 a0_1 a0_2 a0_3 a0_0 a0_1 0).bind fun t113 => (if t113 = true then ((pixel_Near.f a0_0 a0_1 a0_2 a0_3 a0_2 a0_3 0).bind fun t114 => (some t114)) else (some false))) else (some false)) else ((pixel_Near.f a0_0 a0_1 a0_2 a0_3 a0_0 a0_1 0).bind fun t115 => (if t115 = true then ((pixel_Near.f a0_0 a0_1 a0_2 a0_3 a0_2 a0_3 0).bind fun t116 => (some t116)) else (some false)))) else (some false))) else (some false)) = some r := H
            have A72 := A_ A720
            clear A720
            by_cases c73 : t111 = true
            · subst c73
              have H1 : ((cobwebref06_Meets.f kj52 a0_0 a0_1 a0_2 a0_3 (wrap64 ((wrap64 (2 * a1_0)) - a2)) (wrap64 ((wrap64 (2 * a1_1)) - a2)) (wrap64 ((wrap64 (2 * a1_0)) + a2)) (wrap64 ((wrap64 (2 * a1_1)) + a2)) 1).bind fun t112 => (if (t103 == t112) = true then (if t103 = true then (if x10_52 = true then ((pixel_Near.f a0_0 a0_1 a0_2 a0_3 a0_0 a0_1 0).bind fun t113 => (if t113 = true then ((pixel_Near.f a0_0 a0_1 a0_2 a0_3 a0_2 a0_3 0).bind fun t114 => (some t114)) else (some false))) else (some false)) else ((pixel_Near.f a0_0 a0_1 a0_2 a0_3 a0_0 a0_1 0).bind fun t115 => (if t115 = true then ((pixel_Near.f a0_0 a0_1 a0_2 a0_3 a0_2 a0_3 0).bind fun t116 => (some t116)) else (some false)))) else (some false))) = some r := by rw [if_pos rfl] at H; exact H
              clear H
              have H := H1
              clear H1
              replace H := Option.bind_eq_some_iff.mp H
              obtain ⟨t112, A740, H⟩ := H
              replace H : (if (t103 == t112) = true then (if t103 = true then (if x10_52 = true then ((pixel_Near.f a0_0 a0_1 a0_2 a0_3 a0_0 a0_1 0).bind fun t113 => (if t113 = true then ((pixel_Near.f a0_0 a0_1 a0_2 a0_3 a0_2 a0_3 0).bind fun t114 => (some t114)) else (some false))) else (some false)) else ((pixel_Near.f a0_0 a0_1 a0_2 a0_3 a0_0 a0_1 0).bind fun t115 => (if t115 = true then ((pixel_Near.f a0_0 a0_1 a0_2 a0_3 a0_2 a0_3 0).bind fun t116 => (some t116)) else (some false)))) else (some false)) = some r := H
              have A74 := A_ A740
              clear A740
              by_cases c75 : (t103 == t112) = true
              · rw [if_pos c75] at H
                have c75b0 : (t103 == t112) = true := c75
                (try (have c75b1 : decide (t103 = t112) = true := by simpa using c75))
                (try (have c75b2 : (t103 == t112) = true := by simpa using c75))
                clear c75
                by_cases c76 : t103 = true
                · subst c76
                  have H1 : (if x10_52 = true then ((pixel_Near.f a0_0 a0_1 a0_2 a0_3 a0_0 a0_1 0).bind fun t113 => (if t113 = true then ((pixel_Near.f a0_0 a0_1 a0_2 a0_3 a0_2 a0_3 0).bind fun t114 => (some t114)) else (some false))) else (some false)) = some r := by rw [if_pos rfl] at H; exact H
                  clear H
                  have H := H1
                  clear H1
                  by_cases c77 : x10_52 = true
                  · subst c77
                    have H1 : ((pixel_Near.f a0_0 a0_1 a0_2 a0_3 a0_0 a0_1 0).bind fun t113 => (if t113 = true then ((pixel_Near.f a0_0 a0_1 a0_2 a0_3 a0_2 a0_3 0).bind fun t114 => (some t114)) else (some false))) = some r := by rw [if_pos rfl] at H; exact H
                    clear H
                    have H := H1
                    clear H1
                    replace H := Option.bind_eq_some_iff.mp H
                    obtain ⟨t113, A780, H⟩ := H
                    replace H : (if t113 = true then ((pixel_Near.f a0_0 a0_1 a0_2 a0_3 a0_2 a0_3 0).bind fun t114 => (some t114)) else (some false)) = some r := H
                    have A78 := A_ A780
                    clear A780
                    by_cases c79 : t113 = true
                    · subst c79
                      have H1 : ((pixel_Near.f a0_0 a0_1 a0_2 a0_3 a0_2 a0_3 0).bind fun t114 => (some t114)) = some r := by rw [if_pos rfl] at H; exact H
                      clear H
                      have H := H1
                      clear H1
                      replace H := Option.bind_eq_some_iff.mp H
                      obtain ⟨t114, A800, H⟩ := H
                      replace H : (some t114) = some r := H
                      have A80 := A_ A800
                      clear A800
                      obtain rfl := Option.some.inj H
                      go_wp2_with (first | ((with_reducible refine gate_callee (f := 13) rfl ?_); refine goesLq_ 80 rfl Try.func13 #[] ?_; (with_reducible refine (cobweblaw06_alive.calls  true _ A72.out).mono ?_); rintro e w81 ⟨rfl, hb⟩; refine ⟨_, rfl, ?_⟩; replace BK101 := bb_ BK101 hb; replace BK102 := bb_ BK102 hb; replace BK108 := A_ (blk_below (g := gb108) (o := .cells #[.int .i64 (wrap64 ((wrap64 (2 * a1_0)) - a2)), .int .i64 (wrap64 ((wrap64 (2 * a1_1)) - a2))] 23 (0, 0)) (b_ BK108) hb); replace BK109 := A_ (blk_below (g := gb109) (o := .cells #[.int .i64 (wrap64 ((wrap64 (2 * a1_0)) + a2)), .int .i64 (wrap64 ((wrap64 (2 * a1_1)) + a2))] 23 (0, 0)) (b_ BK109) hb); replace HB := st_ HB hb; (try clear hb); (try clear hb2); (try clear hk); (try clear hi); have hnb82 := NB101_102.out; have hnc82 := NB102_101.out; have hnb83 := NB101_108.out; have hnc83 := NB108_101.out; have hnb84 := NB101_109.out; have hnc84 := NB109_101.out; have hcz85_0 : w81.cell? ⟨gb101, 0, none⟩ = some (.int .i64 a0_0) := (blk_cell BK101.out 0).trans rfl; have hcz85_1 : w81.cell? ⟨gb101, 1, none⟩ = some (.int .i64 a0_1) := (blk_cell BK101.out 1).trans rfl; have hcz85_2 : w81.cell? ⟨gb101, 2, none⟩ = some (.int .i64 a0_2) := (blk_cell BK101.out 2).trans rfl; have hcz85_3 : w81.cell? ⟨gb101, 3, none⟩ = some (.int .i64 a0_3) := (blk_cell BK101.out 3).trans rfl; have hfz85_0 := blk_frozen BK101.out 0; have hfz85_1 := blk_frozen BK101.out 1; have hfz85_2 := blk_frozen BK101.out 2; have hfz85_3 := blk_frozen BK101.out 3; have hnb86 := NB108_102.out; have hnc86 := NB102_108.out; have hnb87 := NB108_109.out; have hnc87 := NB109_108.out; have hcz88_0 : w81.cell? ⟨gb108, 0, none⟩ = some (.int .i64 (wrap64 ((wrap64 (2 * a1_0)) - a2))) := (blk_cell BK108.out 0).trans rfl; have hcz88_1 : w81.cell? ⟨gb108, 1, none⟩ = some (.int .i64 (wrap64 ((wrap64 (2 * a1_1)) - a2))) := (blk_cell BK108.out 1).trans rfl; have hfz88_0 := blk_frozen BK108.out 0; have hfz88_1 := blk_frozen BK108.out 1; have hnb89 := NB109_102.out; have hnc89 := NB102_109.out; have hcz90_0 : w81.cell? ⟨gb109, 0, none⟩ = some (.int .i64 (wrap64 ((wrap64 (2 * a1_0)) + a2))) := (blk_cell BK109.out 0).trans rfl; have hcz90_1 : w81.cell? ⟨gb109, 1, none⟩ = some (.int .i64 (wrap64 ((wrap64 (2 * a1_1)) + a2))) := (blk_cell BK109.out 1).trans rfl; have hfz90_0 := blk_frozen BK109.out 0; have hfz90_1 := blk_frozen BK109.out 1) | (go_at_call 12; (with_reducible refine (cobwebref06_Meets.calls kj52 a0_0 a0_1 a0_2 a0_3 (wrap64 ((wrap64 (2 * a1_0)) - a2)) (wrap64 ((wrap64 (2 * a1_1)) - a2)) (wrap64 ((wrap64 (2 * a1_0)) + a2)) (wrap64 ((wrap64 (2 * a1_1)) + a2)) 1 t112 _ A74.out).mono ?_); rintro e w91 ⟨rfl, hb⟩; replace BK101 := bb_ BK101 hb; replace BK102 := bb_ BK102 hb; replace BK108 := A_ (blk_below (g := gb108) (o := .cells #[.int .i64 (wrap64 ((wrap64 (2 * a1_0)) - a2)), .int .i64 (wrap64 ((wrap64 (2 * a1_1)) - a2))] 23 (0, 0)) (b_ BK108) hb); replace BK109 := A_ (blk_below (g := gb109) (o := .cells #[.int .i64 (wrap64 ((wrap64 (2 * a1_0)) + a2)), .int .i64 (wrap64 ((wrap64 (2 * a1_1)) + a2))] 23 (0, 0)) (b_ BK109) hb); replace HB := st_ HB hb; (try clear hb); (try clear hb2); (try clear hk); (try clear hi); have hcz92_0 : w91.cell? ⟨gb101, 0, none⟩ = some (.int .i64 a0_0) := (blk_cell BK101.out 0).trans rfl; have hcz92_1 : w91.cell? ⟨gb101, 1, none⟩ = some (.int .i64 a0_1) := (blk_cell BK101.out 1).trans rfl; have hcz92_2 : w91.cell? ⟨gb101, 2, none⟩ = some (.int .i64 a0_2) := (blk_cell BK101.out 2).trans rfl; have hcz92_3 : w91.cell? ⟨gb101, 3, none⟩ = some (.int .i64 a0_3) := (blk_cell BK101.out 3).trans rfl; have hfz92_0 := blk_frozen BK101.out 0; have hfz92_1 := blk_frozen BK101.out 1; have hfz92_2 := blk_frozen BK101.out 2; have hfz92_3 := blk_frozen BK101.out 3) | (go_at_call 18; (with_reducible refine (pixel_Near.calls a0_0 a0_1 a0_2 a0_3 a0_0 a0_1 0 true _ A78.out).mono ?_); rintro e w93 ⟨rfl, hb⟩; replace BK101 := bb_ BK101 hb; replace BK102 := bb_ BK102 hb; replace BK108 := A_ (blk_below (g := gb108) (o := .cells #[.int .i64 (wrap64 ((wrap64 (2 * a1_0)) - a2)), .int .i64 (wrap64 ((wrap64 (2 * a1_1)) - a2))] 23 (0, 0)) (b_ BK108) hb); replace BK109 := A_ (blk_below (g := gb109) (o := .cells #[.int .i64 (wrap64 ((wrap64 (2 * a1_0)) + a2)), .int .i64 (wrap64 ((wrap64 (2 * a1_1)) + a2))] 23 (0, 0)) (b_ BK109) hb); replace HB := st_ HB hb; (try clear hb); (try clear hb2); (try clear hk); (try clear hi); have hcz94_0 : w93.cell? ⟨gb101, 0, none⟩ = some (.int .i64 a0_0) := (blk_cell BK101.out 0).trans rfl; have hcz94_1 : w93.cell? ⟨gb101, 1, none⟩ = some (.int .i64 a0_1) := (blk_cell BK101.out 1).trans rfl; have hcz94_2 : w93.cell? ⟨gb101, 2, none⟩ = some (.int .i64 a0_2) := (blk_cell BK101.out 2).trans rfl; have hcz94_3 : w93.cell? ⟨gb101, 3, none⟩ = some (.int .i64 a0_3) := (blk_cell BK101.out 3).trans rfl; have hfz94_0 := blk_frozen BK101.out 0; have hfz94_1 := blk_frozen BK101.out 1; have hfz94_2 := blk_frozen BK101.out 2; have hfz94_3 := blk_frozen BK101.out 3) | (go_at_call 18; (with_reducible refine (pixel_Near.calls a0_0 a0_1 a0_2 a0_3 a0_2 a0_3 0 t114 _ A80.out).mono ?_); rintro e w95 ⟨rfl, hb⟩; replace BK101 := bb_ BK101 hb; replace BK102 := bb_ BK102 hb; replace BK108 := A_ (blk_below (g := gb108) (o := .cells #[.int .i64 (wrap64 ((wrap64 (2 * a1_0)) - a2)), .int .i64 (wrap64 ((wrap64 (2 * a1_1)) - a2))] 23 (0, 0)) (b_ BK108) hb); replace BK109 := A_ (blk_below (g := gb109) (o := .cells #[.int .i64 (wrap64 ((wrap64 (2 * a1_0)) + a2)), .int .i64 (wrap64 ((wrap64 (2 * a1_1)) + a2))] 23 (0, 0)) (b_ BK109) hb); replace HB := st_ HB hb; (try clear hb); (try clear hb2); (try clear hk); (try clear hi)))
                      go_ret
                      exact ⟨by first | rfl | (simp [errW_none, errW_some] <;> rfl) | (simp [*, errW_none, errW_some] <;> rfl), l_ HB⟩
                    · replace c79 := Bool.eq_false_iff.mpr c79
                      subst c79
                      have H1 : (some false) = some r := by rw [if_neg (show ¬ (false = true) by decide)] at H; exact H
                      clear H
                      have H := H1
                      clear H1
                      obtain rfl := Option.some.inj H
                      go_wp2_with (first | ((with_reducible refine gate_callee (f := 13) rfl ?_); refine goesLq_ 80 rfl Try.func13 #[] ?_; (with_reducible refine (cobweblaw06_alive.calls  true _ A72.out).mono ?_); rintro e w96 ⟨rfl, hb⟩; refine ⟨_, rfl, ?_⟩; replace BK101 := bb_ BK101 hb; replace BK102 := bb_ BK102 hb; replace BK108 := A_ (blk_below (g := gb108) (o := .cells #[.int .i64 (wrap64 ((wrap64 (2 * a1_0)) - a2)), .int .i64 (wrap64 ((wrap64 (2 * a1_1)) - a2))] 23 (0, 0)) (b_ BK108) hb); replace BK109 := A_ (blk_below (g := gb109) (o := .cells #[.int .i64 (wrap64 ((wrap64 (2 * a1_0)) + a2)), .int .i64 (wrap64 ((wrap64 (2 * a1_1)) + a2))] 23 (0, 0)) (b_ BK109) hb); replace HB := st_ HB hb; (try clear hb); (try clear hb2); (try clear hk); (try clear hi); have hnb97 := NB101_102.out; have hnc97 := NB102_101.out; have hnb98 := NB101_108.out; have hnc98 := NB108_101.out; have hnb99 := NB101_109.out; have hnc99 := NB109_101.out; have hcz100_0 : w96.cell? ⟨gb101, 0, none⟩ = some (.int .i64 a0_0) := (blk_cell BK101.out 0).trans rfl; have hcz100_1 : w96.cell? ⟨gb101, 1, none⟩ = some (.int .i64 a0_1) := (blk_cell BK101.out 1).trans rfl; have hcz100_2 : w96.cell? ⟨gb101, 2, none⟩ = some (.int .i64 a0_2) := (blk_cell BK101.out 2).trans rfl; have hcz100_3 : w96.cell? ⟨gb101, 3, none⟩ = some (.int .i64 a0_3) := (blk_cell BK101.out 3).trans rfl; have hfz100_0 := blk_frozen BK101.out 0; have hfz100_1 := blk_frozen BK101.out 1; have hfz100_2 := blk_frozen BK101.out 2; have hfz100_3 := blk_frozen BK101.out 3; have hnb101 := NB108_102.out; have hnc101 := NB102_108.out; have hnb102 := NB108_109.out; have hnc102 := NB109_108.out; have hcz103_0 : w96.cell? ⟨gb108, 0, none⟩ = some (.int .i64 (wrap64 ((wrap64 (2 * a1_0)) - a2))) := (blk_cell BK108.out 0).trans rfl; have hcz103_1 : w96.cell? ⟨gb108, 1, none⟩ = some (.int .i64 (wrap64 ((wrap64 (2 * a1_1)) - a2))) := (blk_cell BK108.out 1).trans rfl; have hfz103_0 := blk_frozen BK108.out 0; have hfz103_1 := blk_frozen BK108.out 1; have hnb104 := NB109_102.out; have hnc104 := NB102_109.out; have hcz105_0 : w96.cell? ⟨gb109, 0, none⟩ = some (.int .i64 (wrap64 ((wrap64 (2 * a1_0)) + a2))) := (blk_cell BK109.out 0).trans rfl; have hcz105_1 : w96.cell? ⟨gb109, 1, none⟩ = some (.int .i64 (wrap64 ((wrap64 (2 * a1_1)) + a2))) := (blk_cell BK109.out 1).trans rfl; have hfz105_0 := blk_frozen BK109.out 0; have hfz105_1 := blk_frozen BK109.out 1) | (go_at_call 12; (with_reducible refine (cobwebref06_Meets.calls kj52 a0_0 a0_1 a0_2 a0_3 (wrap64 ((wrap64 (2 * a1_0)) - a2)) (wrap64 ((wrap64 (2 * a1_1)) - a2)) (wrap64 ((wrap64 (2 * a1_0)) + a2)) (wrap64 ((wrap64 (2 * a1_1)) + a2)) 1 t112 _ A74.out).mono ?_); rintro e w106 ⟨rfl, hb⟩; replace BK101 := bb_ BK101 hb; replace BK102 := bb_ BK102 hb; replace BK108 := A_ (blk_below (g := gb108) (o := .cells #[.int .i64 (wrap64 ((wrap64 (2 * a1_0)) - a2)), .int .i64 (wrap64 ((wrap64 (2 * a1_1)) - a2))] 23 (0, 0)) (b_ BK108) hb); replace BK109 := A_ (blk_below (g := gb109) (o := .cells #[.int .i64 (wrap64 ((wrap64 (2 * a1_0)) + a2)), .int .i64 (wrap64 ((wrap64 (2 * a1_1)) + a2))] 23 (0, 0)) (b_ BK109) hb); replace HB := st_ HB hb; (try clear hb); (try clear hb2); (try clear hk); (try clear hi); have hcz107_0 : w106.cell? ⟨gb101, 0, none⟩ = some (.int .i64 a0_0) := (blk_cell BK101.out 0).trans rfl; have hcz107_1 : w106.cell? ⟨gb101, 1, none⟩ = some (.int .i64 a0_1) := (blk_cell BK101.out 1).trans rfl; have hcz107_2 : w106.cell? ⟨gb101, 2, none⟩ = some (.int .i64 a0_2) := (blk_cell BK101.out 2).trans rfl; have hcz107_3 : w106.cell? ⟨gb101, 3, none⟩ = some (.int .i64 a0_3) := (blk_cell BK101.out 3).trans rfl; have hfz107_0 := blk_frozen BK101.out 0; have hfz107_1 := blk_frozen BK101.out 1; have hfz107_2 := blk_frozen BK101.out 2; have hfz107_3 := blk_frozen BK101.out 3) | (go_at_call 18; (with_reducible refine (pixel_Near.calls a0_0 a0_1 a0_2 a0_3 a0_0 a0_1 0 false _ A78.out).mono ?_); rintro e w108 ⟨rfl, hb⟩; replace BK101 := bb_ BK101 hb; replace BK102 := bb_ BK102 hb; replace BK108 := A_ (blk_below (g := gb108) (o := .cells #[.int .i64 (wrap64 ((wrap64 (2 * a1_0)) - a2)), .int .i64 (wrap64 ((wrap64 (2 * a1_1)) - a2))] 23 (0, 0)) (b_ BK108) hb); replace BK109 := A_ (blk_below (g := gb109) (o := .cells #[.int .i64 (wrap64 ((wrap64 (2 * a1_0)) + a2)), .int .i64 (wrap64 ((wrap64 (2 * a1_1)) + a2))] 23 (0, 0)) (b_ BK109) hb); replace HB := st_ HB hb; (try clear hb); (try clear hb2); (try clear hk); (try clear hi)))
                      go_ret
                      exact ⟨by first | rfl | (simp [errW_none, errW_some] <;> rfl) | (simp [*, errW_none, errW_some] <;> rfl), l_ HB⟩
                  · replace c77 := Bool.eq_false_iff.mpr c77
                    subst c77
                    have H1 : (some false) = some r := by rw [if_neg (show ¬ (false = true) by decide)] at H; exact H
                    clear H
                    have H := H1
                    clear H1
                    obtain rfl := Option.some.inj H
                    go_wp2_with (first | ((with_reducible refine gate_callee (f := 13) rfl ?_); refine goesLq_ 80 rfl Try.func13 #[] ?_; (with_reducible refine (cobweblaw06_alive.calls  true _ A72.out).mono ?_); rintro e w109 ⟨rfl, hb⟩; refine ⟨_, rfl, ?_⟩; replace BK101 := bb_ BK101 hb; replace BK102 := bb_ BK102 hb; replace BK108 := A_ (blk_below (g := gb108) (o := .cells #[.int .i64 (wrap64 ((wrap64 (2 * a1_0)) - a2)), .int .i64 (wrap64 ((wrap64 (2 * a1_1)) - a2))] 23 (0, 0)) (b_ BK108) hb); replace BK109 := A_ (blk_below (g := gb109) (o := .cells #[.int .i64 (wrap64 ((wrap64 (2 * a1_0)) + a2)), .int .i64 (wrap64 ((wrap64 (2 * a1_1)) + a2))] 23 (0, 0)) (b_ BK109) hb); replace HB := st_ HB hb; (try clear hb); (try clear hb2); (try clear hk); (try clear hi); have hnb110 := NB101_102.out; have hnc110 := NB102_101.out; have hnb111 := NB101_108.out; have hnc111 := NB108_101.out; have hnb112 := NB101_109.out; have hnc112 := NB109_101.out; have hcz113_0 : w109.cell? ⟨gb101, 0, none⟩ = some (.int .i64 a0_0) := (blk_cell BK101.out 0).trans rfl; have hcz113_1 : w109.cell? ⟨gb101, 1, none⟩ = some (.int .i64 a0_1) := (blk_cell BK101.out 1).trans rfl; have hcz113_2 : w109.cell? ⟨gb101, 2, none⟩ = some (.int .i64 a0_2) := (blk_cell BK101.out 2).trans rfl; have hcz113_3 : w109.cell? ⟨gb101, 3, none⟩ = some (.int .i64 a0_3) := (blk_cell BK101.out 3).trans rfl; have hfz113_0 := blk_frozen BK101.out 0; have hfz113_1 := blk_frozen BK101.out 1; have hfz113_2 := blk_frozen BK101.out 2; have hfz113_3 := blk_frozen BK101.out 3; have hnb114 := NB108_102.out; have hnc114 := NB102_108.out; have hnb115 := NB108_109.out; have hnc115 := NB109_108.out; have hcz116_0 : w109.cell? ⟨gb108, 0, none⟩ = some (.int .i64 (wrap64 ((wrap64 (2 * a1_0)) - a2))) := (blk_cell BK108.out 0).trans rfl; have hcz116_1 : w109.cell? ⟨gb108, 1, none⟩ = some (.int .i64 (wrap64 ((wrap64 (2 * a1_1)) - a2))) := (blk_cell BK108.out 1).trans rfl; have hfz116_0 := blk_frozen BK108.out 0; have hfz116_1 := blk_frozen BK108.out 1; have hnb117 := NB109_102.out; have hnc117 := NB102_109.out; have hcz118_0 : w109.cell? ⟨gb109, 0, none⟩ = some (.int .i64 (wrap64 ((wrap64 (2 * a1_0)) + a2))) := (blk_cell BK109.out 0).trans rfl; have hcz118_1 : w109.cell? ⟨gb109, 1, none⟩ = some (.int .i64 (wrap64 ((wrap64 (2 * a1_1)) + a2))) := (blk_cell BK109.out 1).trans rfl; have hfz118_0 := blk_frozen BK109.out 0; have hfz118_1 := blk_frozen BK109.out 1) | (go_at_call 12; (with_reducible refine (cobwebref06_Meets.calls kj52 a0_0 a0_1 a0_2 a0_3 (wrap64 ((wrap64 (2 * a1_0)) - a2)) (wrap64 ((wrap64 (2 * a1_1)) - a2)) (wrap64 ((wrap64 (2 * a1_0)) + a2)) (wrap64 ((wrap64 (2 * a1_1)) + a2)) 1 t112 _ A74.out).mono ?_); rintro e w119 ⟨rfl, hb⟩; replace BK101 := bb_ BK101 hb; replace BK102 := bb_ BK102 hb; replace BK108 := A_ (blk_below (g := gb108) (o := .cells #[.int .i64 (wrap64 ((wrap64 (2 * a1_0)) - a2)), .int .i64 (wrap64 ((wrap64 (2 * a1_1)) - a2))] 23 (0, 0)) (b_ BK108) hb); replace BK109 := A_ (blk_below (g := gb109) (o := .cells #[.int .i64 (wrap64 ((wrap64 (2 * a1_0)) + a2)), .int .i64 (wrap64 ((wrap64 (2 * a1_1)) + a2))] 23 (0, 0)) (b_ BK109) hb); replace HB := st_ HB hb; (try clear hb); (try clear hb2); (try clear hk); (try clear hi)))
                    go_ret
                    exact ⟨by first | rfl | (simp [errW_none, errW_some] <;> rfl) | (simp [*, errW_none, errW_some] <;> rfl), l_ HB⟩
                · replace c76 := Bool.eq_false_iff.mpr c76
                  subst c76
                  have H1 : ((pixel_Near.f a0_0 a0_1 a0_2 a0_3 a0_0 a0_1 0).bind fun t115 => (if t115 = true then ((pixel_Near.f a0_0 a0_1 a0_2 a0_3 a0_2 a0_3 0).bind fun t116 => (some t116)) else (some false))) = some r := by rw [if_neg (show ¬ (false = true) by decide)] at H; exact H
                  clear H
                  have H := H1
                  clear H1
                  replace H := Option.bind_eq_some_iff.mp H
                  obtain ⟨t115, A1200, H⟩ := H
                  replace H : (if t115 = true then ((pixel_Near.f a0_0 a0_1 a0_2 a0_3 a0_2 a0_3 0).bind fun t116 => (some t116)) else (some false)) = some r := H
                  have A120 := A_ A1200
                  clear A1200
                  by_cases c121 : t115 = true
                  · subst c121
                    have H1 : ((pixel_Near.f a0_0 a0_1 a0_2 a0_3 a0_2 a0_3 0).bind fun t116 => (some t116)) = some r := by rw [if_pos rfl] at H; exact H
                    clear H
                    have H := H1
                    clear H1
                    replace H := Option.bind_eq_some_iff.mp H
                    obtain ⟨t116, A1220, H⟩ := H
                    replace H : (some t116) = some r := H
                    have A122 := A_ A1220
                    clear A1220
                    obtain rfl := Option.some.inj H
                    go_wp2_with (first | ((with_reducible refine gate_callee (f := 13) rfl ?_); refine goesLq_ 80 rfl Try.func13 #[] ?_; (with_reducible refine (cobweblaw06_alive.calls  true _ A72.out).mono ?_); rintro e w123 ⟨rfl, hb⟩; refine ⟨_, rfl, ?_⟩; replace BK101 := bb_ BK101 hb; replace BK102 := bb_ BK102 hb; replace BK108 := A_ (blk_below (g := gb108) (o := .cells #[.int .i64 (wrap64 ((wrap64 (2 * a1_0)) - a2)), .int .i64 (wrap64 ((wrap64 (2 * a1_1)) - a2))] 23 (0, 0)) (b_ BK108) hb); replace BK109 := A_ (blk_below (g := gb109) (o := .cells #[.int .i64 (wrap64 ((wrap64 (2 * a1_0)) + a2)), .int .i64 (wrap64 ((wrap64 (2 * a1_1)) + a2))] 23 (0, 0)) (b_ BK109) hb); replace HB := st_ HB hb; (try clear hb); (try clear hb2); (try clear hk); (try clear hi); have hnb124 := NB101_102.out; have hnc124 := NB102_101.out; have hnb125 := NB101_108.out; have hnc125 := NB108_101.out; have hnb126 := NB101_109.out; have hnc126 := NB109_101.out; have hcz127_0 : w123.cell? ⟨gb101, 0, none⟩ = some (.int .i64 a0_0) := (blk_cell BK101.out 0).trans rfl; have hcz127_1 : w123.cell? ⟨gb101, 1, none⟩ = some (.int .i64 a0_1) := (blk_cell BK101.out 1).trans rfl; have hcz127_2 : w123.cell? ⟨gb101, 2, none⟩ = some (.int .i64 a0_2) := (blk_cell BK101.out 2).trans rfl; have hcz127_3 : w123.cell? ⟨gb101, 3, none⟩ = some (.int .i64 a0_3) := (blk_cell BK101.out 3).trans rfl; have hfz127_0 := blk_frozen BK101.out 0; have hfz127_1 := blk_frozen BK101.out 1; have hfz127_2 := blk_frozen BK101.out 2; have hfz127_3 := blk_frozen BK101.out 3; have hnb128 := NB108_102.out; have hnc128 := NB102_108.out; have hnb129 := NB108_109.out; have hnc129 := NB109_108.out; have hcz130_0 : w123.cell? ⟨gb108, 0, none⟩ = some (.int .i64 (wrap64 ((wrap64 (2 * a1_0)) - a2))) := (blk_cell BK108.out 0).trans rfl; have hcz130_1 : w123.cell? ⟨gb108, 1, none⟩ = some (.int .i64 (wrap64 ((wrap64 (2 * a1_1)) - a2))) := (blk_cell BK108.out 1).trans rfl; have hfz130_0 := blk_frozen BK108.out 0; have hfz130_1 := blk_frozen BK108.out 1; have hnb131 := NB109_102.out; have hnc131 := NB102_109.out; have hcz132_0 : w123.cell? ⟨gb109, 0, none⟩ = some (.int .i64 (wrap64 ((wrap64 (2 * a1_0)) + a2))) := (blk_cell BK109.out 0).trans rfl; have hcz132_1 : w123.cell? ⟨gb109, 1, none⟩ = some (.int .i64 (wrap64 ((wrap64 (2 * a1_1)) + a2))) := (blk_cell BK109.out 1).trans rfl; have hfz132_0 := blk_frozen BK109.out 0; have hfz132_1 := blk_frozen BK109.out 1) | (go_at_call 12; (with_reducible refine (cobwebref06_Meets.calls kj52 a0_0 a0_1 a0_2 a0_3 (wrap64 ((wrap64 (2 * a1_0)) - a2)) (wrap64 ((wrap64 (2 * a1_1)) - a2)) (wrap64 ((wrap64 (2 * a1_0)) + a2)) (wrap64 ((wrap64 (2 * a1_1)) + a2)) 1 t112 _ A74.out).mono ?_); rintro e w133 ⟨rfl, hb⟩; replace BK101 := bb_ BK101 hb; replace BK102 := bb_ BK102 hb; replace BK108 := A_ (blk_below (g := gb108) (o := .cells #[.int .i64 (wrap64 ((wrap64 (2 * a1_0)) - a2)), .int .i64 (wrap64 ((wrap64 (2 * a1_1)) - a2))] 23 (0, 0)) (b_ BK108) hb); replace BK109 := A_ (blk_below (g := gb109) (o := .cells #[.int .i64 (wrap64 ((wrap64 (2 * a1_0)) + a2)), .int .i64 (wrap64 ((wrap64 (2 * a1_1)) + a2))] 23 (0, 0)) (b_ BK109) hb); replace HB := st_ HB hb; (try clear hb); (try clear hb2); (try clear hk); (try clear hi); have hcz134_0 : w133.cell? ⟨gb101, 0, none⟩ = some (.int .i64 a0_0) := (blk_cell BK101.out 0).trans rfl; have hcz134_1 : w133.cell? ⟨gb101, 1, none⟩ = some (.int .i64 a0_1) := (blk_cell BK101.out 1).trans rfl; have hcz134_2 : w133.cell? ⟨gb101, 2, none⟩ = some (.int .i64 a0_2) := (blk_cell BK101.out 2).trans rfl; have hcz134_3 : w133.cell? ⟨gb101, 3, none⟩ = some (.int .i64 a0_3) := (blk_cell BK101.out 3).trans rfl; have hfz134_0 := blk_frozen BK101.out 0; have hfz134_1 := blk_frozen BK101.out 1; have hfz134_2 := blk_frozen BK101.out 2; have hfz134_3 := blk_frozen BK101.out 3) | (go_at_call 18; (with_reducible refine (pixel_Near.calls a0_0 a0_1 a0_2 a0_3 a0_0 a0_1 0 true _ A120.out).mono ?_); rintro e w135 ⟨rfl, hb⟩; replace BK101 := bb_ BK101 hb; replace BK102 := bb_ BK102 hb; replace BK108 := A_ (blk_below (g := gb108) (o := .cells #[.int .i64 (wrap64 ((wrap64 (2 * a1_0)) - a2)), .int .i64 (wrap64 ((wrap64 (2 * a1_1)) - a2))] 23 (0, 0)) (b_ BK108) hb); replace BK109 := A_ (blk_below (g := gb109) (o := .cells #[.int .i64 (wrap64 ((wrap64 (2 * a1_0)) + a2)), .int .i64 (wrap64 ((wrap64 (2 * a1_1)) + a2))] 23 (0, 0)) (b_ BK109) hb); replace HB := st_ HB hb; (try clear hb); (try clear hb2); (try clear hk); (try clear hi); have hcz136_0 : w135.cell? ⟨gb101, 0, none⟩ = some (.int .i64 a0_0) := (blk_cell BK101.out 0).trans rfl; have hcz136_1 : w135.cell? ⟨gb101, 1, none⟩ = some (.int .i64 a0_1) := (blk_cell BK101.out 1).trans rfl; have hcz136_2 : w135.cell? ⟨gb101, 2, none⟩ = some (.int .i64 a0_2) := (blk_cell BK101.out 2).trans rfl; have hcz136_3 : w135.cell? ⟨gb101, 3, none⟩ = some (.int .i64 a0_3) := (blk_cell BK101.out 3).trans rfl; have hfz136_0 := blk_frozen BK101.out 0; have hfz136_1 := blk_frozen BK101.out 1; have hfz136_2 := blk_frozen BK101.out 2; have hfz136_3 := blk_frozen BK101.out 3) | (go_at_call 18; (with_reducible refine (pixel_Near.calls a0_0 a0_1 a0_2 a0_3 a0_2 a0_3 0 t116 _ A122.out).mono ?_); rintro e w137 ⟨rfl, hb⟩; replace BK101 := bb_ BK101 hb; replace BK102 := bb_ BK102 hb; replace BK108 := A_ (blk_below (g := gb108) (o := .cells #[.int .i64 (wrap64 ((wrap64 (2 * a1_0)) - a2)), .int .i64 (wrap64 ((wrap64 (2 * a1_1)) - a2))] 23 (0, 0)) (b_ BK108) hb); replace BK109 := A_ (blk_below (g := gb109) (o := .cells #[.int .i64 (wrap64 ((wrap64 (2 * a1_0)) + a2)), .int .i64 (wrap64 ((wrap64 (2 * a1_1)) + a2))] 23 (0, 0)) (b_ BK109) hb); replace HB := st_ HB hb; (try clear hb); (try clear hb2); (try clear hk); (try clear hi)))
                    go_ret
                    exact ⟨by first | rfl | (simp [errW_none, errW_some] <;> rfl) | (simp [*, errW_none, errW_some] <;> rfl), l_ HB⟩
                  · replace c121 := Bool.eq_false_iff.mpr c121
                    subst c121
                    have H1 : (some false) = some r := by rw [if_neg (show ¬ (false = true) by decide)] at H; exact H
                    clear H
                    have H := H1
                    clear H1
                    obtain rfl := Option.some.inj H
                    go_wp2_with (first | ((with_reducible refine gate_callee (f := 13) rfl ?_); refine goesLq_ 80 rfl Try.func13 #[] ?_; (with_reducible refine (cobweblaw06_alive.calls  true _ A72.out).mono ?_); rintro e w138 ⟨rfl, hb⟩; refine ⟨_, rfl, ?_⟩; replace BK101 := bb_ BK101 hb; replace BK102 := bb_ BK102 hb; replace BK108 := A_ (blk_below (g := gb108) (o := .cells #[.int .i64 (wrap64 ((wrap64 (2 * a1_0)) - a2)), .int .i64 (wrap64 ((wrap64 (2 * a1_1)) - a2))] 23 (0, 0)) (b_ BK108) hb); replace BK109 := A_ (blk_below (g := gb109) (o := .cells #[.int .i64 (wrap64 ((wrap64 (2 * a1_0)) + a2)), .int .i64 (wrap64 ((wrap64 (2 * a1_1)) + a2))] 23 (0, 0)) (b_ BK109) hb); replace HB := st_ HB hb; (try clear hb); (try clear hb2); (try clear hk); (try clear hi); have hnb139 := NB101_102.out; have hnc139 := NB102_101.out; have hnb140 := NB101_108.out; have hnc140 := NB108_101.out; have hnb141 := NB101_109.out; have hnc141 := NB109_101.out; have hcz142_0 : w138.cell? ⟨gb101, 0, none⟩ = some (.int .i64 a0_0) := (blk_cell BK101.out 0).trans rfl; have hcz142_1 : w138.cell? ⟨gb101, 1, none⟩ = some (.int .i64 a0_1) := (blk_cell BK101.out 1).trans rfl; have hcz142_2 : w138.cell? ⟨gb101, 2, none⟩ = some (.int .i64 a0_2) := (blk_cell BK101.out 2).trans rfl; have hcz142_3 : w138.cell? ⟨gb101, 3, none⟩ = some (.int .i64 a0_3) := (blk_cell BK101.out 3).trans rfl; have hfz142_0 := blk_frozen BK101.out 0; have hfz142_1 := blk_frozen BK101.out 1; have hfz142_2 := blk_frozen BK101.out 2; have hfz142_3 := blk_frozen BK101.out 3; have hnb143 := NB108_102.out; have hnc143 := NB102_108.out; have hnb144 := NB108_109.out; have hnc144 := NB109_108.out; have hcz145_0 : w138.cell? ⟨gb108, 0, none⟩ = some (.int .i64 (wrap64 ((wrap64 (2 * a1_0)) - a2))) := (blk_cell BK108.out 0).trans rfl; have hcz145_1 : w138.cell? ⟨gb108, 1, none⟩ = some (.int .i64 (wrap64 ((wrap64 (2 * a1_1)) - a2))) := (blk_cell BK108.out 1).trans rfl; have hfz145_0 := blk_frozen BK108.out 0; have hfz145_1 := blk_frozen BK108.out 1; have hnb146 := NB109_102.out; have hnc146 := NB102_109.out; have hcz147_0 : w138.cell? ⟨gb109, 0, none⟩ = some (.int .i64 (wrap64 ((wrap64 (2 * a1_0)) + a2))) := (blk_cell BK109.out 0).trans rfl; have hcz147_1 : w138.cell? ⟨gb109, 1, none⟩ = some (.int .i64 (wrap64 ((wrap64 (2 * a1_1)) + a2))) := (blk_cell BK109.out 1).trans rfl; have hfz147_0 := blk_frozen BK109.out 0; have hfz147_1 := blk_frozen BK109.out 1) | (go_at_call 12; (with_reducible refine (cobwebref06_Meets.calls kj52 a0_0 a0_1 a0_2 a0_3 (wrap64 ((wrap64 (2 * a1_0)) - a2)) (wrap64 ((wrap64 (2 * a1_1)) - a2)) (wrap64 ((wrap64 (2 * a1_0)) + a2)) (wrap64 ((wrap64 (2 * a1_1)) + a2)) 1 t112 _ A74.out).mono ?_); rintro e w148 ⟨rfl, hb⟩; replace BK101 := bb_ BK101 hb; replace BK102 := bb_ BK102 hb; replace BK108 := A_ (blk_below (g := gb108) (o := .cells #[.int .i64 (wrap64 ((wrap64 (2 * a1_0)) - a2)), .int .i64 (wrap64 ((wrap64 (2 * a1_1)) - a2))] 23 (0, 0)) (b_ BK108) hb); replace BK109 := A_ (blk_below (g := gb109) (o := .cells #[.int .i64 (wrap64 ((wrap64 (2 * a1_0)) + a2)), .int .i64 (wrap64 ((wrap64 (2 * a1_1)) + a2))] 23 (0, 0)) (b_ BK109) hb); replace HB := st_ HB hb; (try clear hb); (try clear hb2); (try clear hk); (try clear hi); have hcz149_0 : w148.cell? ⟨gb101, 0, none⟩ = some (.int .i64 a0_0) := (blk_cell BK101.out 0).trans rfl; have hcz149_1 : w148.cell? ⟨gb101, 1, none⟩ = some (.int .i64 a0_1) := (blk_cell BK101.out 1).trans rfl; have hcz149_2 : w148.cell? ⟨gb101, 2, none⟩ = some (.int .i64 a0_2) := (blk_cell BK101.out 2).trans rfl; have hcz149_3 : w148.cell? ⟨gb101, 3, none⟩ = some (.int .i64 a0_3) := (blk_cell BK101.out 3).trans rfl; have hfz149_0 := blk_frozen BK101.out 0; have hfz149_1 := blk_frozen BK101.out 1; have hfz149_2 := blk_frozen BK101.out 2; have hfz149_3 := blk_frozen BK101.out 3) | (go_at_call 18; (with_reducible refine (pixel_Near.calls a0_0 a0_1 a0_2 a0_3 a0_0 a0_1 0 false _ A120.out).mono ?_); rintro e w150 ⟨rfl, hb⟩; replace BK101 := bb_ BK101 hb; replace BK102 := bb_ BK102 hb; replace BK108 := A_ (blk_below (g := gb108) (o := .cells #[.int .i64 (wrap64 ((wrap64 (2 * a1_0)) - a2)), .int .i64 (wrap64 ((wrap64 (2 * a1_1)) - a2))] 23 (0, 0)) (b_ BK108) hb); replace BK109 := A_ (blk_below (g := gb109) (o := .cells #[.int .i64 (wrap64 ((wrap64 (2 * a1_0)) + a2)), .int .i64 (wrap64 ((wrap64 (2 * a1_1)) + a2))] 23 (0, 0)) (b_ BK109) hb); replace HB := st_ HB hb; (try clear hb); (try clear hb2); (try clear hk); (try clear hi)))
                    go_ret
                    exact ⟨by first | rfl | (simp [errW_none, errW_some] <;> rfl) | (simp [*, errW_none, errW_some] <;> rfl), l_ HB⟩
              · rw [if_neg c75] at H
                have c75b0 : (t103 == t112) = false := by simpa using c75
                (try (have c75b1 : decide (t103 = t112) = false := by simpa using c75))
                (try (have c75b2 : (t103 == t112) = false := by simpa using c75))
                (try (have c75b3 : ¬ (t103 = t112) := by simpa using c75))
                clear c75
                obtain rfl := Option.some.inj H
                go_wp2_with (first | ((with_reducible refine gate_callee (f := 13) rfl ?_); refine goesLq_ 80 rfl Try.func13 #[] ?_; (with_reducible refine (cobweblaw06_alive.calls  true _ A72.out).mono ?_); rintro e w151 ⟨rfl, hb⟩; refine ⟨_, rfl, ?_⟩; replace BK101 := bb_ BK101 hb; replace BK102 := bb_ BK102 hb; replace BK108 := A_ (blk_below (g := gb108) (o := .cells #[.int .i64 (wrap64 ((wrap64 (2 * a1_0)) - a2)), .int .i64 (wrap64 ((wrap64 (2 * a1_1)) - a2))] 23 (0, 0)) (b_ BK108) hb); replace BK109 := A_ (blk_below (g := gb109) (o := .cells #[.int .i64 (wrap64 ((wrap64 (2 * a1_0)) + a2)), .int .i64 (wrap64 ((wrap64 (2 * a1_1)) + a2))] 23 (0, 0)) (b_ BK109) hb); replace HB := st_ HB hb; (try clear hb); (try clear hb2); (try clear hk); (try clear hi); have hnb152 := NB101_102.out; have hnc152 := NB102_101.out; have hnb153 := NB101_108.out; have hnc153 := NB108_101.out; have hnb154 := NB101_109.out; have hnc154 := NB109_101.out; have hcz155_0 : w151.cell? ⟨gb101, 0, none⟩ = some (.int .i64 a0_0) := (blk_cell BK101.out 0).trans rfl; have hcz155_1 : w151.cell? ⟨gb101, 1, none⟩ = some (.int .i64 a0_1) := (blk_cell BK101.out 1).trans rfl; have hcz155_2 : w151.cell? ⟨gb101, 2, none⟩ = some (.int .i64 a0_2) := (blk_cell BK101.out 2).trans rfl; have hcz155_3 : w151.cell? ⟨gb101, 3, none⟩ = some (.int .i64 a0_3) := (blk_cell BK101.out 3).trans rfl; have hfz155_0 := blk_frozen BK101.out 0; have hfz155_1 := blk_frozen BK101.out 1; have hfz155_2 := blk_frozen BK101.out 2; have hfz155_3 := blk_frozen BK101.out 3; have hnb156 := NB108_102.out; have hnc156 := NB102_108.out; have hnb157 := NB108_109.out; have hnc157 := NB109_108.out; have hcz158_0 : w151.cell? ⟨gb108, 0, none⟩ = some (.int .i64 (wrap64 ((wrap64 (2 * a1_0)) - a2))) := (blk_cell BK108.out 0).trans rfl; have hcz158_1 : w151.cell? ⟨gb108, 1, none⟩ = some (.int .i64 (wrap64 ((wrap64 (2 * a1_1)) - a2))) := (blk_cell BK108.out 1).trans rfl; have hfz158_0 := blk_frozen BK108.out 0; have hfz158_1 := blk_frozen BK108.out 1; have hnb159 := NB109_102.out; have hnc159 := NB102_109.out; have hcz160_0 : w151.cell? ⟨gb109, 0, none⟩ = some (.int .i64 (wrap64 ((wrap64 (2 * a1_0)) + a2))) := (blk_cell BK109.out 0).trans rfl; have hcz160_1 : w151.cell? ⟨gb109, 1, none⟩ = some (.int .i64 (wrap64 ((wrap64 (2 * a1_1)) + a2))) := (blk_cell BK109.out 1).trans rfl; have hfz160_0 := blk_frozen BK109.out 0; have hfz160_1 := blk_frozen BK109.out 1) | (go_at_call 12; (with_reducible refine (cobwebref06_Meets.calls kj52 a0_0 a0_1 a0_2 a0_3 (wrap64 ((wrap64 (2 * a1_0)) - a2)) (wrap64 ((wrap64 (2 * a1_1)) - a2)) (wrap64 ((wrap64 (2 * a1_0)) + a2)) (wrap64 ((wrap64 (2 * a1_1)) + a2)) 1 t112 _ A74.out).mono ?_); rintro e w161 ⟨rfl, hb⟩; replace BK101 := bb_ BK101 hb; replace BK102 := bb_ BK102 hb; replace BK108 := A_ (blk_below (g := gb108) (o := .cells #[.int .i64 (wrap64 ((wrap64 (2 * a1_0)) - a2)), .int .i64 (wrap64 ((wrap64 (2 * a1_1)) - a2))] 23 (0, 0)) (b_ BK108) hb); replace BK109 := A_ (blk_below (g := gb109) (o := .cells #[.int .i64 (wrap64 ((wrap64 (2 * a1_0)) + a2)), .int .i64 (wrap64 ((wrap64 (2 * a1_1)) + a2))] 23 (0, 0)) (b_ BK109) hb); replace HB := st_ HB hb; (try clear hb); (try clear hb2); (try clear hk); (try clear hi)))
                go_ret
                exact ⟨by first | rfl | (simp [errW_none, errW_some] <;> rfl) | (simp [*, errW_none, errW_some] <;> rfl), l_ HB⟩
            · replace c73 := Bool.eq_false_iff.mpr c73
              subst c73
              have H1 : (some false) = some r := by rw [if_neg (show ¬ (false = true) by decide)] at H; exact H
              clear H
              have H := H1
              clear H1
              obtain rfl := Option.some.inj H
              go_wp2_with (first | ((with_reducible refine gate_callee (f := 13) rfl ?_); refine goesLq_ 80 rfl Try.func13 #[] ?_; (with_reducible refine (cobweblaw06_alive.calls  false _ A72.out).mono ?_); rintro e w162 ⟨rfl, hb⟩; refine ⟨_, rfl, ?_⟩; replace BK101 := bb_ BK101 hb; replace BK102 := bb_ BK102 hb; replace BK108 := A_ (blk_below (g := gb108) (o := .cells #[.int .i64 (wrap64 ((wrap64 (2 * a1_0)) - a2)), .int .i64 (wrap64 ((wrap64 (2 * a1_1)) - a2))] 23 (0, 0)) (b_ BK108) hb); replace BK109 := A_ (blk_below (g := gb109) (o := .cells #[.int .i64 (wrap64 ((wrap64 (2 * a1_0)) + a2)), .int .i64 (wrap64 ((wrap64 (2 * a1_1)) + a2))] 23 (0, 0)) (b_ BK109) hb); replace HB := st_ HB hb; (try clear hb); (try clear hb2); (try clear hk); (try clear hi)))
              go_ret
              exact ⟨by first | rfl | (simp [errW_none, errW_some] <;> rfl) | (simp [*, errW_none, errW_some] <;> rfl), l_ HB⟩

end Go.Proofs.Ytglkjeeiiflpjaa.F
