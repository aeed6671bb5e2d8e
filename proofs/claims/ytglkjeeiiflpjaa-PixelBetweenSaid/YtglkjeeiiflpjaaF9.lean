-- PRINTED by print.py (a twelfth state) out of the translation. Not trusted: Lean checks it.
import Derived.Test.YtglkjeeiiflpjaaF0
import Derived.Test.YtglkjeeiiflpjaaB3
import Derived.Test.YtglkjeeiiflpjaaF14
import Derived.Test.YtglkjeeiiflpjaaF15
import Derived.Test.YtglkjeeiiflpjaaF16
import Derived.Test.YtglkjeeiiflpjaaF19
import Derived.Test.YtglkjeeiiflpjaaF21
import Derived.Test.YtglkjeeiiflpjaaHAlive06
namespace Go.Proofs.Ytglkjeeiiflpjaa.F
open Go.RowKit Go.Proofs.YtglkjeeiiflpjaaW.PrintWords Go.Proofs.YtglkjeeiiflpjaaW.PrintLast Go.Proofs.YtglkjeeiiflpjaaW.PrintMore
attribute [local go_sem] max2_int min2_int max_two min_two max_three min_three max_four min_four   -- for this text's walks alone
set_option linter.unusedVariables false
set_option linter.unusedSimpArgs false

/-! ### cobweblaw06_PixelBetween: function 9 -/
mutual
def cobweblaw06_PixelBetween.j0 : Nat → Int → Bool → Int → Int → Int → Int → Int → Int → Option (Bool)
 | 0, _, _, _, _, _, _, _, _ => none
 | k + 1, x2, x25, x102000, x102001, x102002, x102003, x103000, x103001 => if x25 = true then ((cobweblaw06_alive.f).bind fun t106 => (some t106)) else ((grid_Of.f x102000 x102001 x2).bind fun bt107 => ((grid_Of.f x102002 x102003 x2).bind fun bt109 => (if (mn bt107.1 bt109.1) ≤ x103000 then (if x103000 ≤ (mx bt107.1 bt109.1) then (if (mn bt107.2 bt109.2) ≤ x103001 then (cobweblaw06_PixelBetween.j1 k x2 (decide (x103001 ≤ (mx bt107.2 bt109.2))) x102000 x102001 x102002 x102003 x103000 x103001 bt107.1 bt107.2 bt109.1 bt109.2) else (cobweblaw06_PixelBetween.j1 k x2 false x102000 x102001 x102002 x102003 x103000 x103001 bt107.1 bt107.2 bt109.1 bt109.2)) else (cobweblaw06_PixelBetween.j1 k x2 false x102000 x102001 x102002 x102003 x103000 x103001 bt107.1 bt107.2 bt109.1 bt109.2)) else (cobweblaw06_PixelBetween.j1 k x2 false x102000 x102001 x102002 x102003 x103000 x103001 bt107.1 bt107.2 bt109.1 bt109.2))))
def cobweblaw06_PixelBetween.j1 : Nat → Int → Bool → Int → Int → Int → Int → Int → Int → Int → Int → Int → Int → Option (Bool)
 | 0, _, _, _, _, _, _, _, _, _, _, _, _ => none
 | k + 1, x2, x9, x102000, x102001, x102002, x102003, x103000, x103001, x112000, x112001, x113000, x113001 => (pixel_Hits.f k x102000 x102001 x102002 x102003 x103000 x103001 x2).bind fun t113 => (if t113 = true then (cobweblaw06_PixelBetween.j2 k x2 (!x9) x102000 x102001 x102002 x102003 x112000 x112001 x113000 x113001) else (cobweblaw06_PixelBetween.j2 k x2 false x102000 x102001 x102002 x102003 x112000 x112001 x113000 x113001))
def cobweblaw06_PixelBetween.j2 : Nat → Int → Bool → Int → Int → Int → Int → Int → Int → Int → Int → Option (Bool)
 | 0, _, _, _, _, _, _, _, _, _, _ => none
 | k + 1, x2, x83, x102000, x102001, x102002, x102003, x112000, x112001, x113000, x113001 => if x83 = true then (some false) else ((cobweblaw06_alive.f).bind fun t114 => (if t114 = true then ((pixel_Hits.f k x102000 x102001 x102002 x102003 x112000 x112001 x2).bind fun t115 => ((cobwebref03_In.f k x112000 x112001 x2).bind fun t116 => (if (t115 == t116) = true then ((pixel_Hits.f k x102000 x102001 x102002 x102003 x113000 x113001 x2).bind fun t117 => ((cobwebref03_In.f k x113000 x113001 x2).bind fun t118 => (some (t117 == t118)))) else (some false)))) else (some false)))
end
def cobweblaw06_PixelBetween.f (k : Nat) (a0_0 : Int) (a0_1 : Int) (a0_2 : Int) (a0_3 : Int) (a1_0 : Int) (a1_1 : Int) (a2 : Int) : Option (Bool) := (cobwebref03_Rung.f a2).bind fun t103 => (if a2 = t103 then ((cobwebref05_Right.f a0_0 a0_1).bind fun t104 => (if t104 = true then ((cobwebref05_Right.f a0_2 a0_3).bind fun t105 => (cobweblaw06_PixelBetween.j0 k a2 (!t105) a0_0 a0_1 a0_2 a0_3 a1_0 a1_1)) else (cobweblaw06_PixelBetween.j0 k a2 true a0_0 a0_1 a0_2 a0_3 a1_0 a1_1))) else (cobweblaw06_PixelBetween.j0 k a2 true a0_0 a0_1 a0_2 a0_3 a1_0 a1_1))
theorem cobweblaw06_PixelBetween.mono_l : ∀ k, (∀ y0 y1 y2 y3 y4 y5 y6 y7, LeO (cobweblaw06_PixelBetween.j0 k y0 y1 y2 y3 y4 y5 y6 y7) (cobweblaw06_PixelBetween.j0 (k + 1) y0 y1 y2 y3 y4 y5 y6 y7)) ∧ (∀ y0 y1 y2 y3 y4 y5 y6 y7 y8 y9 y10 y11, LeO (cobweblaw06_PixelBetween.j1 k y0 y1 y2 y3 y4 y5 y6 y7 y8 y9 y10 y11) (cobweblaw06_PixelBetween.j1 (k + 1) y0 y1 y2 y3 y4 y5 y6 y7 y8 y9 y10 y11)) ∧ (∀ y0 y1 y2 y3 y4 y5 y6 y7 y8 y9, LeO (cobweblaw06_PixelBetween.j2 k y0 y1 y2 y3 y4 y5 y6 y7 y8 y9) (cobweblaw06_PixelBetween.j2 (k + 1) y0 y1 y2 y3 y4 y5 y6 y7 y8 y9))
 | 0 => ⟨fun _ _ _ _ _ _ _ _ r h => by simp [cobweblaw06_PixelBetween.j0] at h, fun _ _ _ _ _ _ _ _ _ _ _ _ r h => by simp [cobweblaw06_PixelBetween.j1] at h, fun _ _ _ _ _ _ _ _ _ _ r h => by simp [cobweblaw06_PixelBetween.j2] at h⟩
 | k + 1 => by
  obtain ⟨ih0, ih1, ih2⟩ := cobweblaw06_PixelBetween.mono_l k
  refine ⟨?_, ?_, ?_⟩
  ·intro y0 y1 y2 y3 y4 y5 y6 y7
   unfold cobweblaw06_PixelBetween.j0
   repeat' first
   | (with_reducible exact ih0 _ _ _ _ _ _ _ _)
   | (with_reducible exact ih1 _ _ _ _ _ _ _ _ _ _ _ _)
   | (with_reducible exact ih2 _ _ _ _ _ _ _ _ _ _)
   | (with_reducible exact cobwebref03_In.mono _ _ _ _)
   | (with_reducible exact pixel_Hits.mono _ _ _ _ _ _ _ _)
   | (with_reducible exact LeO.refl _)
   | (with_reducible exact LeO.none _)
   | (with_reducible refine LeO.ite ?_ ?_)
   | (with_reducible refine LeO.bind ?_ (fun _ => ?_))
   | exact ih0 _ _ _ _ _ _ _ _
   | exact ih1 _ _ _ _ _ _ _ _ _ _ _ _
   | exact ih2 _ _ _ _ _ _ _ _ _ _
   | exact cobwebref03_In.mono _ _ _ _
   | exact pixel_Hits.mono _ _ _ _ _ _ _ _
   | exact LeO.none _
   | refine LeO.ite ?_ ?_
   | refine LeO.bind ?_ (fun _ => ?_)
  ·intro y0 y1 y2 y3 y4 y5 y6 y7 y8 y9 y10 y11
   unfold cobweblaw06_PixelBetween.j1
   repeat' first
   | (with_reducible exact ih0 _ _ _ _ _ _ _ _)
   | (with_reducible exact ih1 _ _ _ _ _ _ _ _ _ _ _ _)
   | (with_reducible exact ih2 _ _ _ _ _ _ _ _ _ _)
   | (with_reducible exact cobwebref03_In.mono _ _ _ _)
   | (with_reducible exact pixel_Hits.mono _ _ _ _ _ _ _ _)
   | (with_reducible exact LeO.refl _)
   | (with_reducible exact LeO.none _)
   | (with_reducible refine LeO.ite ?_ ?_)
   | (with_reducible refine LeO.bind ?_ (fun _ => ?_))
   | exact ih0 _ _ _ _ _ _ _ _
   | exact ih1 _ _ _ _ _ _ _ _ _ _ _ _
   | exact ih2 _ _ _ _ _ _ _ _ _ _
   | exact cobwebref03_In.mono _ _ _ _
   | exact pixel_Hits.mono _ _ _ _ _ _ _ _
   | exact LeO.none _
   | refine LeO.ite ?_ ?_
   | refine LeO.bind ?_ (fun _ => ?_)
  ·intro y0 y1 y2 y3 y4 y5 y6 y7 y8 y9
   unfold cobweblaw06_PixelBetween.j2
   repeat' first
   | (with_reducible exact ih0 _ _ _ _ _ _ _ _)
   | (with_reducible exact ih1 _ _ _ _ _ _ _ _ _ _ _ _)
   | (with_reducible exact ih2 _ _ _ _ _ _ _ _ _ _)
   | (with_reducible exact cobwebref03_In.mono _ _ _ _)
   | (with_reducible exact pixel_Hits.mono _ _ _ _ _ _ _ _)
   | (with_reducible exact LeO.refl _)
   | (with_reducible exact LeO.none _)
   | (with_reducible refine LeO.ite ?_ ?_)
   | (with_reducible refine LeO.bind ?_ (fun _ => ?_))
   | exact ih0 _ _ _ _ _ _ _ _
   | exact ih1 _ _ _ _ _ _ _ _ _ _ _ _
   | exact ih2 _ _ _ _ _ _ _ _ _ _
   | exact cobwebref03_In.mono _ _ _ _
   | exact pixel_Hits.mono _ _ _ _ _ _ _ _
   | exact LeO.none _
   | refine LeO.ite ?_ ?_
   | refine LeO.bind ?_ (fun _ => ?_)
theorem cobweblaw06_PixelBetween.mono : ∀ a0 a1 a2 a3 a4 a5 a6 k, LeO (cobweblaw06_PixelBetween.f k a0 a1 a2 a3 a4 a5 a6) (cobweblaw06_PixelBetween.f (k + 1) a0 a1 a2 a3 a4 a5 a6) := by
 intro a0 a1 a2 a3 a4 a5 a6 k
 obtain ⟨ih0, ih1, ih2⟩ := cobweblaw06_PixelBetween.mono_l k
 unfold cobweblaw06_PixelBetween.f
 repeat' first
   | (with_reducible exact ih0 _ _ _ _ _ _ _ _)
   | (with_reducible exact ih1 _ _ _ _ _ _ _ _ _ _ _ _)
   | (with_reducible exact ih2 _ _ _ _ _ _ _ _ _ _)
   | (with_reducible exact cobwebref03_In.mono _ _ _ _)
   | (with_reducible exact pixel_Hits.mono _ _ _ _ _ _ _ _)
   | (with_reducible exact LeO.refl _)
   | (with_reducible exact LeO.none _)
   | (with_reducible refine LeO.ite ?_ ?_)
   | (with_reducible refine LeO.bind ?_ (fun _ => ?_))
   | exact ih0 _ _ _ _ _ _ _ _
   | exact ih1 _ _ _ _ _ _ _ _ _ _ _ _
   | exact ih2 _ _ _ _ _ _ _ _ _ _
   | exact cobwebref03_In.mono _ _ _ _
   | exact pixel_Hits.mono _ _ _ _ _ _ _ _
   | exact LeO.none _
   | refine LeO.ite ?_ ?_
   | refine LeO.bind ?_ (fun _ => ?_)
def cobweblaw06_PixelBetween.T3 : Bool × List (List Nat × List Nat) := (true, [([], []), ([0], [0]), ([], []), ([1, 2], [1, 2]), ([], []), ([4], [4]), ([], []), ([5, 6, 3], [5, 6]), ([], []), ([], []), ([8, 3, 7, 0, 1, 2, 3, 8, 9], [3, 8]), ([9, 7, 10, 0, 1, 2, 3, 4, 5, 6, 7, 8, 9, 10], [7, 9])])
def cobweblaw06_PixelBetween.B3 : List Nat := [0, 1, 0, 7, 0, 16, 0, 127, 0, 0, 1023, 2047]
theorem cobweblaw06_PixelBetween.tab3 : rtab .any (opsOf Try.f9 3) = cobweblaw06_PixelBetween.T3 := by kernel_rfl
theorem cobweblaw06_PixelBetween.bits3 : waitsOk cobweblaw06_PixelBetween.T3.2 cobweblaw06_PixelBetween.B3 = true := by kernel_rfl
def cobweblaw06_PixelBetween.T7 : Bool × List (List Nat × List Nat) := (true, [([], []), ([0, 0], [0]), ([1], [1]), ([2, 1], [1, 2]), ([1], [1]), ([4, 1], [1, 4]), ([1], [1]), ([1], [1]), ([3, 5, 6, 7, 1, 1], [1, 3, 5, 6, 7]), ([1], [1]), ([1], [1]), ([9, 10, 8, 1], [1, 9, 10]), ([8, 11, 1], [1, 8, 11]), ([1, 12], [1, 12]), ([13, 11], [13]), ([14], [14]), ([15, 14], [14, 15]), ([14], [14]), ([17, 14], [14, 17]), ([14], [14]), ([14], [14]), ([16, 18, 19, 20, 14, 14], [14, 16, 18, 19, 20]), ([14], [14]), ([14], [14]), ([22, 23, 21, 14], [14, 22, 23]), ([21, 24, 14], [14, 21, 24]), ([14, 25], [14, 25]), ([26, 24, 0, 1, 2, 3, 4, 5, 6, 7, 8, 9, 10, 11, 12, 13, 14, 15, 16, 17, 18, 19, 20, 21, 22, 23, 24, 25, 26], [26])])
def cobweblaw06_PixelBetween.B7 : List Nat := [0, 1, 3, 7, 3, 19, 3, 3, 255, 3, 3, 2047, 4095, 8191, 16383, 32767, 65535, 32767, 163839, 32767, 32767, 2097151, 32767, 32767, 16777215, 33554431, 67108863, 134217727]
theorem cobweblaw06_PixelBetween.tab7 : rtab .any (opsOf Try.f9 7) = cobweblaw06_PixelBetween.T7 := by kernel_rfl
theorem cobweblaw06_PixelBetween.bits7 : waitsOk cobweblaw06_PixelBetween.T7.2 cobweblaw06_PixelBetween.B7 = true := by kernel_rfl
set_option maxHeartbeats 8000000 in
set_option maxRecDepth 100000 in
theorem cobweblaw06_PixelBetween.calls (k : Nat) (a0_0 : Int) (a0_1 : Int) (a0_2 : Int) (a0_3 : Int) (a1_0 : Int) (a1_1 : Int) (a2 : Int) (r : Bool) (w : World) (h : cobweblaw06_PixelBetween.f k a0_0 a0_1 a0_2 a0_3 a1_0 a1_1 a2 = some r) :
  Calls Try.prog 9 #[.agg #[.int .i64 a0_0, .int .i64 a0_1, .int .i64 a0_2, .int .i64 a0_3], .agg #[.int .i64 a1_0, .int .i64 a1_1], .int .i64 a2] w fun e w' => e = .returned (.bool r) ∧ Below w.heap.size w w' := by
 have hu24 := Try.underlying24
 have hu30 := Try.underlying30
 have hu23 := Try.underlying23
 have HB := A_ (Below.refl w.heap.size w)
 have H : ((cobwebref03_Rung.f a2).bind fun t103 => (if a2 = t103 then ((cobwebref05_Right.f a0_0 a0_1).bind fun t104 => (if t104 = true then ((cobwebref05_Right.f a0_2 a0_3).bind fun t105 => (cobweblaw06_PixelBetween.j0 k a2 (!t105) a0_0 a0_1 a0_2 a0_3 a1_0 a1_1)) else (cobweblaw06_PixelBetween.j0 k a2 true a0_0 a0_1 a0_2 a0_3 a1_0 a1_1))) else (cobweblaw06_PixelBetween.j0 k a2 true a0_0 a0_1 a0_2 a0_3 a1_0 a1_1))) = some r := h
 clear h
 have HC4 := A_ H
 clear H
 go_enter Try.func9, Try.ntmps9
 go_upto_region 1 with (first | ((with_reducible refine gate_dst (N := 3) rfl ?_); (try (refine gate_guard (by rfl) ?_; dsimp only)); refine boxeq_ 3 #[.int .i64 a0_0, .int .i64 a0_1, .int .i64 a0_2, .int .i64 a0_3] 24 ?_; intro gb101 hg w5 hbox hb; have BK101 := A_ (hbox); have GW101 := ge_ HB hg; replace HB := st_ HB hb; have GE101 := GW101; clear hb hbox hg) | ((with_reducible refine gate_dst (N := 4) rfl ?_); (try (refine gate_guard (by rfl) ?_; dsimp only)); refine boxeq_ 4 #[.int .i64 a1_0, .int .i64 a1_1] 30 ?_; intro gb102 hg w6 hbox hb; have BK102 := A_ (hbox); have GW102 := ge_ HB hg; replace HB := st_ HB hb; have GE102 := GW102; have NB101_102 := ne_ BK101 hg; replace BK101 := bb_ BK101 hb; have NB102_101 := A_ NB101_102.out.symm; clear hb hbox hg))
 (try simp only [Act.put, List.setIfInBounds_toArray, List.set_cons_zero, List.set_cons_succ])
 go_cut [25] (fun v25 wc => ∃ (kq : Nat) (x25_3 : Bool), v25 = .bool x25_3 ∧ Aside0 (cobweblaw06_PixelBetween.j0 kq a2 x25_3 a0_0 a0_1 a0_2 a0_3 a1_0 a1_1 = some r) ∧ Aside0 (kq ≤ k) ∧ Aside0 (wc.heap[gb101]? = some (.cells #[.int .i64 a0_0, .int .i64 a0_1, .int .i64 a0_2, .int .i64 a0_3] 24 (0, 0))) ∧ Aside0 (wc.heap[gb102]? = some (.cells #[.int .i64 a1_0, .int .i64 a1_1] 30 (0, 0))) ∧ Aside0 (Below w.heap.size w wc))
 case first =>
  have H := HC4.out
  clear HC4
  replace H := Option.bind_eq_some_iff.mp H
  obtain ⟨t103, A70, H⟩ := H
  replace H : (if a2 = t103 then ((cobwebref05_Right.f a0_0 a0_1).bind fun t104 => (if t104 = true then ((cobwebref05_Right.f a0_2 a0_3).bind fun t105 => (cobweblaw06_PixelBetween.j0 k a2 (!t105) a0_0 a0_1 a0_2 a0_3 a1_0 a1_1)) else (cobweblaw06_PixelBetween.j0 k a2 true a0_0 a0_1 a0_2 a0_3 a1_0 a1_1))) else (cobweblaw06_PixelBetween.j0 k a2 true a0_0 a0_1 a0_2 a0_3 a1_0 a1_1)) = some r := H
  have A7 := A_ A70
  clear A70
  by_cases c8 : a2 = t103
  ·rw [if_pos c8] at H
   have c8b0 : (a2 == t103) = true := beq_iff_eq.mpr c8
   have c8b1 : (a2 != t103) = false := bne_eq_false_iff_eq.mpr c8
   clear c8
   (first | rw [c8b0] | (simp only [i64_w, i32_w]; rw [c8b0]) | skip)
   replace H := Option.bind_eq_some_iff.mp H
   obtain ⟨t104, A90, H⟩ := H
   replace H : (if t104 = true then ((cobwebref05_Right.f a0_2 a0_3).bind fun t105 => (cobweblaw06_PixelBetween.j0 k a2 (!t105) a0_0 a0_1 a0_2 a0_3 a1_0 a1_1)) else (cobweblaw06_PixelBetween.j0 k a2 true a0_0 a0_1 a0_2 a0_3 a1_0 a1_1)) = some r := H
   have A9 := A_ A90
   clear A90
   by_cases c10 : t104 = true
   ·subst c10
    have H1 : ((cobwebref05_Right.f a0_2 a0_3).bind fun t105 => (cobweblaw06_PixelBetween.j0 k a2 (!t105) a0_0 a0_1 a0_2 a0_3 a1_0 a1_1)) = some r := by rw [if_pos rfl] at H; exact H
    clear H
    have H := H1
    clear H1
    replace H := Option.bind_eq_some_iff.mp H
    obtain ⟨t105, A110, H⟩ := H
    replace H : (cobweblaw06_PixelBetween.j0 k a2 (!t105) a0_0 a0_1 a0_2 a0_3 a1_0 a1_1) = some r := H
    have A11 := A_ A110
    clear A110
    have H' := A_ H
    clear H
    go_wp2_with (first | ((with_reducible refine gate_callee (f := 15) rfl ?_); refine goesLq_ 12 rfl Try.func15 #[.int .i64 a2] ?_; (with_reducible refine (cobwebref03_Rung.calls a2 t103 _ A7.out).mono ?_); rintro e w' ⟨rfl, ⟨nd, rfl⟩⟩; refine ⟨_, rfl, ?_⟩; have hnb12 := NB101_102.out; have hnc12 := NB102_101.out; have hcz13_0 : w6.cell? ⟨gb101, 0, none⟩ = some (.int .i64 a0_0) := (blk_cell BK101.out 0).trans rfl; have hcz13_1 : w6.cell? ⟨gb101, 1, none⟩ = some (.int .i64 a0_1) := (blk_cell BK101.out 1).trans rfl; have hcz13_2 : w6.cell? ⟨gb101, 2, none⟩ = some (.int .i64 a0_2) := (blk_cell BK101.out 2).trans rfl; have hcz13_3 : w6.cell? ⟨gb101, 3, none⟩ = some (.int .i64 a0_3) := (blk_cell BK101.out 3).trans rfl; have hfz13_0 := blk_frozen BK101.out 0; have hfz13_1 := blk_frozen BK101.out 1; have hfz13_2 := blk_frozen BK101.out 2; have hfz13_3 := blk_frozen BK101.out 3) | (go_at_call 19; (with_reducible refine (cobwebref05_Right.calls a0_0 a0_1 true _ A9.out).mono ?_); rintro e w14 ⟨rfl, hb⟩; replace BK101 := bb_ BK101 hb; replace BK102 := bb_ BK102 hb; replace HB := st_ HB hb; (try clear hb); (try clear hb2); (try clear hk); (try clear hi); have hcz15_0 : w14.cell? ⟨gb101, 0, none⟩ = some (.int .i64 a0_0) := (blk_cell BK101.out 0).trans rfl; have hcz15_1 : w14.cell? ⟨gb101, 1, none⟩ = some (.int .i64 a0_1) := (blk_cell BK101.out 1).trans rfl; have hcz15_2 : w14.cell? ⟨gb101, 2, none⟩ = some (.int .i64 a0_2) := (blk_cell BK101.out 2).trans rfl; have hcz15_3 : w14.cell? ⟨gb101, 3, none⟩ = some (.int .i64 a0_3) := (blk_cell BK101.out 3).trans rfl; have hfz15_0 := blk_frozen BK101.out 0; have hfz15_1 := blk_frozen BK101.out 1; have hfz15_2 := blk_frozen BK101.out 2; have hfz15_3 := blk_frozen BK101.out 3) | (go_at_call 19; (with_reducible refine (cobwebref05_Right.calls a0_2 a0_3 t105 _ A11.out).mono ?_); rintro e w16 ⟨rfl, hb⟩; replace BK101 := bb_ BK101 hb; replace BK102 := bb_ BK102 hb; replace HB := st_ HB hb; (try clear hb); (try clear hb2); (try clear hk); (try clear hi)))
    go_meet
    case rel => exact ⟨_, (!t105), (by first | rfl | (simp; done) | (simp [*]; done)), H', ⟨by first | omega | exact Nat.le_refl _⟩, ⟨b_ BK101⟩, ⟨b_ BK102⟩, ⟨l_ HB⟩⟩
   ·replace c10 := Bool.eq_false_iff.mpr c10
    subst c10
    have H1 : (cobweblaw06_PixelBetween.j0 k a2 true a0_0 a0_1 a0_2 a0_3 a1_0 a1_1) = some r := by rw [if_neg (show ¬ (false = true) by decide)] at H; exact H
    clear H
    have H := H1
    clear H1
    have H' := A_ H
    clear H
    go_wp2_with (first | ((with_reducible refine gate_callee (f := 15) rfl ?_); refine goesLq_ 12 rfl Try.func15 #[.int .i64 a2] ?_; (with_reducible refine (cobwebref03_Rung.calls a2 t103 _ A7.out).mono ?_); rintro e w' ⟨rfl, ⟨nd, rfl⟩⟩; refine ⟨_, rfl, ?_⟩; have hnb17 := NB101_102.out; have hnc17 := NB102_101.out; have hcz18_0 : w6.cell? ⟨gb101, 0, none⟩ = some (.int .i64 a0_0) := (blk_cell BK101.out 0).trans rfl; have hcz18_1 : w6.cell? ⟨gb101, 1, none⟩ = some (.int .i64 a0_1) := (blk_cell BK101.out 1).trans rfl; have hcz18_2 : w6.cell? ⟨gb101, 2, none⟩ = some (.int .i64 a0_2) := (blk_cell BK101.out 2).trans rfl; have hcz18_3 : w6.cell? ⟨gb101, 3, none⟩ = some (.int .i64 a0_3) := (blk_cell BK101.out 3).trans rfl; have hfz18_0 := blk_frozen BK101.out 0; have hfz18_1 := blk_frozen BK101.out 1; have hfz18_2 := blk_frozen BK101.out 2; have hfz18_3 := blk_frozen BK101.out 3) | (go_at_call 19; (with_reducible refine (cobwebref05_Right.calls a0_0 a0_1 false _ A9.out).mono ?_); rintro e w19 ⟨rfl, hb⟩; replace BK101 := bb_ BK101 hb; replace BK102 := bb_ BK102 hb; replace HB := st_ HB hb; (try clear hb); (try clear hb2); (try clear hk); (try clear hi)))
    go_meet
    case rel => exact ⟨_, (true), (by first | rfl | (simp; done) | (simp [*]; done)), H', ⟨by first | omega | exact Nat.le_refl _⟩, ⟨b_ BK101⟩, ⟨b_ BK102⟩, ⟨l_ HB⟩⟩
  ·rw [if_neg c8] at H
   have c8b0 : (a2 == t103) = false := beq_eq_false_iff_ne.mpr c8
   have c8b1 : (a2 != t103) = true := bne_iff_ne.mpr c8
   (first | rw [c8b0] | (simp only [i64_w, i32_w]; rw [c8b0]) | skip)
   have H' := A_ H
   clear H
   go_wp2_with (first | ((with_reducible refine gate_callee (f := 15) rfl ?_); refine goesLq_ 12 rfl Try.func15 #[.int .i64 a2] ?_; (with_reducible refine (cobwebref03_Rung.calls a2 t103 _ A7.out).mono ?_); rintro e w' ⟨rfl, ⟨nd, rfl⟩⟩; refine ⟨_, rfl, ?_⟩))
   go_meet
   case rel => exact ⟨_, (true), (by first | rfl | (simp; done) | (simp [*]; done)), H', ⟨by first | omega | exact Nat.le_refl _⟩, ⟨b_ BK101⟩, ⟨b_ BK102⟩, ⟨l_ HB⟩⟩
 case rest =>
  clear HC4
  try clear c1
  try clear p2
  try clear c8
  try clear c8b0
  try clear c8b1
  try clear c9
  try clear c10
  try clear c12
  try clear c15
  try clear c17
  try clear hcz13_0
  try clear hcz13_1
  try clear hcz13_2
  try clear hcz13_3
  try clear hcz15_0
  try clear hcz15_1
  try clear hcz15_2
  try clear hcz15_3
  try clear hcz18_0
  try clear hcz18_1
  try clear hcz18_2
  try clear hcz18_3
  try clear hfz13_0
  try clear hfz13_1
  try clear hfz13_2
  try clear hfz13_3
  try clear hfz15_0
  try clear hfz15_1
  try clear hfz15_2
  try clear hfz15_3
  try clear hfz18_0
  try clear hfz18_1
  try clear hfz18_2
  try clear hfz18_3
  obtain ⟨kq, x25_3, rfl, HA, HJ3, BK101, BK102, HB⟩ := hcut
  cases kq with
  | zero => exact absurd HA.out (by simp [cobweblaw06_PixelBetween.j0])
  | succ kj3 =>
   have H := HA.out
   clear HA
   simp only [cobweblaw06_PixelBetween.j0] at H
   by_cases c20 : x25_3 = true
   ·subst c20
    have H1 : ((cobweblaw06_alive.f).bind fun t106 => (some t106)) = some r := by rw [if_pos rfl] at H; exact H
    clear H
    have H := H1
    clear H1
    replace H := Option.bind_eq_some_iff.mp H
    obtain ⟨t106, A210, H⟩ := H
    replace H : (some t106) = some r := H
    have A21 := A_ A210
    clear A210
    obtain rfl := Option.some.inj H
    go_wp2_with (first | ((with_reducible refine gate_callee (f := 13) rfl ?_); refine goesLq_ 26 rfl Try.func13 #[] ?_; (with_reducible refine (cobweblaw06_alive.calls  t106 _ A21.out).mono ?_); rintro e w22 ⟨rfl, hb⟩; refine ⟨_, rfl, ?_⟩; replace BK101 := bb_ BK101 hb; replace BK102 := bb_ BK102 hb; replace HB := st_ HB hb; (try clear hb); (try clear hb2); (try clear hk); (try clear hi)))
    go_ret
    exact ⟨by first | rfl | (simp [errW_none, errW_some] <;> rfl) | (simp [*, errW_none, errW_some] <;> rfl), l_ HB⟩
   ·replace c20 := Bool.eq_false_iff.mpr c20
    subst c20
    have H1 : ((grid_Of.f a0_0 a0_1 a2).bind fun bt107 => ((grid_Of.f a0_2 a0_3 a2).bind fun bt109 => (if (mn bt107.1 bt109.1) ≤ a1_0 then (if a1_0 ≤ (mx bt107.1 bt109.1) then (if (mn bt107.2 bt109.2) ≤ a1_1 then (cobweblaw06_PixelBetween.j1 kj3 a2 (decide (a1_1 ≤ (mx bt107.2 bt109.2))) a0_0 a0_1 a0_2 a0_3 a1_0 a1_1 bt107.1 bt107.2 bt109.1 bt109.2) else (cobweblaw06_PixelBetween.j1 kj3 a2 false a0_0 a0_1 a0_2 a0_3 a1_0 a1_1 bt107.1 bt107.2 bt109.1 bt109.2)) else (cobweblaw06_PixelBetween.j1 kj3 a2 false a0_0 a0_1 a0_2 a0_3 a1_0 a1_1 bt107.1 bt107.2 bt109.1 bt109.2)) else (cobweblaw06_PixelBetween.j1 kj3 a2 false a0_0 a0_1 a0_2 a0_3 a1_0 a1_1 bt107.1 bt107.2 bt109.1 bt109.2)))) = some r := by rw [if_neg (show ¬ (false = true) by decide)] at H; exact H
    clear H
    have H := H1
    clear H1
    replace H := Option.bind_eq_some_iff.mp H
    obtain ⟨⟨t107, t108⟩, A230, H⟩ := H
    replace H : ((grid_Of.f a0_2 a0_3 a2).bind fun bt109 => (if (mn t107 bt109.1) ≤ a1_0 then (if a1_0 ≤ (mx t107 bt109.1) then (if (mn t108 bt109.2) ≤ a1_1 then (cobweblaw06_PixelBetween.j1 kj3 a2 (decide (a1_1 ≤ (mx t108 bt109.2))) a0_0 a0_1 a0_2 a0_3 a1_0 a1_1 t107 t108 bt109.1 bt109.2) else (cobweblaw06_PixelBetween.j1 kj3 a2 false a0_0 a0_1 a0_2 a0_3 a1_0 a1_1 t107 t108 bt109.1 bt109.2)) else (cobweblaw06_PixelBetween.j1 kj3 a2 false a0_0 a0_1 a0_2 a0_3 a1_0 a1_1 t107 t108 bt109.1 bt109.2)) else (cobweblaw06_PixelBetween.j1 kj3 a2 false a0_0 a0_1 a0_2 a0_3 a1_0 a1_1 t107 t108 bt109.1 bt109.2))) = some r := H
    have A23 := A_ A230
    clear A230
    replace H := Option.bind_eq_some_iff.mp H
    obtain ⟨⟨t109, t110⟩, A240, H⟩ := H
    replace H : (if (mn t107 t109) ≤ a1_0 then (if a1_0 ≤ (mx t107 t109) then (if (mn t108 t110) ≤ a1_1 then (cobweblaw06_PixelBetween.j1 kj3 a2 (decide (a1_1 ≤ (mx t108 t110))) a0_0 a0_1 a0_2 a0_3 a1_0 a1_1 t107 t108 t109 t110) else (cobweblaw06_PixelBetween.j1 kj3 a2 false a0_0 a0_1 a0_2 a0_3 a1_0 a1_1 t107 t108 t109 t110)) else (cobweblaw06_PixelBetween.j1 kj3 a2 false a0_0 a0_1 a0_2 a0_3 a1_0 a1_1 t107 t108 t109 t110)) else (cobweblaw06_PixelBetween.j1 kj3 a2 false a0_0 a0_1 a0_2 a0_3 a1_0 a1_1 t107 t108 t109 t110)) = some r := H
    have A24 := A_ A240
    clear A240
    have HC25 := A_ H
    clear H
    try go_wp2
    replace BK101 := A_ (blk_drew BK101.out)
    replace BK102 := A_ (blk_drew BK102.out)
    replace HB := A_ (below_drew1 HB.out)
    refine start_ (n := 12) (S := fun w' => w'.cell? ⟨gb101, 0, none⟩ = some (.int .i64 a0_0) ∧ w'.cell? ⟨gb101, 1, none⟩ = some (.int .i64 a0_1) ∧ w'.cell? ⟨gb101, 2, none⟩ = some (.int .i64 a0_2) ∧ w'.cell? ⟨gb101, 3, none⟩ = some (.int .i64 a0_3)) (ds := []) (Array.replicate 12 false) (by kernel_rfl) rfl rfl ⟨(blk_cell BK101.out 0).trans rfl, (blk_cell BK101.out 1).trans rfl, (blk_cell BK101.out 2).trans rfl, (blk_cell BK101.out 3).trans rfl⟩ (fun hHeld => ?_); refine with_tabW cobweblaw06_PixelBetween.tab3 cobweblaw06_PixelBetween.bits3 (fun HT_ HW_ => ?_)
    generalize wc.drew = w26 at BK101 BK102 HB hHeld ⊢
    refine pureq_ 0 27 HT_ ?_
    refine pureq_ 2 29 HT_ ?_
    refine pureq_ 4 31 HT_ ?_
    refine pureq_ 6 33 HT_ ?_
    refine takeq_ 1 28 HT_ HW_ hHeld ?_
    refine takeq_ 5 32 HT_ HW_ hHeld ?_
    refine join_ (σ := Nat × Nat) 2 (bb 12 1023) (fun s_ => [(30, .agg #[.int .i64 t107, .int .i64 t108]), (34, .agg #[.int .i64 t109, .int .i64 t110]), (7, .pointer (some ⟨s_.1, 0, none⟩)), (8, .pointer (some ⟨s_.2, 0, none⟩))]) (fun s_ w' => (w'.cell? ⟨gb101, 0, none⟩ = some (.int .i64 a0_0) ∧ w'.cell? ⟨gb101, 1, none⟩ = some (.int .i64 a0_1) ∧ w'.cell? ⟨gb101, 2, none⟩ = some (.int .i64 a0_2) ∧ w'.cell? ⟨gb101, 3, none⟩ = some (.int .i64 a0_3)) ∧ (w'.heap[gb101]? = some (.cells #[.int .i64 a0_0, .int .i64 a0_1, .int .i64 a0_2, .int .i64 a0_3] 24 (0, 0))) ∧ (w'.heap[gb102]? = some (.cells #[.int .i64 a1_0, .int .i64 a1_1] 30 (0, 0))) ∧ (w'.heap[s_.1]? = some (.cells #[.int .i64 0, .int .i64 0] 30 (0, 0))) ∧ (w'.heap[s_.2]? = some (.cells #[.int .i64 0, .int .i64 0] 30 (0, 0))) ∧ (w.heap.size ≤ s_.1) ∧ (w.heap.size ≤ s_.1) ∧ (gb101 ≠ s_.1) ∧ (s_.1 ≠ gb101) ∧ (gb102 ≠ s_.1) ∧ (s_.1 ≠ gb102) ∧ (s_.2 ≠ s_.1) ∧ (s_.1 ≠ s_.2) ∧ (w.heap.size ≤ s_.2) ∧ (w.heap.size ≤ s_.2) ∧ (gb101 ≠ s_.2) ∧ (s_.2 ≠ gb101) ∧ (gb102 ≠ s_.2) ∧ (s_.2 ≠ gb102) ∧ (Below w.heap.size w w')) ?_ ?_
    rotate_left
    ·intro hJ3_7_8_9
     refine join_ (σ := Nat) 3 (bb 12 511) (fun s_ => [(30, .agg #[.int .i64 t107, .int .i64 t108]), (34, .agg #[.int .i64 t109, .int .i64 t110]), (7, .pointer (some ⟨s_, 0, none⟩))]) (fun s_ w' => (w'.cell? ⟨gb101, 0, none⟩ = some (.int .i64 a0_0) ∧ w'.cell? ⟨gb101, 1, none⟩ = some (.int .i64 a0_1) ∧ w'.cell? ⟨gb101, 2, none⟩ = some (.int .i64 a0_2) ∧ w'.cell? ⟨gb101, 3, none⟩ = some (.int .i64 a0_3)) ∧ (w'.heap[gb101]? = some (.cells #[.int .i64 a0_0, .int .i64 a0_1, .int .i64 a0_2, .int .i64 a0_3] 24 (0, 0))) ∧ (w'.heap[gb102]? = some (.cells #[.int .i64 a1_0, .int .i64 a1_1] 30 (0, 0))) ∧ (w'.heap[s_]? = some (.cells #[.int .i64 0, .int .i64 0] 30 (0, 0))) ∧ (w.heap.size ≤ s_) ∧ (w.heap.size ≤ s_) ∧ (gb101 ≠ s_) ∧ (s_ ≠ gb101) ∧ (gb102 ≠ s_) ∧ (s_ ≠ gb102) ∧ (Below w.heap.size w w')) ?_ ?_
     rotate_left
     ·intro hJ3_7_8
      refine join_ (σ := Nat) 3 (bb 12 767) (fun s_ => [(30, .agg #[.int .i64 t107, .int .i64 t108]), (34, .agg #[.int .i64 t109, .int .i64 t110]), (8, .pointer (some ⟨s_, 0, none⟩))]) (fun s_ w' => (w'.cell? ⟨gb101, 0, none⟩ = some (.int .i64 a0_0) ∧ w'.cell? ⟨gb101, 1, none⟩ = some (.int .i64 a0_1) ∧ w'.cell? ⟨gb101, 2, none⟩ = some (.int .i64 a0_2) ∧ w'.cell? ⟨gb101, 3, none⟩ = some (.int .i64 a0_3)) ∧ (w'.heap[gb101]? = some (.cells #[.int .i64 a0_0, .int .i64 a0_1, .int .i64 a0_2, .int .i64 a0_3] 24 (0, 0))) ∧ (w'.heap[gb102]? = some (.cells #[.int .i64 a1_0, .int .i64 a1_1] 30 (0, 0))) ∧ (w'.heap[s_]? = some (.cells #[.int .i64 0, .int .i64 0] 30 (0, 0))) ∧ (w.heap.size ≤ s_) ∧ (w.heap.size ≤ s_) ∧ (gb101 ≠ s_) ∧ (s_ ≠ gb101) ∧ (gb102 ≠ s_) ∧ (s_ ≠ gb102) ∧ (Below w.heap.size w w')) ?_ ?_
      rotate_left
      ·intro hJ3_7_9
       refine join_ (σ := Nat × Nat) 3 (bb 12 895) (fun s_ => [(30, .agg #[.int .i64 t107, .int .i64 t108]), (7, .pointer (some ⟨s_.1, 0, none⟩)), (8, .pointer (some ⟨s_.2, 0, none⟩))]) (fun s_ w' => (w'.cell? ⟨gb101, 0, none⟩ = some (.int .i64 a0_0) ∧ w'.cell? ⟨gb101, 1, none⟩ = some (.int .i64 a0_1) ∧ w'.cell? ⟨gb101, 2, none⟩ = some (.int .i64 a0_2) ∧ w'.cell? ⟨gb101, 3, none⟩ = some (.int .i64 a0_3)) ∧ (w'.heap[gb101]? = some (.cells #[.int .i64 a0_0, .int .i64 a0_1, .int .i64 a0_2, .int .i64 a0_3] 24 (0, 0))) ∧ (w'.heap[gb102]? = some (.cells #[.int .i64 a1_0, .int .i64 a1_1] 30 (0, 0))) ∧ (w'.heap[s_.1]? = some (.cells #[.int .i64 0, .int .i64 0] 30 (0, 0))) ∧ (w'.heap[s_.2]? = some (.cells #[.int .i64 0, .int .i64 0] 30 (0, 0))) ∧ (w.heap.size ≤ s_.1) ∧ (w.heap.size ≤ s_.1) ∧ (gb101 ≠ s_.1) ∧ (s_.1 ≠ gb101) ∧ (gb102 ≠ s_.1) ∧ (s_.1 ≠ gb102) ∧ (s_.2 ≠ s_.1) ∧ (s_.1 ≠ s_.2) ∧ (w.heap.size ≤ s_.2) ∧ (w.heap.size ≤ s_.2) ∧ (gb101 ≠ s_.2) ∧ (s_.2 ≠ gb101) ∧ (gb102 ≠ s_.2) ∧ (s_.2 ≠ gb102) ∧ (Below w.heap.size w w')) ?_ ?_
       rotate_left
       ·intro hJ3_8_9
        refine join_ (σ := Unit) 4 (bb 12 255) (fun s_ => [(30, .agg #[.int .i64 t107, .int .i64 t108]), (34, .agg #[.int .i64 t109, .int .i64 t110])]) (fun s_ w' => (w'.cell? ⟨gb101, 0, none⟩ = some (.int .i64 a0_0) ∧ w'.cell? ⟨gb101, 1, none⟩ = some (.int .i64 a0_1) ∧ w'.cell? ⟨gb101, 2, none⟩ = some (.int .i64 a0_2) ∧ w'.cell? ⟨gb101, 3, none⟩ = some (.int .i64 a0_3)) ∧ (w'.heap[gb101]? = some (.cells #[.int .i64 a0_0, .int .i64 a0_1, .int .i64 a0_2, .int .i64 a0_3] 24 (0, 0))) ∧ (w'.heap[gb102]? = some (.cells #[.int .i64 a1_0, .int .i64 a1_1] 30 (0, 0))) ∧ (Below w.heap.size w w')) ?_ ?_
        rotate_left
        ·intro hJ3_7
         refine join_ (σ := Nat) 4 (bb 12 383) (fun s_ => [(30, .agg #[.int .i64 t107, .int .i64 t108]), (7, .pointer (some ⟨s_, 0, none⟩))]) (fun s_ w' => (w'.cell? ⟨gb101, 0, none⟩ = some (.int .i64 a0_0) ∧ w'.cell? ⟨gb101, 1, none⟩ = some (.int .i64 a0_1) ∧ w'.cell? ⟨gb101, 2, none⟩ = some (.int .i64 a0_2) ∧ w'.cell? ⟨gb101, 3, none⟩ = some (.int .i64 a0_3)) ∧ (w'.heap[gb101]? = some (.cells #[.int .i64 a0_0, .int .i64 a0_1, .int .i64 a0_2, .int .i64 a0_3] 24 (0, 0))) ∧ (w'.heap[gb102]? = some (.cells #[.int .i64 a1_0, .int .i64 a1_1] 30 (0, 0))) ∧ (w'.heap[s_]? = some (.cells #[.int .i64 0, .int .i64 0] 30 (0, 0))) ∧ (w.heap.size ≤ s_) ∧ (w.heap.size ≤ s_) ∧ (gb101 ≠ s_) ∧ (s_ ≠ gb101) ∧ (gb102 ≠ s_) ∧ (s_ ≠ gb102) ∧ (Below w.heap.size w w')) ?_ ?_
         rotate_left
         ·intro hJ3_8
          refine join_ (σ := Nat) 4 (bb 12 639) (fun s_ => [(30, .agg #[.int .i64 t107, .int .i64 t108]), (8, .pointer (some ⟨s_, 0, none⟩))]) (fun s_ w' => (w'.cell? ⟨gb101, 0, none⟩ = some (.int .i64 a0_0) ∧ w'.cell? ⟨gb101, 1, none⟩ = some (.int .i64 a0_1) ∧ w'.cell? ⟨gb101, 2, none⟩ = some (.int .i64 a0_2) ∧ w'.cell? ⟨gb101, 3, none⟩ = some (.int .i64 a0_3)) ∧ (w'.heap[gb101]? = some (.cells #[.int .i64 a0_0, .int .i64 a0_1, .int .i64 a0_2, .int .i64 a0_3] 24 (0, 0))) ∧ (w'.heap[gb102]? = some (.cells #[.int .i64 a1_0, .int .i64 a1_1] 30 (0, 0))) ∧ (w'.heap[s_]? = some (.cells #[.int .i64 0, .int .i64 0] 30 (0, 0))) ∧ (w.heap.size ≤ s_) ∧ (w.heap.size ≤ s_) ∧ (gb101 ≠ s_) ∧ (s_ ≠ gb101) ∧ (gb102 ≠ s_) ∧ (s_ ≠ gb102) ∧ (Below w.heap.size w w')) ?_ ?_
          rotate_left
          ·intro hJ3_9
           refine join_ (σ := Nat × Nat) 4 (bb 12 887) (fun s_ => [(7, .pointer (some ⟨s_.1, 0, none⟩)), (8, .pointer (some ⟨s_.2, 0, none⟩))]) (fun s_ w' => (w'.cell? ⟨gb101, 0, none⟩ = some (.int .i64 a0_0) ∧ w'.cell? ⟨gb101, 1, none⟩ = some (.int .i64 a0_1) ∧ w'.cell? ⟨gb101, 2, none⟩ = some (.int .i64 a0_2) ∧ w'.cell? ⟨gb101, 3, none⟩ = some (.int .i64 a0_3)) ∧ (w'.heap[gb101]? = some (.cells #[.int .i64 a0_0, .int .i64 a0_1, .int .i64 a0_2, .int .i64 a0_3] 24 (0, 0))) ∧ (w'.heap[gb102]? = some (.cells #[.int .i64 a1_0, .int .i64 a1_1] 30 (0, 0))) ∧ (w'.heap[s_.1]? = some (.cells #[.int .i64 0, .int .i64 0] 30 (0, 0))) ∧ (w'.heap[s_.2]? = some (.cells #[.int .i64 0, .int .i64 0] 30 (0, 0))) ∧ (w.heap.size ≤ s_.1) ∧ (w.heap.size ≤ s_.1) ∧ (gb101 ≠ s_.1) ∧ (s_.1 ≠ gb101) ∧ (gb102 ≠ s_.1) ∧ (s_.1 ≠ gb102) ∧ (s_.2 ≠ s_.1) ∧ (s_.1 ≠ s_.2) ∧ (w.heap.size ≤ s_.2) ∧ (w.heap.size ≤ s_.2) ∧ (gb101 ≠ s_.2) ∧ (s_.2 ≠ gb101) ∧ (gb102 ≠ s_.2) ∧ (s_.2 ≠ gb102) ∧ (Below w.heap.size w w')) ?_ ?_
           rotate_left
           ·intro hJ8_9
            refine join_ (σ := Unit) 5 (bb 12 127) (fun s_ => [(30, .agg #[.int .i64 t107, .int .i64 t108])]) (fun s_ w' => (w'.cell? ⟨gb101, 0, none⟩ = some (.int .i64 a0_0) ∧ w'.cell? ⟨gb101, 1, none⟩ = some (.int .i64 a0_1) ∧ w'.cell? ⟨gb101, 2, none⟩ = some (.int .i64 a0_2) ∧ w'.cell? ⟨gb101, 3, none⟩ = some (.int .i64 a0_3)) ∧ (w'.heap[gb101]? = some (.cells #[.int .i64 a0_0, .int .i64 a0_1, .int .i64 a0_2, .int .i64 a0_3] 24 (0, 0))) ∧ (w'.heap[gb102]? = some (.cells #[.int .i64 a1_0, .int .i64 a1_1] 30 (0, 0))) ∧ (Below w.heap.size w w')) ?_ ?_
            rotate_left
            ·intro hJ3
             refine join_ (σ := Nat) 5 (bb 12 375) (fun s_ => [(7, .pointer (some ⟨s_, 0, none⟩))]) (fun s_ w' => (w'.cell? ⟨gb101, 0, none⟩ = some (.int .i64 a0_0) ∧ w'.cell? ⟨gb101, 1, none⟩ = some (.int .i64 a0_1) ∧ w'.cell? ⟨gb101, 2, none⟩ = some (.int .i64 a0_2) ∧ w'.cell? ⟨gb101, 3, none⟩ = some (.int .i64 a0_3)) ∧ (w'.heap[gb101]? = some (.cells #[.int .i64 a0_0, .int .i64 a0_1, .int .i64 a0_2, .int .i64 a0_3] 24 (0, 0))) ∧ (w'.heap[gb102]? = some (.cells #[.int .i64 a1_0, .int .i64 a1_1] 30 (0, 0))) ∧ (w'.heap[s_]? = some (.cells #[.int .i64 0, .int .i64 0] 30 (0, 0))) ∧ (w.heap.size ≤ s_) ∧ (w.heap.size ≤ s_) ∧ (gb101 ≠ s_) ∧ (s_ ≠ gb101) ∧ (gb102 ≠ s_) ∧ (s_ ≠ gb102) ∧ (Below w.heap.size w w')) ?_ ?_
             rotate_left
             ·intro hJ8
              refine join_ (σ := Nat) 5 (bb 12 631) (fun s_ => [(8, .pointer (some ⟨s_, 0, none⟩))]) (fun s_ w' => (w'.cell? ⟨gb101, 0, none⟩ = some (.int .i64 a0_0) ∧ w'.cell? ⟨gb101, 1, none⟩ = some (.int .i64 a0_1) ∧ w'.cell? ⟨gb101, 2, none⟩ = some (.int .i64 a0_2) ∧ w'.cell? ⟨gb101, 3, none⟩ = some (.int .i64 a0_3)) ∧ (w'.heap[gb101]? = some (.cells #[.int .i64 a0_0, .int .i64 a0_1, .int .i64 a0_2, .int .i64 a0_3] 24 (0, 0))) ∧ (w'.heap[gb102]? = some (.cells #[.int .i64 a1_0, .int .i64 a1_1] 30 (0, 0))) ∧ (w'.heap[s_]? = some (.cells #[.int .i64 0, .int .i64 0] 30 (0, 0))) ∧ (w.heap.size ≤ s_) ∧ (w.heap.size ≤ s_) ∧ (gb101 ≠ s_) ∧ (s_ ≠ gb101) ∧ (gb102 ≠ s_) ∧ (s_ ≠ gb102) ∧ (Below w.heap.size w w')) ?_ ?_
              rotate_left
              ·intro hJ9
               refine three_ (i := 3) (j := 8) (k := 9) (Ni := some 30) (Nj := some 7) (Nk := some 8) (bb 12 127) (bb 12 375) (bb 12 631) rfl rfl rfl rfl rfl rfl (three_of HT_.out (by kernel_rfl)) (by decide) (by decide) (by decide) (fun K hK => ?_) (fun K hK => ?_) (fun K hK => ?_)
               ·skip
                refine goesq_ Try.func21 #[.agg #[.int .i64 a0_0, .int .i64 a0_1], .int .i64 a2] ?_
                with_reducible refine (grid_Of.calls a0_0 a0_1 a2 t107 t108 _ A23.out).mono ?_
                rintro e w27 ⟨rfl, hb⟩
                refine ⟨_, rfl, ?_⟩
                replace BK101 := bb_ BK101 hb
                replace BK102 := bb_ BK102 hb
                replace HB := st_ HB hb
                try clear hb
                refine hK.out _ _ ⟨(blk_cell BK101.out 0).trans rfl, (blk_cell BK101.out 1).trans rfl, (blk_cell BK101.out 2).trans rfl, (blk_cell BK101.out 3).trans rfl⟩ (fun hHeld => ?_)
                clear hK K
                refine normq_ 30 ?_
                exact norm_ (by first | (simp only [putAll, Act.put, List.setIfInBounds_toArray, List.set_cons_zero, List.set_cons_succ]; done) | (simp only [putAll, Act.put, List.setIfInBounds_toArray, List.set_cons_zero, List.set_cons_succ]; rfl)) (hJ3 () _ ⟨hHeld, (b_ BK101), (b_ BK102), (l_ HB)⟩)
               ·skip
                refine boxsq_ 7 #[.int .i64 0, .int .i64 0] 30 ?_
                intro gb111 hg w27 hbox hb
                have BK111 := A_ (hbox)
                have GW111 := ge_ HB hg
                replace HB := st_ HB hb
                have GE111 := GW111
                have NB101_111 := ne_ BK101 hg
                replace BK101 := bb_ BK101 hb
                have NB111_101 := A_ NB101_111.out.symm
                have NB102_111 := ne_ BK102 hg
                replace BK102 := bb_ BK102 hb
                have NB111_102 := A_ NB102_111.out.symm
                clear hb hbox hg
                refine hK.out _ _ ⟨(blk_cell BK101.out 0).trans rfl, (blk_cell BK101.out 1).trans rfl, (blk_cell BK101.out 2).trans rfl, (blk_cell BK101.out 3).trans rfl⟩ (fun hHeld => ?_)
                clear hK K
                refine normq_ 7 ?_
                exact norm_ (by first | (simp only [putAll, Act.put, List.setIfInBounds_toArray, List.set_cons_zero, List.set_cons_succ]; done) | (simp only [putAll, Act.put, List.setIfInBounds_toArray, List.set_cons_zero, List.set_cons_succ]; rfl)) (hJ8 (gb111) _ ⟨hHeld, (b_ BK101), (b_ BK102), (b_ BK111), GW111.out, GE111.out, NB101_111.out, NB111_101.out, NB102_111.out, NB111_102.out, (l_ HB)⟩)
               ·skip
                refine boxsq_ 8 #[.int .i64 0, .int .i64 0] 30 ?_
                intro gb112 hg w27 hbox hb
                have BK112 := A_ (hbox)
                have GW112 := ge_ HB hg
                replace HB := st_ HB hb
                have GE112 := GW112
                have NB101_112 := ne_ BK101 hg
                replace BK101 := bb_ BK101 hb
                have NB112_101 := A_ NB101_112.out.symm
                have NB102_112 := ne_ BK102 hg
                replace BK102 := bb_ BK102 hb
                have NB112_102 := A_ NB102_112.out.symm
                clear hb hbox hg
                refine hK.out _ _ ⟨(blk_cell BK101.out 0).trans rfl, (blk_cell BK101.out 1).trans rfl, (blk_cell BK101.out 2).trans rfl, (blk_cell BK101.out 3).trans rfl⟩ (fun hHeld => ?_)
                clear hK K
                refine normq_ 8 ?_
                exact norm_ (by first | (simp only [putAll, Act.put, List.setIfInBounds_toArray, List.set_cons_zero, List.set_cons_succ]; done) | (simp only [putAll, Act.put, List.setIfInBounds_toArray, List.set_cons_zero, List.set_cons_succ]; rfl)) (hJ9 (gb112) _ ⟨hHeld, (b_ BK101), (b_ BK102), (b_ BK112), GW112.out, GE112.out, NB101_112.out, NB112_101.out, NB102_112.out, NB112_102.out, (l_ HB)⟩)
              ·skip
               rintro gb112 w28 ⟨hS_, h0_, h1_, h2_, h3_, h4_, h5_, h6_, h7_, h8_, h9_⟩
               have n0_ : Aside0 (w28.heap[gb101]? = some (.cells #[.int .i64 a0_0, .int .i64 a0_1, .int .i64 a0_2, .int .i64 a0_3] 24 (0, 0))) := ⟨h0_⟩
               have n1_ : Aside0 (w28.heap[gb102]? = some (.cells #[.int .i64 a1_0, .int .i64 a1_1] 30 (0, 0))) := ⟨h1_⟩
               have n2_ : Aside0 (w28.heap[gb112]? = some (.cells #[.int .i64 0, .int .i64 0] 30 (0, 0))) := ⟨h2_⟩
               have n3_ : Aside0 (w.heap.size ≤ gb112) := ⟨h3_⟩
               have n4_ : Aside0 (w.heap.size ≤ gb112) := ⟨h4_⟩
               have n5_ : Aside0 (gb101 ≠ gb112) := ⟨h5_⟩
               have n6_ : Aside0 (gb112 ≠ gb101) := ⟨h6_⟩
               have n7_ : Aside0 (gb102 ≠ gb112) := ⟨h7_⟩
               have n8_ : Aside0 (gb112 ≠ gb102) := ⟨h8_⟩
               have n9_ : Aside0 (Below w.heap.size w w28) := ⟨h9_⟩
               clear BK101 BK102 HB h0_ h1_ h2_ h3_ h4_ h5_ h6_ h7_ h8_ h9_
               have BK101 := n0_
               have BK102 := n1_
               have BK112 := n2_
               have GW112 := n3_
               have GE112 := n4_
               have NB101_112 := n5_
               have NB112_101 := n6_
               have NB102_112 := n7_
               have NB112_102 := n8_
               have HB := n9_
               clear n0_ n1_ n2_ n3_ n4_ n5_ n6_ n7_ n8_ n9_
               have hHeld : w28.cell? ⟨gb101, 0, none⟩ = some (.int .i64 a0_0) ∧ w28.cell? ⟨gb101, 1, none⟩ = some (.int .i64 a0_1) ∧ w28.cell? ⟨gb101, 2, none⟩ = some (.int .i64 a0_2) ∧ w28.cell? ⟨gb101, 3, none⟩ = some (.int .i64 a0_3) := hS_
               refine norm_ (a' := ?_) ?_ ?_
               rotate_left
               ·simp only [putAll, Act.put, List.setIfInBounds_toArray, List.set_cons_zero, List.set_cons_succ]
                rfl
               refine twoq_ 3 8 (some 30) (some 7) HT_ (fun K hK => ?_) (fun K hK => ?_)
               ·skip
                refine goesq_ Try.func21 #[.agg #[.int .i64 a0_0, .int .i64 a0_1], .int .i64 a2] ?_
                with_reducible refine (grid_Of.calls a0_0 a0_1 a2 t107 t108 _ A23.out).mono ?_
                rintro e w29 ⟨rfl, hb⟩
                refine ⟨_, rfl, ?_⟩
                replace BK101 := bb_ BK101 hb
                replace BK102 := bb_ BK102 hb
                replace BK112 := bb_ BK112 hb
                replace HB := st_ HB hb
                try clear hb
                refine hK.out _ _ ⟨(blk_cell BK101.out 0).trans rfl, (blk_cell BK101.out 1).trans rfl, (blk_cell BK101.out 2).trans rfl, (blk_cell BK101.out 3).trans rfl⟩ (fun hHeld => ?_)
                clear hK K
                refine normq_ 30 ?_
                exact norm_ (by first | (simp only [putAll, Act.put, List.setIfInBounds_toArray, List.set_cons_zero, List.set_cons_succ]; done) | (simp only [putAll, Act.put, List.setIfInBounds_toArray, List.set_cons_zero, List.set_cons_succ]; rfl)) (hJ3_9 (gb112) _ ⟨hHeld, (b_ BK101), (b_ BK102), (b_ BK112), GW112.out, GE112.out, NB101_112.out, NB112_101.out, NB102_112.out, NB112_102.out, (l_ HB)⟩)
               ·skip
                refine boxsq_ 7 #[.int .i64 0, .int .i64 0] 30 ?_
                intro gb111 hg w29 hbox hb
                have BK111 := A_ (hbox)
                have GW111 := ge_ HB hg
                replace HB := st_ HB hb
                have GE111 := GW111
                have NB101_111 := ne_ BK101 hg
                replace BK101 := bb_ BK101 hb
                have NB111_101 := A_ NB101_111.out.symm
                have NB102_111 := ne_ BK102 hg
                replace BK102 := bb_ BK102 hb
                have NB111_102 := A_ NB102_111.out.symm
                have NB112_111 := ne_ BK112 hg
                replace BK112 := bb_ BK112 hb
                have NB111_112 := A_ NB112_111.out.symm
                clear hb hbox hg
                refine hK.out _ _ ⟨(blk_cell BK101.out 0).trans rfl, (blk_cell BK101.out 1).trans rfl, (blk_cell BK101.out 2).trans rfl, (blk_cell BK101.out 3).trans rfl⟩ (fun hHeld => ?_)
                clear hK K
                refine normq_ 7 ?_
                exact norm_ (by first | (simp only [putAll, Act.put, List.setIfInBounds_toArray, List.set_cons_zero, List.set_cons_succ]; done) | (simp only [putAll, Act.put, List.setIfInBounds_toArray, List.set_cons_zero, List.set_cons_succ]; rfl)) (hJ8_9 (gb111, gb112) _ ⟨hHeld, (b_ BK101), (b_ BK102), (b_ BK111), (b_ BK112), GW111.out, GE111.out, NB101_111.out, NB111_101.out, NB102_111.out, NB111_102.out, NB112_111.out, NB111_112.out, GW112.out, GE112.out, NB101_112.out, NB112_101.out, NB102_112.out, NB112_102.out, (l_ HB)⟩)
             ·skip
              rintro gb111 w28 ⟨hS_, h0_, h1_, h2_, h3_, h4_, h5_, h6_, h7_, h8_, h9_⟩
              have n0_ : Aside0 (w28.heap[gb101]? = some (.cells #[.int .i64 a0_0, .int .i64 a0_1, .int .i64 a0_2, .int .i64 a0_3] 24 (0, 0))) := ⟨h0_⟩
              have n1_ : Aside0 (w28.heap[gb102]? = some (.cells #[.int .i64 a1_0, .int .i64 a1_1] 30 (0, 0))) := ⟨h1_⟩
              have n2_ : Aside0 (w28.heap[gb111]? = some (.cells #[.int .i64 0, .int .i64 0] 30 (0, 0))) := ⟨h2_⟩
              have n3_ : Aside0 (w.heap.size ≤ gb111) := ⟨h3_⟩
              have n4_ : Aside0 (w.heap.size ≤ gb111) := ⟨h4_⟩
              have n5_ : Aside0 (gb101 ≠ gb111) := ⟨h5_⟩
              have n6_ : Aside0 (gb111 ≠ gb101) := ⟨h6_⟩
              have n7_ : Aside0 (gb102 ≠ gb111) := ⟨h7_⟩
              have n8_ : Aside0 (gb111 ≠ gb102) := ⟨h8_⟩
              have n9_ : Aside0 (Below w.heap.size w w28) := ⟨h9_⟩
              clear BK101 BK102 HB h0_ h1_ h2_ h3_ h4_ h5_ h6_ h7_ h8_ h9_
              have BK101 := n0_
              have BK102 := n1_
              have BK111 := n2_
              have GW111 := n3_
              have GE111 := n4_
              have NB101_111 := n5_
              have NB111_101 := n6_
              have NB102_111 := n7_
              have NB111_102 := n8_
              have HB := n9_
              clear n0_ n1_ n2_ n3_ n4_ n5_ n6_ n7_ n8_ n9_
              have hHeld : w28.cell? ⟨gb101, 0, none⟩ = some (.int .i64 a0_0) ∧ w28.cell? ⟨gb101, 1, none⟩ = some (.int .i64 a0_1) ∧ w28.cell? ⟨gb101, 2, none⟩ = some (.int .i64 a0_2) ∧ w28.cell? ⟨gb101, 3, none⟩ = some (.int .i64 a0_3) := hS_
              refine norm_ (a' := ?_) ?_ ?_
              rotate_left
              ·simp only [putAll, Act.put, List.setIfInBounds_toArray, List.set_cons_zero, List.set_cons_succ]
               rfl
              refine twoq_ 3 9 (some 30) (some 8) HT_ (fun K hK => ?_) (fun K hK => ?_)
              ·skip
               refine goesq_ Try.func21 #[.agg #[.int .i64 a0_0, .int .i64 a0_1], .int .i64 a2] ?_
               with_reducible refine (grid_Of.calls a0_0 a0_1 a2 t107 t108 _ A23.out).mono ?_
               rintro e w29 ⟨rfl, hb⟩
               refine ⟨_, rfl, ?_⟩
               replace BK101 := bb_ BK101 hb
               replace BK102 := bb_ BK102 hb
               replace BK111 := bb_ BK111 hb
               replace HB := st_ HB hb
               try clear hb
               refine hK.out _ _ ⟨(blk_cell BK101.out 0).trans rfl, (blk_cell BK101.out 1).trans rfl, (blk_cell BK101.out 2).trans rfl, (blk_cell BK101.out 3).trans rfl⟩ (fun hHeld => ?_)
               clear hK K
               refine normq_ 30 ?_
               exact norm_ (by first | (simp only [putAll, Act.put, List.setIfInBounds_toArray, List.set_cons_zero, List.set_cons_succ]; done) | (simp only [putAll, Act.put, List.setIfInBounds_toArray, List.set_cons_zero, List.set_cons_succ]; rfl)) (hJ3_8 (gb111) _ ⟨hHeld, (b_ BK101), (b_ BK102), (b_ BK111), GW111.out, GE111.out, NB101_111.out, NB111_101.out, NB102_111.out, NB111_102.out, (l_ HB)⟩)
              ·skip
               refine boxsq_ 8 #[.int .i64 0, .int .i64 0] 30 ?_
               intro gb112 hg w29 hbox hb
               have BK112 := A_ (hbox)
               have GW112 := ge_ HB hg
               replace HB := st_ HB hb
               have GE112 := GW112
               have NB101_112 := ne_ BK101 hg
               replace BK101 := bb_ BK101 hb
               have NB112_101 := A_ NB101_112.out.symm
               have NB102_112 := ne_ BK102 hg
               replace BK102 := bb_ BK102 hb
               have NB112_102 := A_ NB102_112.out.symm
               have NB111_112 := ne_ BK111 hg
               replace BK111 := bb_ BK111 hb
               have NB112_111 := A_ NB111_112.out.symm
               clear hb hbox hg
               refine hK.out _ _ ⟨(blk_cell BK101.out 0).trans rfl, (blk_cell BK101.out 1).trans rfl, (blk_cell BK101.out 2).trans rfl, (blk_cell BK101.out 3).trans rfl⟩ (fun hHeld => ?_)
               clear hK K
               refine normq_ 8 ?_
               exact norm_ (by first | (simp only [putAll, Act.put, List.setIfInBounds_toArray, List.set_cons_zero, List.set_cons_succ]; done) | (simp only [putAll, Act.put, List.setIfInBounds_toArray, List.set_cons_zero, List.set_cons_succ]; rfl)) (hJ8_9 (gb111, gb112) _ ⟨hHeld, (b_ BK101), (b_ BK102), (b_ BK111), (b_ BK112), GW111.out, GE111.out, NB101_111.out, NB111_101.out, NB102_111.out, NB111_102.out, NB112_111.out, NB111_112.out, GW112.out, GE112.out, NB101_112.out, NB112_101.out, NB102_112.out, NB112_102.out, (l_ HB)⟩)
            ·skip
             rintro _ w28 ⟨hS_, h0_, h1_, h2_⟩
             have n0_ : Aside0 (w28.heap[gb101]? = some (.cells #[.int .i64 a0_0, .int .i64 a0_1, .int .i64 a0_2, .int .i64 a0_3] 24 (0, 0))) := ⟨h0_⟩
             have n1_ : Aside0 (w28.heap[gb102]? = some (.cells #[.int .i64 a1_0, .int .i64 a1_1] 30 (0, 0))) := ⟨h1_⟩
             have n2_ : Aside0 (Below w.heap.size w w28) := ⟨h2_⟩
             clear BK101 BK102 HB h0_ h1_ h2_
             have BK101 := n0_
             have BK102 := n1_
             have HB := n2_
             clear n0_ n1_ n2_
             have hHeld : w28.cell? ⟨gb101, 0, none⟩ = some (.int .i64 a0_0) ∧ w28.cell? ⟨gb101, 1, none⟩ = some (.int .i64 a0_1) ∧ w28.cell? ⟨gb101, 2, none⟩ = some (.int .i64 a0_2) ∧ w28.cell? ⟨gb101, 3, none⟩ = some (.int .i64 a0_3) := hS_
             refine norm_ (a' := ?_) ?_ ?_
             rotate_left
             ·simp only [putAll, Act.put, List.setIfInBounds_toArray, List.set_cons_zero, List.set_cons_succ]
              rfl
             refine three_ (i := 7) (j := 8) (k := 9) (Ni := some 34) (Nj := some 7) (Nk := some 8) (bb 12 255) (bb 12 383) (bb 12 639) rfl rfl rfl rfl rfl rfl (three_of HT_.out (by kernel_rfl)) (by decide) (by decide) (by decide) (fun K hK => ?_) (fun K hK => ?_) (fun K hK => ?_)
             ·skip
              refine goesq_ Try.func21 #[.agg #[.int .i64 a0_2, .int .i64 a0_3], .int .i64 a2] ?_
              with_reducible refine (grid_Of.calls a0_2 a0_3 a2 t109 t110 _ A24.out).mono ?_
              rintro e w29 ⟨rfl, hb⟩
              refine ⟨_, rfl, ?_⟩
              replace BK101 := bb_ BK101 hb
              replace BK102 := bb_ BK102 hb
              replace HB := st_ HB hb
              try clear hb
              refine hK.out _ _ ⟨(blk_cell BK101.out 0).trans rfl, (blk_cell BK101.out 1).trans rfl, (blk_cell BK101.out 2).trans rfl, (blk_cell BK101.out 3).trans rfl⟩ (fun hHeld => ?_)
              clear hK K
              refine normq_ 34 ?_
              exact norm_ (by first | (simp only [putAll, Act.put, List.setIfInBounds_toArray, List.set_cons_zero, List.set_cons_succ]; done) | (simp only [putAll, Act.put, List.setIfInBounds_toArray, List.set_cons_zero, List.set_cons_succ]; rfl)) (hJ3_7 () _ ⟨hHeld, (b_ BK101), (b_ BK102), (l_ HB)⟩)
             ·skip
              refine boxsq_ 7 #[.int .i64 0, .int .i64 0] 30 ?_
              intro gb111 hg w29 hbox hb
              have BK111 := A_ (hbox)
              have GW111 := ge_ HB hg
              replace HB := st_ HB hb
              have GE111 := GW111
              have NB101_111 := ne_ BK101 hg
              replace BK101 := bb_ BK101 hb
              have NB111_101 := A_ NB101_111.out.symm
              have NB102_111 := ne_ BK102 hg
              replace BK102 := bb_ BK102 hb
              have NB111_102 := A_ NB102_111.out.symm
              clear hb hbox hg
              refine hK.out _ _ ⟨(blk_cell BK101.out 0).trans rfl, (blk_cell BK101.out 1).trans rfl, (blk_cell BK101.out 2).trans rfl, (blk_cell BK101.out 3).trans rfl⟩ (fun hHeld => ?_)
              clear hK K
              refine normq_ 7 ?_
              exact norm_ (by first | (simp only [putAll, Act.put, List.setIfInBounds_toArray, List.set_cons_zero, List.set_cons_succ]; done) | (simp only [putAll, Act.put, List.setIfInBounds_toArray, List.set_cons_zero, List.set_cons_succ]; rfl)) (hJ3_8 (gb111) _ ⟨hHeld, (b_ BK101), (b_ BK102), (b_ BK111), GW111.out, GE111.out, NB101_111.out, NB111_101.out, NB102_111.out, NB111_102.out, (l_ HB)⟩)
             ·skip
              refine boxsq_ 8 #[.int .i64 0, .int .i64 0] 30 ?_
              intro gb112 hg w29 hbox hb
              have BK112 := A_ (hbox)
              have GW112 := ge_ HB hg
              replace HB := st_ HB hb
              have GE112 := GW112
              have NB101_112 := ne_ BK101 hg
              replace BK101 := bb_ BK101 hb
              have NB112_101 := A_ NB101_112.out.symm
              have NB102_112 := ne_ BK102 hg
              replace BK102 := bb_ BK102 hb
              have NB112_102 := A_ NB102_112.out.symm
              clear hb hbox hg
              refine hK.out _ _ ⟨(blk_cell BK101.out 0).trans rfl, (blk_cell BK101.out 1).trans rfl, (blk_cell BK101.out 2).trans rfl, (blk_cell BK101.out 3).trans rfl⟩ (fun hHeld => ?_)
              clear hK K
              refine normq_ 8 ?_
              exact norm_ (by first | (simp only [putAll, Act.put, List.setIfInBounds_toArray, List.set_cons_zero, List.set_cons_succ]; done) | (simp only [putAll, Act.put, List.setIfInBounds_toArray, List.set_cons_zero, List.set_cons_succ]; rfl)) (hJ3_9 (gb112) _ ⟨hHeld, (b_ BK101), (b_ BK102), (b_ BK112), GW112.out, GE112.out, NB101_112.out, NB112_101.out, NB102_112.out, NB112_102.out, (l_ HB)⟩)
           ·skip
            rintro ⟨gb111, gb112⟩ w29 ⟨hS_, h0_, h1_, h2_, h3_, h4_, h5_, h6_, h7_, h8_, h9_, h10_, h11_, h12_, h13_, h14_, h15_, h16_, h17_, h18_⟩
            have n0_ : Aside0 (w29.heap[gb101]? = some (.cells #[.int .i64 a0_0, .int .i64 a0_1, .int .i64 a0_2, .int .i64 a0_3] 24 (0, 0))) := ⟨h0_⟩
            have n1_ : Aside0 (w29.heap[gb102]? = some (.cells #[.int .i64 a1_0, .int .i64 a1_1] 30 (0, 0))) := ⟨h1_⟩
            have n2_ : Aside0 (w29.heap[gb111]? = some (.cells #[.int .i64 0, .int .i64 0] 30 (0, 0))) := ⟨h2_⟩
            have n3_ : Aside0 (w29.heap[gb112]? = some (.cells #[.int .i64 0, .int .i64 0] 30 (0, 0))) := ⟨h3_⟩
            have n4_ : Aside0 (w.heap.size ≤ gb111) := ⟨h4_⟩
            have n5_ : Aside0 (w.heap.size ≤ gb111) := ⟨h5_⟩
            have n6_ : Aside0 (gb101 ≠ gb111) := ⟨h6_⟩
            have n7_ : Aside0 (gb111 ≠ gb101) := ⟨h7_⟩
            have n8_ : Aside0 (gb102 ≠ gb111) := ⟨h8_⟩
            have n9_ : Aside0 (gb111 ≠ gb102) := ⟨h9_⟩
            have n10_ : Aside0 (gb112 ≠ gb111) := ⟨h10_⟩
            have n11_ : Aside0 (gb111 ≠ gb112) := ⟨h11_⟩
            have n12_ : Aside0 (w.heap.size ≤ gb112) := ⟨h12_⟩
            have n13_ : Aside0 (w.heap.size ≤ gb112) := ⟨h13_⟩
            have n14_ : Aside0 (gb101 ≠ gb112) := ⟨h14_⟩
            have n15_ : Aside0 (gb112 ≠ gb101) := ⟨h15_⟩
            have n16_ : Aside0 (gb102 ≠ gb112) := ⟨h16_⟩
            have n17_ : Aside0 (gb112 ≠ gb102) := ⟨h17_⟩
            have n18_ : Aside0 (Below w.heap.size w w29) := ⟨h18_⟩
            clear BK101 BK102 HB h0_ h1_ h2_ h3_ h4_ h5_ h6_ h7_ h8_ h9_ h10_ h11_ h12_ h13_ h14_ h15_ h16_ h17_ h18_
            have BK101 := n0_
            have BK102 := n1_
            have BK111 := n2_
            have BK112 := n3_
            have GW111 := n4_
            have GE111 := n5_
            have NB101_111 := n6_
            have NB111_101 := n7_
            have NB102_111 := n8_
            have NB111_102 := n9_
            have NB112_111 := n10_
            have NB111_112 := n11_
            have GW112 := n12_
            have GE112 := n13_
            have NB101_112 := n14_
            have NB112_101 := n15_
            have NB102_112 := n16_
            have NB112_102 := n17_
            have HB := n18_
            clear n0_ n1_ n2_ n3_ n4_ n5_ n6_ n7_ n8_ n9_ n10_ n11_ n12_ n13_ n14_ n15_ n16_ n17_ n18_
            have hHeld : w29.cell? ⟨gb101, 0, none⟩ = some (.int .i64 a0_0) ∧ w29.cell? ⟨gb101, 1, none⟩ = some (.int .i64 a0_1) ∧ w29.cell? ⟨gb101, 2, none⟩ = some (.int .i64 a0_2) ∧ w29.cell? ⟨gb101, 3, none⟩ = some (.int .i64 a0_3) := hS_
            refine norm_ (a' := ?_) ?_ ?_
            rotate_left
            ·simp only [putAll, Act.put, List.setIfInBounds_toArray, List.set_cons_zero, List.set_cons_succ]
             rfl
            refine oneq_ 3 (some 30) HT_ (fun K hK => ?_)
            refine goesq_ Try.func21 #[.agg #[.int .i64 a0_0, .int .i64 a0_1], .int .i64 a2] ?_
            with_reducible refine (grid_Of.calls a0_0 a0_1 a2 t107 t108 _ A23.out).mono ?_
            rintro e w30 ⟨rfl, hb⟩
            refine ⟨_, rfl, ?_⟩
            replace BK101 := bb_ BK101 hb
            replace BK102 := bb_ BK102 hb
            replace BK111 := bb_ BK111 hb
            replace BK112 := bb_ BK112 hb
            replace HB := st_ HB hb
            try clear hb
            refine hK.out _ _ ⟨(blk_cell BK101.out 0).trans rfl, (blk_cell BK101.out 1).trans rfl, (blk_cell BK101.out 2).trans rfl, (blk_cell BK101.out 3).trans rfl⟩ (fun hHeld => ?_)
            clear hK K
            refine normq_ 30 ?_
            exact norm_ (by first | (simp only [putAll, Act.put, List.setIfInBounds_toArray, List.set_cons_zero, List.set_cons_succ]; done) | (simp only [putAll, Act.put, List.setIfInBounds_toArray, List.set_cons_zero, List.set_cons_succ]; rfl)) (hJ3_8_9 (gb111, gb112) _ ⟨hHeld, (b_ BK101), (b_ BK102), (b_ BK111), (b_ BK112), GW111.out, GE111.out, NB101_111.out, NB111_101.out, NB102_111.out, NB111_102.out, NB112_111.out, NB111_112.out, GW112.out, GE112.out, NB101_112.out, NB112_101.out, NB102_112.out, NB112_102.out, (l_ HB)⟩)
          ·skip
           rintro gb112 w29 ⟨hS_, h0_, h1_, h2_, h3_, h4_, h5_, h6_, h7_, h8_, h9_⟩
           have n0_ : Aside0 (w29.heap[gb101]? = some (.cells #[.int .i64 a0_0, .int .i64 a0_1, .int .i64 a0_2, .int .i64 a0_3] 24 (0, 0))) := ⟨h0_⟩
           have n1_ : Aside0 (w29.heap[gb102]? = some (.cells #[.int .i64 a1_0, .int .i64 a1_1] 30 (0, 0))) := ⟨h1_⟩
           have n2_ : Aside0 (w29.heap[gb112]? = some (.cells #[.int .i64 0, .int .i64 0] 30 (0, 0))) := ⟨h2_⟩
           have n3_ : Aside0 (w.heap.size ≤ gb112) := ⟨h3_⟩
           have n4_ : Aside0 (w.heap.size ≤ gb112) := ⟨h4_⟩
           have n5_ : Aside0 (gb101 ≠ gb112) := ⟨h5_⟩
           have n6_ : Aside0 (gb112 ≠ gb101) := ⟨h6_⟩
           have n7_ : Aside0 (gb102 ≠ gb112) := ⟨h7_⟩
           have n8_ : Aside0 (gb112 ≠ gb102) := ⟨h8_⟩
           have n9_ : Aside0 (Below w.heap.size w w29) := ⟨h9_⟩
           clear BK101 BK102 HB h0_ h1_ h2_ h3_ h4_ h5_ h6_ h7_ h8_ h9_
           have BK101 := n0_
           have BK102 := n1_
           have BK112 := n2_
           have GW112 := n3_
           have GE112 := n4_
           have NB101_112 := n5_
           have NB112_101 := n6_
           have NB102_112 := n7_
           have NB112_102 := n8_
           have HB := n9_
           clear n0_ n1_ n2_ n3_ n4_ n5_ n6_ n7_ n8_ n9_
           have hHeld : w29.cell? ⟨gb101, 0, none⟩ = some (.int .i64 a0_0) ∧ w29.cell? ⟨gb101, 1, none⟩ = some (.int .i64 a0_1) ∧ w29.cell? ⟨gb101, 2, none⟩ = some (.int .i64 a0_2) ∧ w29.cell? ⟨gb101, 3, none⟩ = some (.int .i64 a0_3) := hS_
           refine norm_ (a' := ?_) ?_ ?_
           rotate_left
           ·simp only [putAll, Act.put, List.setIfInBounds_toArray, List.set_cons_zero, List.set_cons_succ]
            rfl
           refine twoq_ 7 8 (some 34) (some 7) HT_ (fun K hK => ?_) (fun K hK => ?_)
           ·skip
            refine goesq_ Try.func21 #[.agg #[.int .i64 a0_2, .int .i64 a0_3], .int .i64 a2] ?_
            with_reducible refine (grid_Of.calls a0_2 a0_3 a2 t109 t110 _ A24.out).mono ?_
            rintro e w30 ⟨rfl, hb⟩
            refine ⟨_, rfl, ?_⟩
            replace BK101 := bb_ BK101 hb
            replace BK102 := bb_ BK102 hb
            replace BK112 := bb_ BK112 hb
            replace HB := st_ HB hb
            try clear hb
            refine hK.out _ _ ⟨(blk_cell BK101.out 0).trans rfl, (blk_cell BK101.out 1).trans rfl, (blk_cell BK101.out 2).trans rfl, (blk_cell BK101.out 3).trans rfl⟩ (fun hHeld => ?_)
            clear hK K
            refine normq_ 34 ?_
            exact norm_ (by first | (simp only [putAll, Act.put, List.setIfInBounds_toArray, List.set_cons_zero, List.set_cons_succ]; done) | (simp only [putAll, Act.put, List.setIfInBounds_toArray, List.set_cons_zero, List.set_cons_succ]; rfl)) (hJ3_7_9 (gb112) _ ⟨hHeld, (b_ BK101), (b_ BK102), (b_ BK112), GW112.out, GE112.out, NB101_112.out, NB112_101.out, NB102_112.out, NB112_102.out, (l_ HB)⟩)
           ·skip
            refine boxsq_ 7 #[.int .i64 0, .int .i64 0] 30 ?_
            intro gb111 hg w30 hbox hb
            have BK111 := A_ (hbox)
            have GW111 := ge_ HB hg
            replace HB := st_ HB hb
            have GE111 := GW111
            have NB101_111 := ne_ BK101 hg
            replace BK101 := bb_ BK101 hb
            have NB111_101 := A_ NB101_111.out.symm
            have NB102_111 := ne_ BK102 hg
            replace BK102 := bb_ BK102 hb
            have NB111_102 := A_ NB102_111.out.symm
            have NB112_111 := ne_ BK112 hg
            replace BK112 := bb_ BK112 hb
            have NB111_112 := A_ NB112_111.out.symm
            clear hb hbox hg
            refine hK.out _ _ ⟨(blk_cell BK101.out 0).trans rfl, (blk_cell BK101.out 1).trans rfl, (blk_cell BK101.out 2).trans rfl, (blk_cell BK101.out 3).trans rfl⟩ (fun hHeld => ?_)
            clear hK K
            refine normq_ 7 ?_
            exact norm_ (by first | (simp only [putAll, Act.put, List.setIfInBounds_toArray, List.set_cons_zero, List.set_cons_succ]; done) | (simp only [putAll, Act.put, List.setIfInBounds_toArray, List.set_cons_zero, List.set_cons_succ]; rfl)) (hJ3_8_9 (gb111, gb112) _ ⟨hHeld, (b_ BK101), (b_ BK102), (b_ BK111), (b_ BK112), GW111.out, GE111.out, NB101_111.out, NB111_101.out, NB102_111.out, NB111_102.out, NB112_111.out, NB111_112.out, GW112.out, GE112.out, NB101_112.out, NB112_101.out, NB102_112.out, NB112_102.out, (l_ HB)⟩)
         ·skip
          rintro gb111 w29 ⟨hS_, h0_, h1_, h2_, h3_, h4_, h5_, h6_, h7_, h8_, h9_⟩
          have n0_ : Aside0 (w29.heap[gb101]? = some (.cells #[.int .i64 a0_0, .int .i64 a0_1, .int .i64 a0_2, .int .i64 a0_3] 24 (0, 0))) := ⟨h0_⟩
          have n1_ : Aside0 (w29.heap[gb102]? = some (.cells #[.int .i64 a1_0, .int .i64 a1_1] 30 (0, 0))) := ⟨h1_⟩
          have n2_ : Aside0 (w29.heap[gb111]? = some (.cells #[.int .i64 0, .int .i64 0] 30 (0, 0))) := ⟨h2_⟩
          have n3_ : Aside0 (w.heap.size ≤ gb111) := ⟨h3_⟩
          have n4_ : Aside0 (w.heap.size ≤ gb111) := ⟨h4_⟩
          have n5_ : Aside0 (gb101 ≠ gb111) := ⟨h5_⟩
          have n6_ : Aside0 (gb111 ≠ gb101) := ⟨h6_⟩
          have n7_ : Aside0 (gb102 ≠ gb111) := ⟨h7_⟩
          have n8_ : Aside0 (gb111 ≠ gb102) := ⟨h8_⟩
          have n9_ : Aside0 (Below w.heap.size w w29) := ⟨h9_⟩
          clear BK101 BK102 HB h0_ h1_ h2_ h3_ h4_ h5_ h6_ h7_ h8_ h9_
          have BK101 := n0_
          have BK102 := n1_
          have BK111 := n2_
          have GW111 := n3_
          have GE111 := n4_
          have NB101_111 := n5_
          have NB111_101 := n6_
          have NB102_111 := n7_
          have NB111_102 := n8_
          have HB := n9_
          clear n0_ n1_ n2_ n3_ n4_ n5_ n6_ n7_ n8_ n9_
          have hHeld : w29.cell? ⟨gb101, 0, none⟩ = some (.int .i64 a0_0) ∧ w29.cell? ⟨gb101, 1, none⟩ = some (.int .i64 a0_1) ∧ w29.cell? ⟨gb101, 2, none⟩ = some (.int .i64 a0_2) ∧ w29.cell? ⟨gb101, 3, none⟩ = some (.int .i64 a0_3) := hS_
          refine norm_ (a' := ?_) ?_ ?_
          rotate_left
          ·simp only [putAll, Act.put, List.setIfInBounds_toArray, List.set_cons_zero, List.set_cons_succ]
           rfl
          refine twoq_ 7 9 (some 34) (some 8) HT_ (fun K hK => ?_) (fun K hK => ?_)
          ·skip
           refine goesq_ Try.func21 #[.agg #[.int .i64 a0_2, .int .i64 a0_3], .int .i64 a2] ?_
           with_reducible refine (grid_Of.calls a0_2 a0_3 a2 t109 t110 _ A24.out).mono ?_
           rintro e w30 ⟨rfl, hb⟩
           refine ⟨_, rfl, ?_⟩
           replace BK101 := bb_ BK101 hb
           replace BK102 := bb_ BK102 hb
           replace BK111 := bb_ BK111 hb
           replace HB := st_ HB hb
           try clear hb
           refine hK.out _ _ ⟨(blk_cell BK101.out 0).trans rfl, (blk_cell BK101.out 1).trans rfl, (blk_cell BK101.out 2).trans rfl, (blk_cell BK101.out 3).trans rfl⟩ (fun hHeld => ?_)
           clear hK K
           refine normq_ 34 ?_
           exact norm_ (by first | (simp only [putAll, Act.put, List.setIfInBounds_toArray, List.set_cons_zero, List.set_cons_succ]; done) | (simp only [putAll, Act.put, List.setIfInBounds_toArray, List.set_cons_zero, List.set_cons_succ]; rfl)) (hJ3_7_8 (gb111) _ ⟨hHeld, (b_ BK101), (b_ BK102), (b_ BK111), GW111.out, GE111.out, NB101_111.out, NB111_101.out, NB102_111.out, NB111_102.out, (l_ HB)⟩)
          ·skip
           refine boxsq_ 8 #[.int .i64 0, .int .i64 0] 30 ?_
           intro gb112 hg w30 hbox hb
           have BK112 := A_ (hbox)
           have GW112 := ge_ HB hg
           replace HB := st_ HB hb
           have GE112 := GW112
           have NB101_112 := ne_ BK101 hg
           replace BK101 := bb_ BK101 hb
           have NB112_101 := A_ NB101_112.out.symm
           have NB102_112 := ne_ BK102 hg
           replace BK102 := bb_ BK102 hb
           have NB112_102 := A_ NB102_112.out.symm
           have NB111_112 := ne_ BK111 hg
           replace BK111 := bb_ BK111 hb
           have NB112_111 := A_ NB111_112.out.symm
           clear hb hbox hg
           refine hK.out _ _ ⟨(blk_cell BK101.out 0).trans rfl, (blk_cell BK101.out 1).trans rfl, (blk_cell BK101.out 2).trans rfl, (blk_cell BK101.out 3).trans rfl⟩ (fun hHeld => ?_)
           clear hK K
           refine normq_ 8 ?_
           exact norm_ (by first | (simp only [putAll, Act.put, List.setIfInBounds_toArray, List.set_cons_zero, List.set_cons_succ]; done) | (simp only [putAll, Act.put, List.setIfInBounds_toArray, List.set_cons_zero, List.set_cons_succ]; rfl)) (hJ3_8_9 (gb111, gb112) _ ⟨hHeld, (b_ BK101), (b_ BK102), (b_ BK111), (b_ BK112), GW111.out, GE111.out, NB101_111.out, NB111_101.out, NB102_111.out, NB111_102.out, NB112_111.out, NB111_112.out, GW112.out, GE112.out, NB101_112.out, NB112_101.out, NB102_112.out, NB112_102.out, (l_ HB)⟩)
        ·skip
         rintro _ w29 ⟨hS_, h0_, h1_, h2_⟩
         have n0_ : Aside0 (w29.heap[gb101]? = some (.cells #[.int .i64 a0_0, .int .i64 a0_1, .int .i64 a0_2, .int .i64 a0_3] 24 (0, 0))) := ⟨h0_⟩
         have n1_ : Aside0 (w29.heap[gb102]? = some (.cells #[.int .i64 a1_0, .int .i64 a1_1] 30 (0, 0))) := ⟨h1_⟩
         have n2_ : Aside0 (Below w.heap.size w w29) := ⟨h2_⟩
         clear BK101 BK102 HB h0_ h1_ h2_
         have BK101 := n0_
         have BK102 := n1_
         have HB := n2_
         clear n0_ n1_ n2_
         have hHeld : w29.cell? ⟨gb101, 0, none⟩ = some (.int .i64 a0_0) ∧ w29.cell? ⟨gb101, 1, none⟩ = some (.int .i64 a0_1) ∧ w29.cell? ⟨gb101, 2, none⟩ = some (.int .i64 a0_2) ∧ w29.cell? ⟨gb101, 3, none⟩ = some (.int .i64 a0_3) := hS_
         refine norm_ (a' := ?_) ?_ ?_
         rotate_left
         ·simp only [putAll, Act.put, List.setIfInBounds_toArray, List.set_cons_zero, List.set_cons_succ]
          rfl
         refine twoq_ 8 9 (some 7) (some 8) HT_ (fun K hK => ?_) (fun K hK => ?_)
         ·skip
          refine boxsq_ 7 #[.int .i64 0, .int .i64 0] 30 ?_
          intro gb111 hg w30 hbox hb
          have BK111 := A_ (hbox)
          have GW111 := ge_ HB hg
          replace HB := st_ HB hb
          have GE111 := GW111
          have NB101_111 := ne_ BK101 hg
          replace BK101 := bb_ BK101 hb
          have NB111_101 := A_ NB101_111.out.symm
          have NB102_111 := ne_ BK102 hg
          replace BK102 := bb_ BK102 hb
          have NB111_102 := A_ NB102_111.out.symm
          clear hb hbox hg
          refine hK.out _ _ ⟨(blk_cell BK101.out 0).trans rfl, (blk_cell BK101.out 1).trans rfl, (blk_cell BK101.out 2).trans rfl, (blk_cell BK101.out 3).trans rfl⟩ (fun hHeld => ?_)
          clear hK K
          refine normq_ 7 ?_
          exact norm_ (by first | (simp only [putAll, Act.put, List.setIfInBounds_toArray, List.set_cons_zero, List.set_cons_succ]; done) | (simp only [putAll, Act.put, List.setIfInBounds_toArray, List.set_cons_zero, List.set_cons_succ]; rfl)) (hJ3_7_8 (gb111) _ ⟨hHeld, (b_ BK101), (b_ BK102), (b_ BK111), GW111.out, GE111.out, NB101_111.out, NB111_101.out, NB102_111.out, NB111_102.out, (l_ HB)⟩)
         ·skip
          refine boxsq_ 8 #[.int .i64 0, .int .i64 0] 30 ?_
          intro gb112 hg w30 hbox hb
          have BK112 := A_ (hbox)
          have GW112 := ge_ HB hg
          replace HB := st_ HB hb
          have GE112 := GW112
          have NB101_112 := ne_ BK101 hg
          replace BK101 := bb_ BK101 hb
          have NB112_101 := A_ NB101_112.out.symm
          have NB102_112 := ne_ BK102 hg
          replace BK102 := bb_ BK102 hb
          have NB112_102 := A_ NB102_112.out.symm
          clear hb hbox hg
          refine hK.out _ _ ⟨(blk_cell BK101.out 0).trans rfl, (blk_cell BK101.out 1).trans rfl, (blk_cell BK101.out 2).trans rfl, (blk_cell BK101.out 3).trans rfl⟩ (fun hHeld => ?_)
          clear hK K
          refine normq_ 8 ?_
          exact norm_ (by first | (simp only [putAll, Act.put, List.setIfInBounds_toArray, List.set_cons_zero, List.set_cons_succ]; done) | (simp only [putAll, Act.put, List.setIfInBounds_toArray, List.set_cons_zero, List.set_cons_succ]; rfl)) (hJ3_7_9 (gb112) _ ⟨hHeld, (b_ BK101), (b_ BK102), (b_ BK112), GW112.out, GE112.out, NB101_112.out, NB112_101.out, NB102_112.out, NB112_102.out, (l_ HB)⟩)
       ·skip
        rintro ⟨gb111, gb112⟩ w30 ⟨hS_, h0_, h1_, h2_, h3_, h4_, h5_, h6_, h7_, h8_, h9_, h10_, h11_, h12_, h13_, h14_, h15_, h16_, h17_, h18_⟩
        have n0_ : Aside0 (w30.heap[gb101]? = some (.cells #[.int .i64 a0_0, .int .i64 a0_1, .int .i64 a0_2, .int .i64 a0_3] 24 (0, 0))) := ⟨h0_⟩
        have n1_ : Aside0 (w30.heap[gb102]? = some (.cells #[.int .i64 a1_0, .int .i64 a1_1] 30 (0, 0))) := ⟨h1_⟩
        have n2_ : Aside0 (w30.heap[gb111]? = some (.cells #[.int .i64 0, .int .i64 0] 30 (0, 0))) := ⟨h2_⟩
        have n3_ : Aside0 (w30.heap[gb112]? = some (.cells #[.int .i64 0, .int .i64 0] 30 (0, 0))) := ⟨h3_⟩
        have n4_ : Aside0 (w.heap.size ≤ gb111) := ⟨h4_⟩
        have n5_ : Aside0 (w.heap.size ≤ gb111) := ⟨h5_⟩
        have n6_ : Aside0 (gb101 ≠ gb111) := ⟨h6_⟩
        have n7_ : Aside0 (gb111 ≠ gb101) := ⟨h7_⟩
        have n8_ : Aside0 (gb102 ≠ gb111) := ⟨h8_⟩
        have n9_ : Aside0 (gb111 ≠ gb102) := ⟨h9_⟩
        have n10_ : Aside0 (gb112 ≠ gb111) := ⟨h10_⟩
        have n11_ : Aside0 (gb111 ≠ gb112) := ⟨h11_⟩
        have n12_ : Aside0 (w.heap.size ≤ gb112) := ⟨h12_⟩
        have n13_ : Aside0 (w.heap.size ≤ gb112) := ⟨h13_⟩
        have n14_ : Aside0 (gb101 ≠ gb112) := ⟨h14_⟩
        have n15_ : Aside0 (gb112 ≠ gb101) := ⟨h15_⟩
        have n16_ : Aside0 (gb102 ≠ gb112) := ⟨h16_⟩
        have n17_ : Aside0 (gb112 ≠ gb102) := ⟨h17_⟩
        have n18_ : Aside0 (Below w.heap.size w w30) := ⟨h18_⟩
        clear BK101 BK102 HB h0_ h1_ h2_ h3_ h4_ h5_ h6_ h7_ h8_ h9_ h10_ h11_ h12_ h13_ h14_ h15_ h16_ h17_ h18_
        have BK101 := n0_
        have BK102 := n1_
        have BK111 := n2_
        have BK112 := n3_
        have GW111 := n4_
        have GE111 := n5_
        have NB101_111 := n6_
        have NB111_101 := n7_
        have NB102_111 := n8_
        have NB111_102 := n9_
        have NB112_111 := n10_
        have NB111_112 := n11_
        have GW112 := n12_
        have GE112 := n13_
        have NB101_112 := n14_
        have NB112_101 := n15_
        have NB102_112 := n16_
        have NB112_102 := n17_
        have HB := n18_
        clear n0_ n1_ n2_ n3_ n4_ n5_ n6_ n7_ n8_ n9_ n10_ n11_ n12_ n13_ n14_ n15_ n16_ n17_ n18_
        have hHeld : w30.cell? ⟨gb101, 0, none⟩ = some (.int .i64 a0_0) ∧ w30.cell? ⟨gb101, 1, none⟩ = some (.int .i64 a0_1) ∧ w30.cell? ⟨gb101, 2, none⟩ = some (.int .i64 a0_2) ∧ w30.cell? ⟨gb101, 3, none⟩ = some (.int .i64 a0_3) := hS_
        refine norm_ (a' := ?_) ?_ ?_
        rotate_left
        ·simp only [putAll, Act.put, List.setIfInBounds_toArray, List.set_cons_zero, List.set_cons_succ]
         rfl
        refine oneq_ 7 (some 34) HT_ (fun K hK => ?_)
        refine goesq_ Try.func21 #[.agg #[.int .i64 a0_2, .int .i64 a0_3], .int .i64 a2] ?_
        with_reducible refine (grid_Of.calls a0_2 a0_3 a2 t109 t110 _ A24.out).mono ?_
        rintro e w31 ⟨rfl, hb⟩
        refine ⟨_, rfl, ?_⟩
        replace BK101 := bb_ BK101 hb
        replace BK102 := bb_ BK102 hb
        replace BK111 := bb_ BK111 hb
        replace BK112 := bb_ BK112 hb
        replace HB := st_ HB hb
        try clear hb
        refine hK.out _ _ ⟨(blk_cell BK101.out 0).trans rfl, (blk_cell BK101.out 1).trans rfl, (blk_cell BK101.out 2).trans rfl, (blk_cell BK101.out 3).trans rfl⟩ (fun hHeld => ?_)
        clear hK K
        refine normq_ 34 ?_
        exact norm_ (by first | (simp only [putAll, Act.put, List.setIfInBounds_toArray, List.set_cons_zero, List.set_cons_succ]; done) | (simp only [putAll, Act.put, List.setIfInBounds_toArray, List.set_cons_zero, List.set_cons_succ]; rfl)) (hJ3_7_8_9 (gb111, gb112) _ ⟨hHeld, (b_ BK101), (b_ BK102), (b_ BK111), (b_ BK112), GW111.out, GE111.out, NB101_111.out, NB111_101.out, NB102_111.out, NB111_102.out, NB112_111.out, NB111_112.out, GW112.out, GE112.out, NB101_112.out, NB112_101.out, NB102_112.out, NB112_102.out, (l_ HB)⟩)
      ·skip
       rintro gb112 w30 ⟨hS_, h0_, h1_, h2_, h3_, h4_, h5_, h6_, h7_, h8_, h9_⟩
       have n0_ : Aside0 (w30.heap[gb101]? = some (.cells #[.int .i64 a0_0, .int .i64 a0_1, .int .i64 a0_2, .int .i64 a0_3] 24 (0, 0))) := ⟨h0_⟩
       have n1_ : Aside0 (w30.heap[gb102]? = some (.cells #[.int .i64 a1_0, .int .i64 a1_1] 30 (0, 0))) := ⟨h1_⟩
       have n2_ : Aside0 (w30.heap[gb112]? = some (.cells #[.int .i64 0, .int .i64 0] 30 (0, 0))) := ⟨h2_⟩
       have n3_ : Aside0 (w.heap.size ≤ gb112) := ⟨h3_⟩
       have n4_ : Aside0 (w.heap.size ≤ gb112) := ⟨h4_⟩
       have n5_ : Aside0 (gb101 ≠ gb112) := ⟨h5_⟩
       have n6_ : Aside0 (gb112 ≠ gb101) := ⟨h6_⟩
       have n7_ : Aside0 (gb102 ≠ gb112) := ⟨h7_⟩
       have n8_ : Aside0 (gb112 ≠ gb102) := ⟨h8_⟩
       have n9_ : Aside0 (Below w.heap.size w w30) := ⟨h9_⟩
       clear BK101 BK102 HB h0_ h1_ h2_ h3_ h4_ h5_ h6_ h7_ h8_ h9_
       have BK101 := n0_
       have BK102 := n1_
       have BK112 := n2_
       have GW112 := n3_
       have GE112 := n4_
       have NB101_112 := n5_
       have NB112_101 := n6_
       have NB102_112 := n7_
       have NB112_102 := n8_
       have HB := n9_
       clear n0_ n1_ n2_ n3_ n4_ n5_ n6_ n7_ n8_ n9_
       have hHeld : w30.cell? ⟨gb101, 0, none⟩ = some (.int .i64 a0_0) ∧ w30.cell? ⟨gb101, 1, none⟩ = some (.int .i64 a0_1) ∧ w30.cell? ⟨gb101, 2, none⟩ = some (.int .i64 a0_2) ∧ w30.cell? ⟨gb101, 3, none⟩ = some (.int .i64 a0_3) := hS_
       refine norm_ (a' := ?_) ?_ ?_
       rotate_left
       ·simp only [putAll, Act.put, List.setIfInBounds_toArray, List.set_cons_zero, List.set_cons_succ]
        rfl
       refine oneq_ 8 (some 7) HT_ (fun K hK => ?_)
       refine boxsq_ 7 #[.int .i64 0, .int .i64 0] 30 ?_
       intro gb111 hg w31 hbox hb
       have BK111 := A_ (hbox)
       have GW111 := ge_ HB hg
       replace HB := st_ HB hb
       have GE111 := GW111
       have NB101_111 := ne_ BK101 hg
       replace BK101 := bb_ BK101 hb
       have NB111_101 := A_ NB101_111.out.symm
       have NB102_111 := ne_ BK102 hg
       replace BK102 := bb_ BK102 hb
       have NB111_102 := A_ NB102_111.out.symm
       have NB112_111 := ne_ BK112 hg
       replace BK112 := bb_ BK112 hb
       have NB111_112 := A_ NB112_111.out.symm
       clear hb hbox hg
       refine hK.out _ _ ⟨(blk_cell BK101.out 0).trans rfl, (blk_cell BK101.out 1).trans rfl, (blk_cell BK101.out 2).trans rfl, (blk_cell BK101.out 3).trans rfl⟩ (fun hHeld => ?_)
       clear hK K
       refine normq_ 7 ?_
       exact norm_ (by first | (simp only [putAll, Act.put, List.setIfInBounds_toArray, List.set_cons_zero, List.set_cons_succ]; done) | (simp only [putAll, Act.put, List.setIfInBounds_toArray, List.set_cons_zero, List.set_cons_succ]; rfl)) (hJ3_7_8_9 (gb111, gb112) _ ⟨hHeld, (b_ BK101), (b_ BK102), (b_ BK111), (b_ BK112), GW111.out, GE111.out, NB101_111.out, NB111_101.out, NB102_111.out, NB111_102.out, NB112_111.out, NB111_112.out, GW112.out, GE112.out, NB101_112.out, NB112_101.out, NB102_112.out, NB112_102.out, (l_ HB)⟩)
     ·skip
      rintro gb111 w30 ⟨hS_, h0_, h1_, h2_, h3_, h4_, h5_, h6_, h7_, h8_, h9_⟩
      have n0_ : Aside0 (w30.heap[gb101]? = some (.cells #[.int .i64 a0_0, .int .i64 a0_1, .int .i64 a0_2, .int .i64 a0_3] 24 (0, 0))) := ⟨h0_⟩
      have n1_ : Aside0 (w30.heap[gb102]? = some (.cells #[.int .i64 a1_0, .int .i64 a1_1] 30 (0, 0))) := ⟨h1_⟩
      have n2_ : Aside0 (w30.heap[gb111]? = some (.cells #[.int .i64 0, .int .i64 0] 30 (0, 0))) := ⟨h2_⟩
      have n3_ : Aside0 (w.heap.size ≤ gb111) := ⟨h3_⟩
      have n4_ : Aside0 (w.heap.size ≤ gb111) := ⟨h4_⟩
      have n5_ : Aside0 (gb101 ≠ gb111) := ⟨h5_⟩
      have n6_ : Aside0 (gb111 ≠ gb101) := ⟨h6_⟩
      have n7_ : Aside0 (gb102 ≠ gb111) := ⟨h7_⟩
      have n8_ : Aside0 (gb111 ≠ gb102) := ⟨h8_⟩
      have n9_ : Aside0 (Below w.heap.size w w30) := ⟨h9_⟩
      clear BK101 BK102 HB h0_ h1_ h2_ h3_ h4_ h5_ h6_ h7_ h8_ h9_
      have BK101 := n0_
      have BK102 := n1_
      have BK111 := n2_
      have GW111 := n3_
      have GE111 := n4_
      have NB101_111 := n5_
      have NB111_101 := n6_
      have NB102_111 := n7_
      have NB111_102 := n8_
      have HB := n9_
      clear n0_ n1_ n2_ n3_ n4_ n5_ n6_ n7_ n8_ n9_
      have hHeld : w30.cell? ⟨gb101, 0, none⟩ = some (.int .i64 a0_0) ∧ w30.cell? ⟨gb101, 1, none⟩ = some (.int .i64 a0_1) ∧ w30.cell? ⟨gb101, 2, none⟩ = some (.int .i64 a0_2) ∧ w30.cell? ⟨gb101, 3, none⟩ = some (.int .i64 a0_3) := hS_
      refine norm_ (a' := ?_) ?_ ?_
      rotate_left
      ·simp only [putAll, Act.put, List.setIfInBounds_toArray, List.set_cons_zero, List.set_cons_succ]
       rfl
      refine oneq_ 9 (some 8) HT_ (fun K hK => ?_)
      refine boxsq_ 8 #[.int .i64 0, .int .i64 0] 30 ?_
      intro gb112 hg w31 hbox hb
      have BK112 := A_ (hbox)
      have GW112 := ge_ HB hg
      replace HB := st_ HB hb
      have GE112 := GW112
      have NB101_112 := ne_ BK101 hg
      replace BK101 := bb_ BK101 hb
      have NB112_101 := A_ NB101_112.out.symm
      have NB102_112 := ne_ BK102 hg
      replace BK102 := bb_ BK102 hb
      have NB112_102 := A_ NB102_112.out.symm
      have NB111_112 := ne_ BK111 hg
      replace BK111 := bb_ BK111 hb
      have NB112_111 := A_ NB111_112.out.symm
      clear hb hbox hg
      refine hK.out _ _ ⟨(blk_cell BK101.out 0).trans rfl, (blk_cell BK101.out 1).trans rfl, (blk_cell BK101.out 2).trans rfl, (blk_cell BK101.out 3).trans rfl⟩ (fun hHeld => ?_)
      clear hK K
      refine normq_ 8 ?_
      exact norm_ (by first | (simp only [putAll, Act.put, List.setIfInBounds_toArray, List.set_cons_zero, List.set_cons_succ]; done) | (simp only [putAll, Act.put, List.setIfInBounds_toArray, List.set_cons_zero, List.set_cons_succ]; rfl)) (hJ3_7_8_9 (gb111, gb112) _ ⟨hHeld, (b_ BK101), (b_ BK102), (b_ BK111), (b_ BK112), GW111.out, GE111.out, NB101_111.out, NB111_101.out, NB102_111.out, NB111_102.out, NB112_111.out, NB111_112.out, GW112.out, GE112.out, NB101_112.out, NB112_101.out, NB102_112.out, NB112_102.out, (l_ HB)⟩)
    rintro ⟨gb111, gb112⟩ w31 ⟨hS_, h0_, h1_, h2_, h3_, h4_, h5_, h6_, h7_, h8_, h9_, h10_, h11_, h12_, h13_, h14_, h15_, h16_, h17_, h18_⟩
    have n0_ : Aside0 (w31.heap[gb101]? = some (.cells #[.int .i64 a0_0, .int .i64 a0_1, .int .i64 a0_2, .int .i64 a0_3] 24 (0, 0))) := ⟨h0_⟩
    have n1_ : Aside0 (w31.heap[gb102]? = some (.cells #[.int .i64 a1_0, .int .i64 a1_1] 30 (0, 0))) := ⟨h1_⟩
    have n2_ : Aside0 (w31.heap[gb111]? = some (.cells #[.int .i64 0, .int .i64 0] 30 (0, 0))) := ⟨h2_⟩
    have n3_ : Aside0 (w31.heap[gb112]? = some (.cells #[.int .i64 0, .int .i64 0] 30 (0, 0))) := ⟨h3_⟩
    have n4_ : Aside0 (w.heap.size ≤ gb111) := ⟨h4_⟩
    have n5_ : Aside0 (w.heap.size ≤ gb111) := ⟨h5_⟩
    have n6_ : Aside0 (gb101 ≠ gb111) := ⟨h6_⟩
    have n7_ : Aside0 (gb111 ≠ gb101) := ⟨h7_⟩
    have n8_ : Aside0 (gb102 ≠ gb111) := ⟨h8_⟩
    have n9_ : Aside0 (gb111 ≠ gb102) := ⟨h9_⟩
    have n10_ : Aside0 (gb112 ≠ gb111) := ⟨h10_⟩
    have n11_ : Aside0 (gb111 ≠ gb112) := ⟨h11_⟩
    have n12_ : Aside0 (w.heap.size ≤ gb112) := ⟨h12_⟩
    have n13_ : Aside0 (w.heap.size ≤ gb112) := ⟨h13_⟩
    have n14_ : Aside0 (gb101 ≠ gb112) := ⟨h14_⟩
    have n15_ : Aside0 (gb112 ≠ gb101) := ⟨h15_⟩
    have n16_ : Aside0 (gb102 ≠ gb112) := ⟨h16_⟩
    have n17_ : Aside0 (gb112 ≠ gb102) := ⟨h17_⟩
    have n18_ : Aside0 (Below w.heap.size w w31) := ⟨h18_⟩
    clear BK101 BK102 HB h0_ h1_ h2_ h3_ h4_ h5_ h6_ h7_ h8_ h9_ h10_ h11_ h12_ h13_ h14_ h15_ h16_ h17_ h18_
    have BK101 := n0_
    have BK102 := n1_
    have BK111 := n2_
    have BK112 := n3_
    have GW111 := n4_
    have GE111 := n5_
    have NB101_111 := n6_
    have NB111_101 := n7_
    have NB102_111 := n8_
    have NB111_102 := n9_
    have NB112_111 := n10_
    have NB111_112 := n11_
    have GW112 := n12_
    have GE112 := n13_
    have NB101_112 := n14_
    have NB112_101 := n15_
    have NB102_112 := n16_
    have NB112_102 := n17_
    have HB := n18_
    clear n0_ n1_ n2_ n3_ n4_ n5_ n6_ n7_ n8_ n9_ n10_ n11_ n12_ n13_ n14_ n15_ n16_ n17_ n18_
    have hHeld : w31.cell? ⟨gb101, 0, none⟩ = some (.int .i64 a0_0) ∧ w31.cell? ⟨gb101, 1, none⟩ = some (.int .i64 a0_1) ∧ w31.cell? ⟨gb101, 2, none⟩ = some (.int .i64 a0_2) ∧ w31.cell? ⟨gb101, 3, none⟩ = some (.int .i64 a0_3) := hS_
    refine norm_ (a' := ?_) ?_ ?_
    rotate_left
    ·simp only [putAll, Act.put, List.setIfInBounds_toArray, List.set_cons_zero, List.set_cons_succ]
     rfl
    refine oneq_ 10 none HT_ (fun K hK => ?_)
    have hs32 : w31.cell? ⟨gb111, 0, none⟩ = some (.int .i64 0) := (blk_cell BK111.out 0).trans rfl
    have hfs32 := blk_frozen BK111.out 0
    have hns32_0 := NB101_111.out
    have hns32_1 := NB102_111.out
    have hns32_3 := NB112_111.out
    have hms32_0 := NB111_101.out
    have hms32_1 := NB111_102.out
    have hms32_3 := NB111_112.out
    have hs33 : w31.cell? ⟨gb111, 1, none⟩ = some (.int .i64 0) := (blk_cell BK111.out 1).trans rfl
    have hfs33 := blk_frozen BK111.out 1
    have hns33_0 := NB101_111.out
    have hns33_1 := NB102_111.out
    have hns33_3 := NB112_111.out
    have hms33_0 := NB111_101.out
    have hms33_1 := NB111_102.out
    have hms33_3 := NB111_112.out
    refine skip_ (w1 := ?_) (by rfl) rfl ?_ ?_
    rotate_left
    ·go_simp
     rfl
    refine hK.out _ _ ⟨((cell_far (p := ⟨gb111, _, none⟩) NB101_111.out _).trans (((cell_far (p := ⟨gb111, _, none⟩) NB101_111.out _).trans (hHeld.1)))), ((cell_far (p := ⟨gb111, _, none⟩) NB101_111.out _).trans (((cell_far (p := ⟨gb111, _, none⟩) NB101_111.out _).trans (hHeld.2.1)))), ((cell_far (p := ⟨gb111, _, none⟩) NB101_111.out _).trans (((cell_far (p := ⟨gb111, _, none⟩) NB101_111.out _).trans (hHeld.2.2.1)))), ((cell_far (p := ⟨gb111, _, none⟩) NB101_111.out _).trans (((cell_far (p := ⟨gb111, _, none⟩) NB101_111.out _).trans (hHeld.2.2.2))))⟩ (fun hHeld => ?_)
    clear hK K
    refine oneq_ 11 none HT_ (fun K hK => ?_)
    have hs34 : w31.cell? ⟨gb112, 0, none⟩ = some (.int .i64 0) := (blk_cell BK112.out 0).trans rfl
    have hfs34 := blk_frozen BK112.out 0
    have hns34_0 := NB101_112.out
    have hns34_1 := NB102_112.out
    have hns34_2 := NB111_112.out
    have hms34_0 := NB112_101.out
    have hms34_1 := NB112_102.out
    have hms34_2 := NB112_111.out
    have hs35 : w31.cell? ⟨gb112, 1, none⟩ = some (.int .i64 0) := (blk_cell BK112.out 1).trans rfl
    have hfs35 := blk_frozen BK112.out 1
    have hns35_0 := NB101_112.out
    have hns35_1 := NB102_112.out
    have hns35_2 := NB111_112.out
    have hms35_0 := NB112_101.out
    have hms35_1 := NB112_102.out
    have hms35_2 := NB112_111.out
    refine skip_ (w1 := ?_) (by rfl) rfl ?_ ?_
    rotate_left
    ·go_simp
     rfl
    refine hK.out _ _ ⟨((cell_far (p := ⟨gb112, _, none⟩) NB101_112.out _).trans (((cell_far (p := ⟨gb112, _, none⟩) NB101_112.out _).trans (hHeld.1)))), ((cell_far (p := ⟨gb112, _, none⟩) NB101_112.out _).trans (((cell_far (p := ⟨gb112, _, none⟩) NB101_112.out _).trans (hHeld.2.1)))), ((cell_far (p := ⟨gb112, _, none⟩) NB101_112.out _).trans (((cell_far (p := ⟨gb112, _, none⟩) NB101_112.out _).trans (hHeld.2.2.1)))), ((cell_far (p := ⟨gb112, _, none⟩) NB101_112.out _).trans (((cell_far (p := ⟨gb112, _, none⟩) NB101_112.out _).trans (hHeld.2.2.2))))⟩ (fun hHeld => ?_)
    clear hK K
    refine done_ (done_of HT_.out (by kernel_rfl)) ?_
    go_upto_region 4 with (fail)
    go_cut [9] (fun v9 wc => ∃ (kq : Nat) (x9_24 : Bool), v9 = .bool x9_24 ∧ Aside0 (cobweblaw06_PixelBetween.j1 kq a2 x9_24 a0_0 a0_1 a0_2 a0_3 a1_0 a1_1 t107 t108 t109 t110 = some r) ∧ Aside0 (kq ≤ kj3) ∧ Aside0 (wc.heap[gb101]? = some (.cells #[.int .i64 a0_0, .int .i64 a0_1, .int .i64 a0_2, .int .i64 a0_3] 24 (0, 0))) ∧ Aside0 (wc.heap[gb102]? = some (.cells #[.int .i64 a1_0, .int .i64 a1_1] 30 (0, 0))) ∧ Aside0 (wc.heap[gb111]? = some (.cells #[.int .i64 t107, .int .i64 t108] 30 (0, 0))) ∧ Aside0 (wc.heap[gb112]? = some (.cells #[.int .i64 t109, .int .i64 t110] 30 (0, 0))) ∧ Aside0 (Below w.heap.size w wc))
    case first =>
     have H := HC25.out
     clear HC25
     obtain ⟨ji36, hji36⟩ : ∃ j_ : Int, (mn t107 t109) = j_ := ⟨_, rfl⟩
     replace H : (if (ji36) ≤ a1_0 then (if a1_0 ≤ (mx t107 t109) then (if (mn t108 t110) ≤ a1_1 then (cobweblaw06_PixelBetween.j1 kj3 a2 (decide (a1_1 ≤ (mx t108 t110))) a0_0 a0_1 a0_2 a0_3 a1_0 a1_1 t107 t108 t109 t110) else (cobweblaw06_PixelBetween.j1 kj3 a2 false a0_0 a0_1 a0_2 a0_3 a1_0 a1_1 t107 t108 t109 t110)) else (cobweblaw06_PixelBetween.j1 kj3 a2 false a0_0 a0_1 a0_2 a0_3 a1_0 a1_1 t107 t108 t109 t110)) else (cobweblaw06_PixelBetween.j1 kj3 a2 false a0_0 a0_1 a0_2 a0_3 a1_0 a1_1 t107 t108 t109 t110)) = some r := by first | (rw [hji36] at H; exact H) | (simp only [hji36] at H ⊢; exact H)
     have hji36_ : (if t109 < t107 then t109 else t107) = ji36 := hji36
     by_cases c37 : (ji36) ≤ a1_0
     ·rw [if_pos c37] at H
      have c37b0 : decide ((ji36) ≤ a1_0) = true := decide_eq_true c37
      clear c37
      (first | rw [c37b0] | (simp only [i64_w, i32_w]; rw [c37b0]) | skip)
      obtain ⟨ji38, hji38⟩ : ∃ j_ : Int, (mx t107 t109) = j_ := ⟨_, rfl⟩
      replace H : (if a1_0 ≤ (ji38) then (if (mn t108 t110) ≤ a1_1 then (cobweblaw06_PixelBetween.j1 kj3 a2 (decide (a1_1 ≤ (mx t108 t110))) a0_0 a0_1 a0_2 a0_3 a1_0 a1_1 t107 t108 t109 t110) else (cobweblaw06_PixelBetween.j1 kj3 a2 false a0_0 a0_1 a0_2 a0_3 a1_0 a1_1 t107 t108 t109 t110)) else (cobweblaw06_PixelBetween.j1 kj3 a2 false a0_0 a0_1 a0_2 a0_3 a1_0 a1_1 t107 t108 t109 t110)) = some r := by first | (rw [hji38] at H; exact H) | (simp only [hji38] at H ⊢; exact H)
      have hji38_ : (if t107 < t109 then t109 else t107) = ji38 := hji38
      by_cases c39 : a1_0 ≤ (ji38)
      ·rw [if_pos c39] at H
       have c39b0 : decide (a1_0 ≤ (ji38)) = true := decide_eq_true c39
       clear c39
       obtain ⟨ji40, hji40⟩ : ∃ j_ : Int, (mn t108 t110) = j_ := ⟨_, rfl⟩
       replace H : (if (ji40) ≤ a1_1 then (cobweblaw06_PixelBetween.j1 kj3 a2 (decide (a1_1 ≤ (mx t108 t110))) a0_0 a0_1 a0_2 a0_3 a1_0 a1_1 t107 t108 t109 t110) else (cobweblaw06_PixelBetween.j1 kj3 a2 false a0_0 a0_1 a0_2 a0_3 a1_0 a1_1 t107 t108 t109 t110)) = some r := by first | (rw [hji40] at H; exact H) | (simp only [hji40] at H ⊢; exact H)
       have hji40_ : (if t110 < t108 then t110 else t108) = ji40 := hji40
       by_cases c41 : (ji40) ≤ a1_1
       ·rw [if_pos c41] at H
        have c41b0 : decide ((ji40) ≤ a1_1) = true := decide_eq_true c41
        clear c41
        obtain ⟨ji42, hji42⟩ : ∃ j_ : Int, (mx t108 t110) = j_ := ⟨_, rfl⟩
        replace H : (cobweblaw06_PixelBetween.j1 kj3 a2 (decide (a1_1 ≤ (ji42))) a0_0 a0_1 a0_2 a0_3 a1_0 a1_1 t107 t108 t109 t110) = some r := by first | (rw [hji42] at H; exact H) | (simp only [hji42] at H ⊢; exact H)
        have hji42_ : (if t108 < t110 then t110 else t108) = ji42 := hji42
        have H' := A_ H
        clear H
        have hnb43 := NB111_101.out
        have hnc43 := NB101_111.out
        have hnb44 := NB111_102.out
        have hnc44 := NB102_111.out
        have hnb45 := NB111_112.out
        have hnc45 := NB112_111.out
        have hcz46_0 : w31.cell? ⟨gb111, 0, none⟩ = some (.int .i64 0) := (blk_cell BK111.out 0).trans rfl
        have hcz46_1 : w31.cell? ⟨gb111, 1, none⟩ = some (.int .i64 0) := (blk_cell BK111.out 1).trans rfl
        have hfz46_0 := blk_frozen BK111.out 0
        have hfz46_1 := blk_frozen BK111.out 1
        have hnb47 := NB112_101.out
        have hnc47 := NB101_112.out
        have hnb48 := NB112_102.out
        have hnc48 := NB102_112.out
        have hcz49_0 : w31.cell? ⟨gb112, 0, none⟩ = some (.int .i64 0) := (blk_cell BK112.out 0).trans rfl
        have hcz49_1 : w31.cell? ⟨gb112, 1, none⟩ = some (.int .i64 0) := (blk_cell BK112.out 1).trans rfl
        have hfz49_0 := blk_frozen BK112.out 0
        have hfz49_1 := blk_frozen BK112.out 1
        have hnb50 := NB102_101.out
        have hnc50 := NB101_102.out
        have hcz51_0 : w31.cell? ⟨gb102, 0, none⟩ = some (.int .i64 a1_0) := (blk_cell BK102.out 0).trans rfl
        have hcz51_1 : w31.cell? ⟨gb102, 1, none⟩ = some (.int .i64 a1_1) := (blk_cell BK102.out 1).trans rfl
        have hfz51_0 := blk_frozen BK102.out 0
        have hfz51_1 := blk_frozen BK102.out 1
        go_wp2
        go_meet
        case rel => exact ⟨_, (decide (a1_1 ≤ (ji42))), (by first | rfl | (simp; done) | (simp only [← hji42] <;> (first | rfl | simp)) | (simp [*]; done)), H', ⟨by have := HJ3.out; first | omega | exact Nat.le_refl _⟩, ⟨by (with_reducible repeat first | apply blk_drewN | apply blk_drew | apply blk_alloc); refine blk_far ?_ NB101_112.out _; (with_reducible repeat first | apply blk_drewN | apply blk_drew | apply blk_alloc); refine blk_far ?_ NB101_112.out _; (with_reducible repeat first | apply blk_drewN | apply blk_drew | apply blk_alloc); refine blk_far ?_ NB101_111.out _; (with_reducible repeat first | apply blk_drewN | apply blk_drew | apply blk_alloc); refine blk_far ?_ NB101_111.out _; (with_reducible repeat first | apply blk_drewN | apply blk_drew | apply blk_alloc); exact BK101.out⟩, ⟨by (with_reducible repeat first | apply blk_drewN | apply blk_drew | apply blk_alloc); refine blk_far ?_ NB102_112.out _; (with_reducible repeat first | apply blk_drewN | apply blk_drew | apply blk_alloc); refine blk_far ?_ NB102_112.out _; (with_reducible repeat first | apply blk_drewN | apply blk_drew | apply blk_alloc); refine blk_far ?_ NB102_111.out _; (with_reducible repeat first | apply blk_drewN | apply blk_drew | apply blk_alloc); refine blk_far ?_ NB102_111.out _; (with_reducible repeat first | apply blk_drewN | apply blk_drew | apply blk_alloc); exact BK102.out⟩, ⟨by (with_reducible repeat first | apply blk_drewN | apply blk_drew | apply blk_alloc); refine blk_far ?_ NB111_112.out _; (with_reducible repeat first | apply blk_drewN | apply blk_drew | apply blk_alloc); refine blk_far ?_ NB111_112.out _; (with_reducible repeat first | apply blk_drewN | apply blk_drew | apply blk_alloc); refine blk_put (cs := #[.int .i64 t107, .int .i64 0]) ?_ 1 _ rfl; (with_reducible repeat first | apply blk_drewN | apply blk_drew | apply blk_alloc); refine blk_put (cs := #[.int .i64 0, .int .i64 0]) ?_ 0 _ rfl; (with_reducible repeat first | apply blk_drewN | apply blk_drew | apply blk_alloc); exact BK111.out⟩, ⟨by (with_reducible repeat first | apply blk_drewN | apply blk_drew | apply blk_alloc); refine blk_put (cs := #[.int .i64 t109, .int .i64 0]) ?_ 1 _ rfl; (with_reducible repeat first | apply blk_drewN | apply blk_drew | apply blk_alloc); refine blk_put (cs := #[.int .i64 0, .int .i64 0]) ?_ 0 _ rfl; (with_reducible repeat first | apply blk_drewN | apply blk_drew | apply blk_alloc); refine blk_far ?_ NB112_111.out _; (with_reducible repeat first | apply blk_drewN | apply blk_drew | apply blk_alloc); refine blk_far ?_ NB112_111.out _; (with_reducible repeat first | apply blk_drewN | apply blk_drew | apply blk_alloc); exact BK112.out⟩, ⟨l_ HB⟩⟩
       ·rw [if_neg c41] at H
        have c41b0 : decide ((ji40) ≤ a1_1) = false := decide_eq_false c41
        clear c41
        have H' := A_ H
        clear H
        have hnb52 := NB111_101.out
        have hnc52 := NB101_111.out
        have hnb53 := NB111_102.out
        have hnc53 := NB102_111.out
        have hnb54 := NB111_112.out
        have hnc54 := NB112_111.out
        have hcz55_0 : w31.cell? ⟨gb111, 0, none⟩ = some (.int .i64 0) := (blk_cell BK111.out 0).trans rfl
        have hcz55_1 : w31.cell? ⟨gb111, 1, none⟩ = some (.int .i64 0) := (blk_cell BK111.out 1).trans rfl
        have hfz55_0 := blk_frozen BK111.out 0
        have hfz55_1 := blk_frozen BK111.out 1
        have hnb56 := NB112_101.out
        have hnc56 := NB101_112.out
        have hnb57 := NB112_102.out
        have hnc57 := NB102_112.out
        have hcz58_0 : w31.cell? ⟨gb112, 0, none⟩ = some (.int .i64 0) := (blk_cell BK112.out 0).trans rfl
        have hcz58_1 : w31.cell? ⟨gb112, 1, none⟩ = some (.int .i64 0) := (blk_cell BK112.out 1).trans rfl
        have hfz58_0 := blk_frozen BK112.out 0
        have hfz58_1 := blk_frozen BK112.out 1
        have hnb59 := NB102_101.out
        have hnc59 := NB101_102.out
        have hcz60_0 : w31.cell? ⟨gb102, 0, none⟩ = some (.int .i64 a1_0) := (blk_cell BK102.out 0).trans rfl
        have hcz60_1 : w31.cell? ⟨gb102, 1, none⟩ = some (.int .i64 a1_1) := (blk_cell BK102.out 1).trans rfl
        have hfz60_0 := blk_frozen BK102.out 0
        have hfz60_1 := blk_frozen BK102.out 1
        go_wp2
        go_meet
        case rel => exact ⟨_, (false), (by first | rfl | (simp; done) | (simp [*]; done)), H', ⟨by have := HJ3.out; first | omega | exact Nat.le_refl _⟩, ⟨by (with_reducible repeat first | apply blk_drewN | apply blk_drew | apply blk_alloc); refine blk_far ?_ NB101_112.out _; (with_reducible repeat first | apply blk_drewN | apply blk_drew | apply blk_alloc); refine blk_far ?_ NB101_112.out _; (with_reducible repeat first | apply blk_drewN | apply blk_drew | apply blk_alloc); refine blk_far ?_ NB101_111.out _; (with_reducible repeat first | apply blk_drewN | apply blk_drew | apply blk_alloc); refine blk_far ?_ NB101_111.out _; (with_reducible repeat first | apply blk_drewN | apply blk_drew | apply blk_alloc); exact BK101.out⟩, ⟨by (with_reducible repeat first | apply blk_drewN | apply blk_drew | apply blk_alloc); refine blk_far ?_ NB102_112.out _; (with_reducible repeat first | apply blk_drewN | apply blk_drew | apply blk_alloc); refine blk_far ?_ NB102_112.out _; (with_reducible repeat first | apply blk_drewN | apply blk_drew | apply blk_alloc); refine blk_far ?_ NB102_111.out _; (with_reducible repeat first | apply blk_drewN | apply blk_drew | apply blk_alloc); refine blk_far ?_ NB102_111.out _; (with_reducible repeat first | apply blk_drewN | apply blk_drew | apply blk_alloc); exact BK102.out⟩, ⟨by (with_reducible repeat first | apply blk_drewN | apply blk_drew | apply blk_alloc); refine blk_far ?_ NB111_112.out _; (with_reducible repeat first | apply blk_drewN | apply blk_drew | apply blk_alloc); refine blk_far ?_ NB111_112.out _; (with_reducible repeat first | apply blk_drewN | apply blk_drew | apply blk_alloc); refine blk_put (cs := #[.int .i64 t107, .int .i64 0]) ?_ 1 _ rfl; (with_reducible repeat first | apply blk_drewN | apply blk_drew | apply blk_alloc); refine blk_put (cs := #[.int .i64 0, .int .i64 0]) ?_ 0 _ rfl; (with_reducible repeat first | apply blk_drewN | apply blk_drew | apply blk_alloc); exact BK111.out⟩, ⟨by (with_reducible repeat first | apply blk_drewN | apply blk_drew | apply blk_alloc); refine blk_put (cs := #[.int .i64 t109, .int .i64 0]) ?_ 1 _ rfl; (with_reducible repeat first | apply blk_drewN | apply blk_drew | apply blk_alloc); refine blk_put (cs := #[.int .i64 0, .int .i64 0]) ?_ 0 _ rfl; (with_reducible repeat first | apply blk_drewN | apply blk_drew | apply blk_alloc); refine blk_far ?_ NB112_111.out _; (with_reducible repeat first | apply blk_drewN | apply blk_drew | apply blk_alloc); refine blk_far ?_ NB112_111.out _; (with_reducible repeat first | apply blk_drewN | apply blk_drew | apply blk_alloc); exact BK112.out⟩, ⟨l_ HB⟩⟩
      ·rw [if_neg c39] at H
       have c39b0 : decide (a1_0 ≤ (ji38)) = false := decide_eq_false c39
       clear c39
       have H' := A_ H
       clear H
       have hnb61 := NB111_101.out
       have hnc61 := NB101_111.out
       have hnb62 := NB111_102.out
       have hnc62 := NB102_111.out
       have hnb63 := NB111_112.out
       have hnc63 := NB112_111.out
       have hcz64_0 : w31.cell? ⟨gb111, 0, none⟩ = some (.int .i64 0) := (blk_cell BK111.out 0).trans rfl
       have hcz64_1 : w31.cell? ⟨gb111, 1, none⟩ = some (.int .i64 0) := (blk_cell BK111.out 1).trans rfl
       have hfz64_0 := blk_frozen BK111.out 0
       have hfz64_1 := blk_frozen BK111.out 1
       have hnb65 := NB112_101.out
       have hnc65 := NB101_112.out
       have hnb66 := NB112_102.out
       have hnc66 := NB102_112.out
       have hcz67_0 : w31.cell? ⟨gb112, 0, none⟩ = some (.int .i64 0) := (blk_cell BK112.out 0).trans rfl
       have hcz67_1 : w31.cell? ⟨gb112, 1, none⟩ = some (.int .i64 0) := (blk_cell BK112.out 1).trans rfl
       have hfz67_0 := blk_frozen BK112.out 0
       have hfz67_1 := blk_frozen BK112.out 1
       have hnb68 := NB102_101.out
       have hnc68 := NB101_102.out
       have hcz69_0 : w31.cell? ⟨gb102, 0, none⟩ = some (.int .i64 a1_0) := (blk_cell BK102.out 0).trans rfl
       have hcz69_1 : w31.cell? ⟨gb102, 1, none⟩ = some (.int .i64 a1_1) := (blk_cell BK102.out 1).trans rfl
       have hfz69_0 := blk_frozen BK102.out 0
       have hfz69_1 := blk_frozen BK102.out 1
       go_wp2
       go_meet
       case rel => exact ⟨_, (false), (by first | rfl | (simp; done) | (simp [*]; done)), H', ⟨by have := HJ3.out; first | omega | exact Nat.le_refl _⟩, ⟨by (with_reducible repeat first | apply blk_drewN | apply blk_drew | apply blk_alloc); refine blk_far ?_ NB101_112.out _; (with_reducible repeat first | apply blk_drewN | apply blk_drew | apply blk_alloc); refine blk_far ?_ NB101_112.out _; (with_reducible repeat first | apply blk_drewN | apply blk_drew | apply blk_alloc); refine blk_far ?_ NB101_111.out _; (with_reducible repeat first | apply blk_drewN | apply blk_drew | apply blk_alloc); refine blk_far ?_ NB101_111.out _; (with_reducible repeat first | apply blk_drewN | apply blk_drew | apply blk_alloc); exact BK101.out⟩, ⟨by (with_reducible repeat first | apply blk_drewN | apply blk_drew | apply blk_alloc); refine blk_far ?_ NB102_112.out _; (with_reducible repeat first | apply blk_drewN | apply blk_drew | apply blk_alloc); refine blk_far ?_ NB102_112.out _; (with_reducible repeat first | apply blk_drewN | apply blk_drew | apply blk_alloc); refine blk_far ?_ NB102_111.out _; (with_reducible repeat first | apply blk_drewN | apply blk_drew | apply blk_alloc); refine blk_far ?_ NB102_111.out _; (with_reducible repeat first | apply blk_drewN | apply blk_drew | apply blk_alloc); exact BK102.out⟩, ⟨by (with_reducible repeat first | apply blk_drewN | apply blk_drew | apply blk_alloc); refine blk_far ?_ NB111_112.out _; (with_reducible repeat first | apply blk_drewN | apply blk_drew | apply blk_alloc); refine blk_far ?_ NB111_112.out _; (with_reducible repeat first | apply blk_drewN | apply blk_drew | apply blk_alloc); refine blk_put (cs := #[.int .i64 t107, .int .i64 0]) ?_ 1 _ rfl; (with_reducible repeat first | apply blk_drewN | apply blk_drew | apply blk_alloc); refine blk_put (cs := #[.int .i64 0, .int .i64 0]) ?_ 0 _ rfl; (with_reducible repeat first | apply blk_drewN | apply blk_drew | apply blk_alloc); exact BK111.out⟩, ⟨by (with_reducible repeat first | apply blk_drewN | apply blk_drew | apply blk_alloc); refine blk_put (cs := #[.int .i64 t109, .int .i64 0]) ?_ 1 _ rfl; (with_reducible repeat first | apply blk_drewN | apply blk_drew | apply blk_alloc); refine blk_put (cs := #[.int .i64 0, .int .i64 0]) ?_ 0 _ rfl; (with_reducible repeat first | apply blk_drewN | apply blk_drew | apply blk_alloc); refine blk_far ?_ NB112_111.out _; (with_reducible repeat first | apply blk_drewN | apply blk_drew | apply blk_alloc); refine blk_far ?_ NB112_111.out _; (with_reducible repeat first | apply blk_drewN | apply blk_drew | apply blk_alloc); exact BK112.out⟩, ⟨l_ HB⟩⟩
     ·rw [if_neg c37] at H
      have c37b0 : decide ((ji36) ≤ a1_0) = false := decide_eq_false c37
      clear c37
      (first | rw [c37b0] | (simp only [i64_w, i32_w]; rw [c37b0]) | skip)
      have H' := A_ H
      clear H
      have hnb70 := NB111_101.out
      have hnc70 := NB101_111.out
      have hnb71 := NB111_102.out
      have hnc71 := NB102_111.out
      have hnb72 := NB111_112.out
      have hnc72 := NB112_111.out
      have hcz73_0 : w31.cell? ⟨gb111, 0, none⟩ = some (.int .i64 0) := (blk_cell BK111.out 0).trans rfl
      have hcz73_1 : w31.cell? ⟨gb111, 1, none⟩ = some (.int .i64 0) := (blk_cell BK111.out 1).trans rfl
      have hfz73_0 := blk_frozen BK111.out 0
      have hfz73_1 := blk_frozen BK111.out 1
      have hnb74 := NB112_101.out
      have hnc74 := NB101_112.out
      have hnb75 := NB112_102.out
      have hnc75 := NB102_112.out
      have hcz76_0 : w31.cell? ⟨gb112, 0, none⟩ = some (.int .i64 0) := (blk_cell BK112.out 0).trans rfl
      have hcz76_1 : w31.cell? ⟨gb112, 1, none⟩ = some (.int .i64 0) := (blk_cell BK112.out 1).trans rfl
      have hfz76_0 := blk_frozen BK112.out 0
      have hfz76_1 := blk_frozen BK112.out 1
      have hnb77 := NB102_101.out
      have hnc77 := NB101_102.out
      have hcz78_0 : w31.cell? ⟨gb102, 0, none⟩ = some (.int .i64 a1_0) := (blk_cell BK102.out 0).trans rfl
      have hcz78_1 : w31.cell? ⟨gb102, 1, none⟩ = some (.int .i64 a1_1) := (blk_cell BK102.out 1).trans rfl
      have hfz78_0 := blk_frozen BK102.out 0
      have hfz78_1 := blk_frozen BK102.out 1
      go_wp2
      go_meet
      case rel => exact ⟨_, (false), (by first | rfl | (simp; done) | (simp [*]; done)), H', ⟨by have := HJ3.out; first | omega | exact Nat.le_refl _⟩, ⟨by (with_reducible repeat first | apply blk_drewN | apply blk_drew | apply blk_alloc); refine blk_far ?_ NB101_112.out _; (with_reducible repeat first | apply blk_drewN | apply blk_drew | apply blk_alloc); refine blk_far ?_ NB101_112.out _; (with_reducible repeat first | apply blk_drewN | apply blk_drew | apply blk_alloc); refine blk_far ?_ NB101_111.out _; (with_reducible repeat first | apply blk_drewN | apply blk_drew | apply blk_alloc); refine blk_far ?_ NB101_111.out _; (with_reducible repeat first | apply blk_drewN | apply blk_drew | apply blk_alloc); exact BK101.out⟩, ⟨by (with_reducible repeat first | apply blk_drewN | apply blk_drew | apply blk_alloc); refine blk_far ?_ NB102_112.out _; (with_reducible repeat first | apply blk_drewN | apply blk_drew | apply blk_alloc); refine blk_far ?_ NB102_112.out _; (with_reducible repeat first | apply blk_drewN | apply blk_drew | apply blk_alloc); refine blk_far ?_ NB102_111.out _; (with_reducible repeat first | apply blk_drewN | apply blk_drew | apply blk_alloc); refine blk_far ?_ NB102_111.out _; (with_reducible repeat first | apply blk_drewN | apply blk_drew | apply blk_alloc); exact BK102.out⟩, ⟨by (with_reducible repeat first | apply blk_drewN | apply blk_drew | apply blk_alloc); refine blk_far ?_ NB111_112.out _; (with_reducible repeat first | apply blk_drewN | apply blk_drew | apply blk_alloc); refine blk_far ?_ NB111_112.out _; (with_reducible repeat first | apply blk_drewN | apply blk_drew | apply blk_alloc); refine blk_put (cs := #[.int .i64 t107, .int .i64 0]) ?_ 1 _ rfl; (with_reducible repeat first | apply blk_drewN | apply blk_drew | apply blk_alloc); refine blk_put (cs := #[.int .i64 0, .int .i64 0]) ?_ 0 _ rfl; (with_reducible repeat first | apply blk_drewN | apply blk_drew | apply blk_alloc); exact BK111.out⟩, ⟨by (with_reducible repeat first | apply blk_drewN | apply blk_drew | apply blk_alloc); refine blk_put (cs := #[.int .i64 t109, .int .i64 0]) ?_ 1 _ rfl; (with_reducible repeat first | apply blk_drewN | apply blk_drew | apply blk_alloc); refine blk_put (cs := #[.int .i64 0, .int .i64 0]) ?_ 0 _ rfl; (with_reducible repeat first | apply blk_drewN | apply blk_drew | apply blk_alloc); refine blk_far ?_ NB112_111.out _; (with_reducible repeat first | apply blk_drewN | apply blk_drew | apply blk_alloc); refine blk_far ?_ NB112_111.out _; (with_reducible repeat first | apply blk_drewN | apply blk_drew | apply blk_alloc); exact BK112.out⟩, ⟨l_ HB⟩⟩
    case rest =>
     clear HC25
     try clear c2
     try clear p2
     try clear c3
     try clear c4
     try clear c5
     try clear c6
     try clear c7
     try clear c21
     try clear c37
     try clear c37b0
     try clear c39
     try clear c39b0
     try clear c41
     try clear c41b0
     try clear c43
     try clear c44
     try clear c45
     try clear c47
     try clear c48
     try clear c50
     try clear c52
     try clear c53
     try clear c54
     try clear c56
     try clear c57
     try clear c59
     try clear c61
     try clear c62
     try clear c63
     try clear c65
     try clear c66
     try clear c68
     try clear c70
     try clear c71
     try clear c72
     try clear c74
     try clear c75
     try clear c77
     try clear hcz46_0
     try clear hcz46_1
     try clear hcz49_0
     try clear hcz49_1
     try clear hcz51_0
     try clear hcz51_1
     try clear hcz55_0
     try clear hcz55_1
     try clear hcz58_0
     try clear hcz58_1
     try clear hcz60_0
     try clear hcz60_1
     try clear hcz64_0
     try clear hcz64_1
     try clear hcz67_0
     try clear hcz67_1
     try clear hcz69_0
     try clear hcz69_1
     try clear hcz73_0
     try clear hcz73_1
     try clear hcz76_0
     try clear hcz76_1
     try clear hcz78_0
     try clear hcz78_1
     try clear hfz46_0
     try clear hfz46_1
     try clear hfz49_0
     try clear hfz49_1
     try clear hfz51_0
     try clear hfz51_1
     try clear hfz55_0
     try clear hfz55_1
     try clear hfz58_0
     try clear hfz58_1
     try clear hfz60_0
     try clear hfz60_1
     try clear hfz64_0
     try clear hfz64_1
     try clear hfz67_0
     try clear hfz67_1
     try clear hfz69_0
     try clear hfz69_1
     try clear hfz73_0
     try clear hfz73_1
     try clear hfz76_0
     try clear hfz76_1
     try clear hfz78_0
     try clear hfz78_1
     obtain ⟨kq, x9_24, rfl, HA, HJ24, BK101, BK102, BK111, BK112, HB⟩ := hcut
     cases kq with
     | zero => exact absurd HA.out (by simp [cobweblaw06_PixelBetween.j1])
     | succ kj24 =>
      have H := HA.out
      clear HA
      simp only [cobweblaw06_PixelBetween.j1] at H
      have HC79 := A_ H
      clear H
      go_upto_region 5 with (fail)
      go_cut [83] (fun v83 wc => ∃ (kq : Nat) (x83_78 : Bool), v83 = .bool x83_78 ∧ Aside0 (cobweblaw06_PixelBetween.j2 kq a2 x83_78 a0_0 a0_1 a0_2 a0_3 t107 t108 t109 t110 = some r) ∧ Aside0 (kq ≤ kj24) ∧ Aside0 (wc.heap[gb101]? = some (.cells #[.int .i64 a0_0, .int .i64 a0_1, .int .i64 a0_2, .int .i64 a0_3] 24 (0, 0))) ∧ Aside0 (wc.heap[gb102]? = some (.cells #[.int .i64 a1_0, .int .i64 a1_1] 30 (0, 0))) ∧ Aside0 (wc.heap[gb111]? = some (.cells #[.int .i64 t107, .int .i64 t108] 30 (0, 0))) ∧ Aside0 (wc.heap[gb112]? = some (.cells #[.int .i64 t109, .int .i64 t110] 30 (0, 0))) ∧ Aside0 (Below w.heap.size w wc))
      case first =>
       have H := HC79.out
       clear HC79
       replace H := Option.bind_eq_some_iff.mp H
       obtain ⟨t113, A800, H⟩ := H
       replace H : (if t113 = true then (cobweblaw06_PixelBetween.j2 kj24 a2 (!x9_24) a0_0 a0_1 a0_2 a0_3 t107 t108 t109 t110) else (cobweblaw06_PixelBetween.j2 kj24 a2 false a0_0 a0_1 a0_2 a0_3 t107 t108 t109 t110)) = some r := H
       have A80 := A_ A800
       clear A800
       by_cases c81 : t113 = true
       ·subst c81
        have H1 : (cobweblaw06_PixelBetween.j2 kj24 a2 (!x9_24) a0_0 a0_1 a0_2 a0_3 t107 t108 t109 t110) = some r := by rw [if_pos rfl] at H; exact H
        clear H
        have H := H1
        clear H1
        have H' := A_ H
        clear H
        have hnb82 := NB101_102.out
        have hnc82 := NB102_101.out
        have hnb83 := NB101_111.out
        have hnc83 := NB111_101.out
        have hnb84 := NB101_112.out
        have hnc84 := NB112_101.out
        have hcz85_0 : wc.cell? ⟨gb101, 0, none⟩ = some (.int .i64 a0_0) := (blk_cell BK101.out 0).trans rfl
        have hcz85_1 : wc.cell? ⟨gb101, 1, none⟩ = some (.int .i64 a0_1) := (blk_cell BK101.out 1).trans rfl
        have hcz85_2 : wc.cell? ⟨gb101, 2, none⟩ = some (.int .i64 a0_2) := (blk_cell BK101.out 2).trans rfl
        have hcz85_3 : wc.cell? ⟨gb101, 3, none⟩ = some (.int .i64 a0_3) := (blk_cell BK101.out 3).trans rfl
        have hfz85_0 := blk_frozen BK101.out 0
        have hfz85_1 := blk_frozen BK101.out 1
        have hfz85_2 := blk_frozen BK101.out 2
        have hfz85_3 := blk_frozen BK101.out 3
        have hnb86 := NB102_111.out
        have hnc86 := NB111_102.out
        have hnb87 := NB102_112.out
        have hnc87 := NB112_102.out
        have hcz88_0 : wc.cell? ⟨gb102, 0, none⟩ = some (.int .i64 a1_0) := (blk_cell BK102.out 0).trans rfl
        have hcz88_1 : wc.cell? ⟨gb102, 1, none⟩ = some (.int .i64 a1_1) := (blk_cell BK102.out 1).trans rfl
        have hfz88_0 := blk_frozen BK102.out 0
        have hfz88_1 := blk_frozen BK102.out 1
        go_wp2_with (first | ((with_reducible refine gate_callee (f := 14) rfl ?_); refine goesLq_ 79 rfl Try.func14 #[.agg #[.int .i64 a0_0, .int .i64 a0_1], .agg #[.int .i64 a0_2, .int .i64 a0_3], .agg #[.int .i64 a1_0, .int .i64 a1_1], .int .i64 a2] ?_; (with_reducible refine (pixel_Hits.calls kj24 a0_0 a0_1 a0_2 a0_3 a1_0 a1_1 a2 true _ A80.out).mono ?_); rintro e w89 ⟨rfl, hb⟩; refine ⟨_, rfl, ?_⟩; replace BK101 := bb_ BK101 hb; replace BK102 := bb_ BK102 hb; replace BK111 := bb_ BK111 hb; replace BK112 := bb_ BK112 hb; replace HB := st_ HB hb; (try clear hb); (try clear hb2); (try clear hk); (try clear hi)))
        go_meet
        case rel => exact ⟨_, (!x9_24), (by first | rfl | (simp; done) | (simp [*]; done)), H', ⟨by have := HJ3.out; have := HJ24.out; first | omega | exact Nat.le_refl _⟩, ⟨b_ BK101⟩, ⟨b_ BK102⟩, ⟨b_ BK111⟩, ⟨b_ BK112⟩, ⟨l_ HB⟩⟩
       ·replace c81 := Bool.eq_false_iff.mpr c81
        subst c81
        have H1 : (cobweblaw06_PixelBetween.j2 kj24 a2 false a0_0 a0_1 a0_2 a0_3 t107 t108 t109 t110) = some r := by rw [if_neg (show ¬ (false = true) by decide)] at H; exact H
        clear H
        have H := H1
        clear H1
        have H' := A_ H
        clear H
        have hnb90 := NB101_102.out
        have hnc90 := NB102_101.out
        have hnb91 := NB101_111.out
        have hnc91 := NB111_101.out
        have hnb92 := NB101_112.out
        have hnc92 := NB112_101.out
        have hcz93_0 : wc.cell? ⟨gb101, 0, none⟩ = some (.int .i64 a0_0) := (blk_cell BK101.out 0).trans rfl
        have hcz93_1 : wc.cell? ⟨gb101, 1, none⟩ = some (.int .i64 a0_1) := (blk_cell BK101.out 1).trans rfl
        have hcz93_2 : wc.cell? ⟨gb101, 2, none⟩ = some (.int .i64 a0_2) := (blk_cell BK101.out 2).trans rfl
        have hcz93_3 : wc.cell? ⟨gb101, 3, none⟩ = some (.int .i64 a0_3) := (blk_cell BK101.out 3).trans rfl
        have hfz93_0 := blk_frozen BK101.out 0
        have hfz93_1 := blk_frozen BK101.out 1
        have hfz93_2 := blk_frozen BK101.out 2
        have hfz93_3 := blk_frozen BK101.out 3
        have hnb94 := NB102_111.out
        have hnc94 := NB111_102.out
        have hnb95 := NB102_112.out
        have hnc95 := NB112_102.out
        have hcz96_0 : wc.cell? ⟨gb102, 0, none⟩ = some (.int .i64 a1_0) := (blk_cell BK102.out 0).trans rfl
        have hcz96_1 : wc.cell? ⟨gb102, 1, none⟩ = some (.int .i64 a1_1) := (blk_cell BK102.out 1).trans rfl
        have hfz96_0 := blk_frozen BK102.out 0
        have hfz96_1 := blk_frozen BK102.out 1
        go_wp2_with (first | ((with_reducible refine gate_callee (f := 14) rfl ?_); refine goesLq_ 79 rfl Try.func14 #[.agg #[.int .i64 a0_0, .int .i64 a0_1], .agg #[.int .i64 a0_2, .int .i64 a0_3], .agg #[.int .i64 a1_0, .int .i64 a1_1], .int .i64 a2] ?_; (with_reducible refine (pixel_Hits.calls kj24 a0_0 a0_1 a0_2 a0_3 a1_0 a1_1 a2 false _ A80.out).mono ?_); rintro e w97 ⟨rfl, hb⟩; refine ⟨_, rfl, ?_⟩; replace BK101 := bb_ BK101 hb; replace BK102 := bb_ BK102 hb; replace BK111 := bb_ BK111 hb; replace BK112 := bb_ BK112 hb; replace HB := st_ HB hb; (try clear hb); (try clear hb2); (try clear hk); (try clear hi)))
        go_meet
        case rel => exact ⟨_, (false), (by first | rfl | (simp; done) | (simp [*]; done)), H', ⟨by have := HJ3.out; have := HJ24.out; first | omega | exact Nat.le_refl _⟩, ⟨b_ BK101⟩, ⟨b_ BK102⟩, ⟨b_ BK111⟩, ⟨b_ BK112⟩, ⟨l_ HB⟩⟩
      case rest =>
       clear HC79
       try clear c1
       try clear c2
       try clear p2
       try clear c3
       try clear c4
       try clear c5
       try clear c6
       try clear c7
       try clear c8
       try clear c9
       try clear c14
       try clear c21
       try clear c37
       try clear c37b0
       try clear c39
       try clear c39b0
       try clear c41
       try clear c41b0
       try clear c43
       try clear c44
       try clear c45
       try clear c47
       try clear c48
       try clear c50
       try clear c52
       try clear c53
       try clear c54
       try clear c56
       try clear c57
       try clear c59
       try clear c61
       try clear c62
       try clear c63
       try clear c65
       try clear c66
       try clear c68
       try clear c70
       try clear c71
       try clear c72
       try clear c74
       try clear c75
       try clear c77
       try clear c81
       try clear c82
       try clear c83
       try clear c84
       try clear c86
       try clear c87
       try clear c90
       try clear c91
       try clear c92
       try clear c94
       try clear c95
       try clear hcz46_0
       try clear hcz46_1
       try clear hcz49_0
       try clear hcz49_1
       try clear hcz51_0
       try clear hcz51_1
       try clear hcz55_0
       try clear hcz55_1
       try clear hcz58_0
       try clear hcz58_1
       try clear hcz60_0
       try clear hcz60_1
       try clear hcz64_0
       try clear hcz64_1
       try clear hcz67_0
       try clear hcz67_1
       try clear hcz69_0
       try clear hcz69_1
       try clear hcz73_0
       try clear hcz73_1
       try clear hcz76_0
       try clear hcz76_1
       try clear hcz78_0
       try clear hcz78_1
       try clear hcz85_0
       try clear hcz85_1
       try clear hcz85_2
       try clear hcz85_3
       try clear hcz88_0
       try clear hcz88_1
       try clear hcz93_0
       try clear hcz93_1
       try clear hcz93_2
       try clear hcz93_3
       try clear hcz96_0
       try clear hcz96_1
       try clear hfz46_0
       try clear hfz46_1
       try clear hfz49_0
       try clear hfz49_1
       try clear hfz51_0
       try clear hfz51_1
       try clear hfz55_0
       try clear hfz55_1
       try clear hfz58_0
       try clear hfz58_1
       try clear hfz60_0
       try clear hfz60_1
       try clear hfz64_0
       try clear hfz64_1
       try clear hfz67_0
       try clear hfz67_1
       try clear hfz69_0
       try clear hfz69_1
       try clear hfz73_0
       try clear hfz73_1
       try clear hfz76_0
       try clear hfz76_1
       try clear hfz78_0
       try clear hfz78_1
       try clear hfz85_0
       try clear hfz85_1
       try clear hfz85_2
       try clear hfz85_3
       try clear hfz88_0
       try clear hfz88_1
       try clear hfz93_0
       try clear hfz93_1
       try clear hfz93_2
       try clear hfz93_3
       try clear hfz96_0
       try clear hfz96_1
       try clear p2
       obtain ⟨kq, x83_78, rfl, HA, HJ78, BK101, BK102, BK111, BK112, HB⟩ := hcut
       cases kq with
       | zero => exact absurd HA.out (by simp [cobweblaw06_PixelBetween.j2])
       | succ kj78 =>
        have H := HA.out
        clear HA
        simp only [cobweblaw06_PixelBetween.j2] at H
        by_cases c98 : x83_78 = true
        ·subst c98
         have H1 : (some false) = some r := by rw [if_pos rfl] at H; exact H
         clear H
         have H := H1
         clear H1
         obtain rfl := Option.some.inj H
         go_wp2
         go_ret
         exact ⟨by first | rfl | (simp [errW_none, errW_some] <;> rfl) | (simp [*, errW_none, errW_some] <;> rfl), l_ HB⟩
        ·replace c98 := Bool.eq_false_iff.mpr c98
         subst c98
         have H1 : ((cobweblaw06_alive.f).bind fun t114 => (if t114 = true then ((pixel_Hits.f kj78 a0_0 a0_1 a0_2 a0_3 t107 t108 a2).bind fun t115 => ((cobwebref03_In.f kj78 t107 t108 a2).bind fun t116 => (if (t115 == t116) = true then ((pixel_Hits.f kj78 a0_0 a0_1 a0_2 a0_3 t109 t110 a2).bind fun t117 => ((cobwebref03_In.f kj78 t109 t110 a2).bind fun t118 => (some (t117 == t118)))) else (some false)))) else (some false))) = some r := by rw [if_neg (show ¬ (false = true) by decide)] at H; exact H
         clear H
         have H := H1
         clear H1
         replace H := Option.bind_eq_some_iff.mp H
         obtain ⟨t114, A990, H⟩ := H
         replace H : (if t114 = true then ((pixel_Hits.f kj78 a0_0 a0_1 a0_2 a0_3 t107 t108 a2).bind fun t115 => ((cobwebref03_In.f kj78 t107 t108 a2).bind fun t116 => (if (t115 == t116) = true then ((pixel_Hits.f kj78 a0_0 a0_1 a0_2 a0_3 t109 t110 a2).bind fun t117 => ((cobwebref03_In.f kj78 t109 t110 a2).bind fun t118 => (some (t117 == t118)))) else (some false)))) else (some false)) = some r := H
         have A99 := A_ A990
         clear A990
         by_cases c100 : t114 = true
         ·subst c100
          have H1 : ((pixel_Hits.f kj78 a0_0 a0_1 a0_2 a0_3 t107 t108 a2).bind fun t115 => ((cobwebref03_In.f kj78 t107 t108 a2).bind fun t116 => (if (t115 == t116) = true then ((pixel_Hits.f kj78 a0_0 a0_1 a0_2 a0_3 t109 t110 a2).bind fun t117 => ((cobwebref03_In.f kj78 t109 t110 a2).bind fun t118 => (some (t117 == t118)))) else (some false)))) = some r := by rw [if_pos rfl] at H; exact H
          clear H
          have H := H1
          clear H1
          replace H := Option.bind_eq_some_iff.mp H
          obtain ⟨t115, A1010, H⟩ := H
          replace H : ((cobwebref03_In.f kj78 t107 t108 a2).bind fun t116 => (if (t115 == t116) = true then ((pixel_Hits.f kj78 a0_0 a0_1 a0_2 a0_3 t109 t110 a2).bind fun t117 => ((cobwebref03_In.f kj78 t109 t110 a2).bind fun t118 => (some (t117 == t118)))) else (some false))) = some r := H
          have A101 := A_ A1010
          clear A1010
          replace H := Option.bind_eq_some_iff.mp H
          obtain ⟨t116, A1020, H⟩ := H
          replace H : (if (t115 == t116) = true then ((pixel_Hits.f kj78 a0_0 a0_1 a0_2 a0_3 t109 t110 a2).bind fun t117 => ((cobwebref03_In.f kj78 t109 t110 a2).bind fun t118 => (some (t117 == t118)))) else (some false)) = some r := H
          have A102 := A_ A1020
          clear A1020
          by_cases c103 : (t115 == t116) = true
          ·rw [if_pos c103] at H
           have c103b0 : (t115 == t116) = true := c103
           (try (have c103b1 : decide (t115 = t116) = true := by simpa using c103))
           (try (have c103b2 : (t115 == t116) = true := by simpa using c103))
           clear c103
           replace H := Option.bind_eq_some_iff.mp H
           obtain ⟨t117, A1040, H⟩ := H
           replace H : ((cobwebref03_In.f kj78 t109 t110 a2).bind fun t118 => (some (t117 == t118))) = some r := H
           have A104 := A_ A1040
           clear A1040
           replace H := Option.bind_eq_some_iff.mp H
           obtain ⟨t118, A1050, H⟩ := H
           replace H : (some (t117 == t118)) = some r := H
           have A105 := A_ A1050
           clear A1050
           obtain rfl := Option.some.inj H
           try go_wp2
           replace BK101 := A_ (blk_drew BK101.out)
           replace BK102 := A_ (blk_drew BK102.out)
           replace BK111 := A_ (blk_drew BK111.out)
           replace BK112 := A_ (blk_drew BK112.out)
           replace HB := A_ (below_drew1 HB.out)
           refine start_ (n := 28) (S := fun w' => w'.cell? ⟨gb101, 0, none⟩ = some (.int .i64 a0_0) ∧ w'.cell? ⟨gb101, 1, none⟩ = some (.int .i64 a0_1) ∧ w'.cell? ⟨gb101, 2, none⟩ = some (.int .i64 a0_2) ∧ w'.cell? ⟨gb101, 3, none⟩ = some (.int .i64 a0_3) ∧ w'.cell? ⟨gb111, 0, none⟩ = some (.int .i64 t107) ∧ w'.cell? ⟨gb111, 1, none⟩ = some (.int .i64 t108) ∧ w'.cell? ⟨gb112, 0, none⟩ = some (.int .i64 t109) ∧ w'.cell? ⟨gb112, 1, none⟩ = some (.int .i64 t110)) (ds := []) (Array.replicate 28 false) (by kernel_rfl) rfl rfl ⟨(blk_cell BK101.out 0).trans rfl, (blk_cell BK101.out 1).trans rfl, (blk_cell BK101.out 2).trans rfl, (blk_cell BK101.out 3).trans rfl, (blk_cell BK111.out 0).trans rfl, (blk_cell BK111.out 1).trans rfl, (blk_cell BK112.out 0).trans rfl, (blk_cell BK112.out 1).trans rfl⟩ (fun hHeld => ?_); refine with_tabW cobweblaw06_PixelBetween.tab7 cobweblaw06_PixelBetween.bits7 (fun HT_ HW_ => ?_)
           generalize wc.drew = w106 at BK101 BK102 BK111 BK112 HB hHeld ⊢
           refine oneq_ 0 (some 84) HT_ (fun K hK => ?_)
           refine goesq_ Try.func13 #[] ?_
           with_reducible refine (cobweblaw06_alive.calls  true _ A99.out).mono ?_
           rintro e w107 ⟨rfl, hb⟩
           refine ⟨_, rfl, ?_⟩
           replace BK101 := bb_ BK101 hb
           replace BK102 := bb_ BK102 hb
           replace BK111 := bb_ BK111 hb
           replace BK112 := bb_ BK112 hb
           replace HB := st_ HB hb
           try clear hb
           refine hK.out _ _ ⟨(blk_cell BK101.out 0).trans rfl, (blk_cell BK101.out 1).trans rfl, (blk_cell BK101.out 2).trans rfl, (blk_cell BK101.out 3).trans rfl, (blk_cell BK111.out 0).trans rfl, (blk_cell BK111.out 1).trans rfl, (blk_cell BK112.out 0).trans rfl, (blk_cell BK112.out 1).trans rfl⟩ (fun hHeld => ?_)
           clear hK K
           refine normq_ 84 ?_
           refine pureq_ 1 85 HT_ ?_
           refine pureq_ 2 86 HT_ ?_
           refine pureq_ 4 88 HT_ ?_
           refine pureq_ 7 91 HT_ ?_
           refine pureq_ 10 94 HT_ ?_
           refine takeq_ 3 87 HT_ HW_ hHeld ?_
           refine takeq_ 5 89 HT_ HW_ hHeld ?_
           refine takeq_ 6 90 HT_ HW_ hHeld ?_
           refine takeq_ 9 93 HT_ HW_ hHeld ?_
           refine oneq_ 8 (some 92) HT_ (fun K hK => ?_)
           refine goesq_ Try.func14 #[.agg #[.int .i64 a0_0, .int .i64 a0_1], .agg #[.int .i64 a0_2, .int .i64 a0_3], .agg #[.int .i64 t107, .int .i64 t108], .int .i64 a2] ?_
           with_reducible refine (pixel_Hits.calls kj78 a0_0 a0_1 a0_2 a0_3 t107 t108 a2 t115 _ A101.out).mono ?_
           rintro e w108 ⟨rfl, hb⟩
           refine ⟨_, rfl, ?_⟩
           replace BK101 := bb_ BK101 hb
           replace BK102 := bb_ BK102 hb
           replace BK111 := bb_ BK111 hb
           replace BK112 := bb_ BK112 hb
           replace HB := st_ HB hb
           try clear hb
           refine hK.out _ _ ⟨(blk_cell BK101.out 0).trans rfl, (blk_cell BK101.out 1).trans rfl, (blk_cell BK101.out 2).trans rfl, (blk_cell BK101.out 3).trans rfl, (blk_cell BK111.out 0).trans rfl, (blk_cell BK111.out 1).trans rfl, (blk_cell BK112.out 0).trans rfl, (blk_cell BK112.out 1).trans rfl⟩ (fun hHeld => ?_)
           clear hK K
           refine normq_ 92 ?_
           refine oneq_ 11 (some 95) HT_ (fun K hK => ?_)
           refine goesq_ Try.func16 #[.agg #[.int .i64 t107, .int .i64 t108], .int .i64 a2] ?_
           with_reducible refine (cobwebref03_In.calls kj78 t107 t108 a2 t116 _ A102.out).mono ?_
           rintro e w109 ⟨rfl, hb⟩
           refine ⟨_, rfl, ?_⟩
           replace BK101 := bb_ BK101 hb
           replace BK102 := bb_ BK102 hb
           replace BK111 := bb_ BK111 hb
           replace BK112 := bb_ BK112 hb
           replace HB := st_ HB hb
           try clear hb
           refine hK.out _ _ ⟨(blk_cell BK101.out 0).trans rfl, (blk_cell BK101.out 1).trans rfl, (blk_cell BK101.out 2).trans rfl, (blk_cell BK101.out 3).trans rfl, (blk_cell BK111.out 0).trans rfl, (blk_cell BK111.out 1).trans rfl, (blk_cell BK112.out 0).trans rfl, (blk_cell BK112.out 1).trans rfl⟩ (fun hHeld => ?_)
           clear hK K
           refine normq_ 95 ?_
           refine pureq_ 12 96 HT_ ?_
           refine pureq_ 13 97 HT_ ?_
           refine pureq_ 14 98 HT_ ?_
           refine pureq_ 15 99 HT_ ?_
           refine pureq_ 17 101 HT_ ?_
           refine pureq_ 20 104 HT_ ?_
           refine pureq_ 23 107 HT_ ?_
           refine takeq_ 16 100 HT_ HW_ hHeld ?_
           refine takeq_ 18 102 HT_ HW_ hHeld ?_
           refine takeq_ 19 103 HT_ HW_ hHeld ?_
           refine takeq_ 22 106 HT_ HW_ hHeld ?_
           refine oneq_ 21 (some 105) HT_ (fun K hK => ?_)
           refine goesq_ Try.func14 #[.agg #[.int .i64 a0_0, .int .i64 a0_1], .agg #[.int .i64 a0_2, .int .i64 a0_3], .agg #[.int .i64 t109, .int .i64 t110], .int .i64 a2] ?_
           with_reducible refine (pixel_Hits.calls kj78 a0_0 a0_1 a0_2 a0_3 t109 t110 a2 t117 _ A104.out).mono ?_
           rintro e w110 ⟨rfl, hb⟩
           refine ⟨_, rfl, ?_⟩
           replace BK101 := bb_ BK101 hb
           replace BK102 := bb_ BK102 hb
           replace BK111 := bb_ BK111 hb
           replace BK112 := bb_ BK112 hb
           replace HB := st_ HB hb
           try clear hb
           refine hK.out _ _ ⟨(blk_cell BK101.out 0).trans rfl, (blk_cell BK101.out 1).trans rfl, (blk_cell BK101.out 2).trans rfl, (blk_cell BK101.out 3).trans rfl, (blk_cell BK111.out 0).trans rfl, (blk_cell BK111.out 1).trans rfl, (blk_cell BK112.out 0).trans rfl, (blk_cell BK112.out 1).trans rfl⟩ (fun hHeld => ?_)
           clear hK K
           refine normq_ 105 ?_
           refine oneq_ 24 (some 108) HT_ (fun K hK => ?_)
           refine goesq_ Try.func16 #[.agg #[.int .i64 t109, .int .i64 t110], .int .i64 a2] ?_
           with_reducible refine (cobwebref03_In.calls kj78 t109 t110 a2 t118 _ A105.out).mono ?_
           rintro e w111 ⟨rfl, hb⟩
           refine ⟨_, rfl, ?_⟩
           replace BK101 := bb_ BK101 hb
           replace BK102 := bb_ BK102 hb
           replace BK111 := bb_ BK111 hb
           replace BK112 := bb_ BK112 hb
           replace HB := st_ HB hb
           try clear hb
           refine hK.out _ _ ⟨(blk_cell BK101.out 0).trans rfl, (blk_cell BK101.out 1).trans rfl, (blk_cell BK101.out 2).trans rfl, (blk_cell BK101.out 3).trans rfl, (blk_cell BK111.out 0).trans rfl, (blk_cell BK111.out 1).trans rfl, (blk_cell BK112.out 0).trans rfl, (blk_cell BK112.out 1).trans rfl⟩ (fun hHeld => ?_)
           clear hK K
           refine normq_ 108 ?_
           refine pureq_ 25 109 HT_ ?_
           refine pureq_ 26 110 HT_ ?_
           refine pureq_ 27 6 HT_ ?_
           refine done_ (done_of HT_.out (by kernel_rfl)) ?_
           try go_wp2
           go_ret
           exact ⟨by first | rfl | (simp [errW_none, errW_some] <;> rfl) | (simp [*, errW_none, errW_some] <;> rfl), l_ HB⟩
          ·rw [if_neg c103] at H
           have c103b0 : (t115 == t116) = false := by simpa using c103
           (try (have c103b1 : decide (t115 = t116) = false := by simpa using c103))
           (try (have c103b2 : (t115 == t116) = false := by simpa using c103))
           (try (have c103b3 : ¬ (t115 = t116) := by simpa using c103))
           clear c103
           obtain rfl := Option.some.inj H
           try go_wp2
           replace BK101 := A_ (blk_drew BK101.out)
           replace BK102 := A_ (blk_drew BK102.out)
           replace BK111 := A_ (blk_drew BK111.out)
           replace BK112 := A_ (blk_drew BK112.out)
           replace HB := A_ (below_drew1 HB.out)
           refine start_ (n := 28) (S := fun w' => w'.cell? ⟨gb101, 0, none⟩ = some (.int .i64 a0_0) ∧ w'.cell? ⟨gb101, 1, none⟩ = some (.int .i64 a0_1) ∧ w'.cell? ⟨gb101, 2, none⟩ = some (.int .i64 a0_2) ∧ w'.cell? ⟨gb101, 3, none⟩ = some (.int .i64 a0_3) ∧ w'.cell? ⟨gb111, 0, none⟩ = some (.int .i64 t107) ∧ w'.cell? ⟨gb111, 1, none⟩ = some (.int .i64 t108)) (ds := []) (Array.replicate 28 false) (by kernel_rfl) rfl rfl ⟨(blk_cell BK101.out 0).trans rfl, (blk_cell BK101.out 1).trans rfl, (blk_cell BK101.out 2).trans rfl, (blk_cell BK101.out 3).trans rfl, (blk_cell BK111.out 0).trans rfl, (blk_cell BK111.out 1).trans rfl⟩ (fun hHeld => ?_); refine with_tabW cobweblaw06_PixelBetween.tab7 cobweblaw06_PixelBetween.bits7 (fun HT_ HW_ => ?_)
           generalize wc.drew = w112 at BK101 BK102 BK111 BK112 HB hHeld ⊢
           refine oneq_ 0 (some 84) HT_ (fun K hK => ?_)
           refine goesq_ Try.func13 #[] ?_
           with_reducible refine (cobweblaw06_alive.calls  true _ A99.out).mono ?_
           rintro e w113 ⟨rfl, hb⟩
           refine ⟨_, rfl, ?_⟩
           replace BK101 := bb_ BK101 hb
           replace BK102 := bb_ BK102 hb
           replace BK111 := bb_ BK111 hb
           replace BK112 := bb_ BK112 hb
           replace HB := st_ HB hb
           try clear hb
           refine hK.out _ _ ⟨(blk_cell BK101.out 0).trans rfl, (blk_cell BK101.out 1).trans rfl, (blk_cell BK101.out 2).trans rfl, (blk_cell BK101.out 3).trans rfl, (blk_cell BK111.out 0).trans rfl, (blk_cell BK111.out 1).trans rfl⟩ (fun hHeld => ?_)
           clear hK K
           refine normq_ 84 ?_
           refine pureq_ 1 85 HT_ ?_
           refine pureq_ 2 86 HT_ ?_
           refine pureq_ 4 88 HT_ ?_
           refine pureq_ 7 91 HT_ ?_
           refine pureq_ 10 94 HT_ ?_
           refine takeq_ 3 87 HT_ HW_ hHeld ?_
           refine takeq_ 5 89 HT_ HW_ hHeld ?_
           refine takeq_ 6 90 HT_ HW_ hHeld ?_
           refine takeq_ 9 93 HT_ HW_ hHeld ?_
           refine oneq_ 8 (some 92) HT_ (fun K hK => ?_)
           refine goesq_ Try.func14 #[.agg #[.int .i64 a0_0, .int .i64 a0_1], .agg #[.int .i64 a0_2, .int .i64 a0_3], .agg #[.int .i64 t107, .int .i64 t108], .int .i64 a2] ?_
           with_reducible refine (pixel_Hits.calls kj78 a0_0 a0_1 a0_2 a0_3 t107 t108 a2 t115 _ A101.out).mono ?_
           rintro e w114 ⟨rfl, hb⟩
           refine ⟨_, rfl, ?_⟩
           replace BK101 := bb_ BK101 hb
           replace BK102 := bb_ BK102 hb
           replace BK111 := bb_ BK111 hb
           replace BK112 := bb_ BK112 hb
           replace HB := st_ HB hb
           try clear hb
           refine hK.out _ _ ⟨(blk_cell BK101.out 0).trans rfl, (blk_cell BK101.out 1).trans rfl, (blk_cell BK101.out 2).trans rfl, (blk_cell BK101.out 3).trans rfl, (blk_cell BK111.out 0).trans rfl, (blk_cell BK111.out 1).trans rfl⟩ (fun hHeld => ?_)
           clear hK K
           refine normq_ 92 ?_
           refine oneq_ 11 (some 95) HT_ (fun K hK => ?_)
           refine goesq_ Try.func16 #[.agg #[.int .i64 t107, .int .i64 t108], .int .i64 a2] ?_
           with_reducible refine (cobwebref03_In.calls kj78 t107 t108 a2 t116 _ A102.out).mono ?_
           rintro e w115 ⟨rfl, hb⟩
           refine ⟨_, rfl, ?_⟩
           replace BK101 := bb_ BK101 hb
           replace BK102 := bb_ BK102 hb
           replace BK111 := bb_ BK111 hb
           replace BK112 := bb_ BK112 hb
           replace HB := st_ HB hb
           try clear hb
           refine hK.out _ _ ⟨(blk_cell BK101.out 0).trans rfl, (blk_cell BK101.out 1).trans rfl, (blk_cell BK101.out 2).trans rfl, (blk_cell BK101.out 3).trans rfl, (blk_cell BK111.out 0).trans rfl, (blk_cell BK111.out 1).trans rfl⟩ (fun hHeld => ?_)
           clear hK K
           refine normq_ 95 ?_
           refine pureq_ 12 96 HT_ ?_
           refine pureq_ 13 97 HT_ ?_
           refine pureq_ 14 98 HT_ ?_
           refine puren_ 15 99 HT_ ?_
           refine puren_ 16 100 HT_ ?_
           refine puren_ 17 101 HT_ ?_
           refine puren_ 18 102 HT_ ?_
           refine puren_ 19 103 HT_ ?_
           refine puren_ 20 104 HT_ ?_
           refine puren_ 21 105 HT_ ?_
           refine puren_ 22 106 HT_ ?_
           refine puren_ 23 107 HT_ ?_
           refine puren_ 24 108 HT_ ?_
           refine puren_ 25 109 HT_ ?_
           refine pureq_ 26 110 HT_ ?_
           refine pureq_ 27 6 HT_ ?_
           refine done_ (done_of HT_.out (by kernel_rfl)) ?_
           try go_wp2
           go_ret
           exact ⟨by first | rfl | (simp [errW_none, errW_some] <;> rfl) | (simp [*, errW_none, errW_some] <;> rfl), l_ HB⟩
         ·replace c100 := Bool.eq_false_iff.mpr c100
          subst c100
          have H1 : (some false) = some r := by rw [if_neg (show ¬ (false = true) by decide)] at H; exact H
          clear H
          have H := H1
          clear H1
          obtain rfl := Option.some.inj H
          try go_wp2
          replace BK101 := A_ (blk_drew BK101.out)
          replace BK102 := A_ (blk_drew BK102.out)
          replace BK111 := A_ (blk_drew BK111.out)
          replace BK112 := A_ (blk_drew BK112.out)
          replace HB := A_ (below_drew1 HB.out)
          refine start_ (n := 28) (S := fun w' => True) (ds := []) (Array.replicate 28 false) (by kernel_rfl) rfl rfl trivial (fun hHeld => ?_); refine with_tabW cobweblaw06_PixelBetween.tab7 cobweblaw06_PixelBetween.bits7 (fun HT_ HW_ => ?_)
          generalize wc.drew = w116 at BK101 BK102 BK111 BK112 HB hHeld ⊢
          refine oneq_ 0 (some 84) HT_ (fun K hK => ?_)
          refine goesq_ Try.func13 #[] ?_
          with_reducible refine (cobweblaw06_alive.calls  false _ A99.out).mono ?_
          rintro e w117 ⟨rfl, hb⟩
          refine ⟨_, rfl, ?_⟩
          replace BK101 := bb_ BK101 hb
          replace BK102 := bb_ BK102 hb
          replace BK111 := bb_ BK111 hb
          replace BK112 := bb_ BK112 hb
          replace HB := st_ HB hb
          try clear hb
          refine hK.out _ _ trivial (fun hHeld => ?_)
          clear hK K
          refine normq_ 84 ?_
          refine pureq_ 1 85 HT_ ?_
          refine puren_ 2 86 HT_ ?_
          refine puren_ 3 87 HT_ ?_
          refine puren_ 4 88 HT_ ?_
          refine puren_ 5 89 HT_ ?_
          refine puren_ 6 90 HT_ ?_
          refine puren_ 7 91 HT_ ?_
          refine puren_ 8 92 HT_ ?_
          refine puren_ 9 93 HT_ ?_
          refine puren_ 10 94 HT_ ?_
          refine puren_ 11 95 HT_ ?_
          refine puren_ 12 96 HT_ ?_
          refine pureq_ 13 97 HT_ ?_
          refine pureq_ 14 98 HT_ ?_
          refine puren_ 15 99 HT_ ?_
          refine puren_ 16 100 HT_ ?_
          refine puren_ 17 101 HT_ ?_
          refine puren_ 18 102 HT_ ?_
          refine puren_ 19 103 HT_ ?_
          refine puren_ 20 104 HT_ ?_
          refine puren_ 21 105 HT_ ?_
          refine puren_ 22 106 HT_ ?_
          refine puren_ 23 107 HT_ ?_
          refine puren_ 24 108 HT_ ?_
          refine puren_ 25 109 HT_ ?_
          refine pureq_ 26 110 HT_ ?_
          refine pureq_ 27 6 HT_ ?_
          refine done_ (done_of HT_.out (by kernel_rfl)) ?_
          try go_wp2
          go_ret
          exact ⟨by first | rfl | (simp [errW_none, errW_some] <;> rfl) | (simp [*, errW_none, errW_some] <;> rfl), l_ HB⟩

end Go.Proofs.Ytglkjeeiiflpjaa.F
