-- PRINTED by print.py (a twelfth state) out of the translation. Not trusted: Lean checks it.
import Derived.Test.YtglkjeeiiflpjaaF0
import Derived.Test.YtglkjeeiiflpjaaB3
import Derived.Test.YtglkjeeiiflpjaaF12
import Derived.Test.YtglkjeeiiflpjaaHAlive06
import Derived.Test.YtglkjeeiiflpjaaHMeets
namespace Go.Proofs.Ytglkjeeiiflpjaa.F
open Go.RowKit Go.Proofs.YtglkjeeiiflpjaaW.PrintWords Go.Proofs.YtglkjeeiiflpjaaW.PrintLast Go.Proofs.YtglkjeeiiflpjaaW.PrintMore
attribute [local go_sem] max2_int min2_int max_two min_two max_three min_three max_four min_four   -- for this text's walks alone
set_option linter.unusedVariables false
set_option linter.unusedSimpArgs false

/-! ### cobweblaw06_PixelMeets: function 3 -/
def cobweblaw06_PixelMeets.f (k : Nat) (a0_0 : Int) (a0_1 : Int) (a0_2 : Int) (a0_3 : Int) (a1_0 : Int) (a1_1 : Int) (a1_2 : Int) (a1_3 : Int) (a2 : Int) : Option (Bool) := (pixel_Meets.f a0_0 a0_1 a0_2 a0_3 a1_0 a1_1 a1_2 a1_3 a2).bind fun t103 => ((cobwebref06_Meets.f k a0_0 a0_1 a0_2 a0_3 a1_0 a1_1 a1_2 a1_3 a2).bind fun t104 => (if (t103 == t104) = true then ((cobweblaw06_alive.f).bind fun t105 => (some t105)) else (some false)))
theorem cobweblaw06_PixelMeets.mono : ∀ a0 a1 a2 a3 a4 a5 a6 a7 a8 k, LeO (cobweblaw06_PixelMeets.f k a0 a1 a2 a3 a4 a5 a6 a7 a8) (cobweblaw06_PixelMeets.f (k + 1) a0 a1 a2 a3 a4 a5 a6 a7 a8) := by
  intro a0 a1 a2 a3 a4 a5 a6 a7 a8 k
  unfold cobweblaw06_PixelMeets.f
  repeat' first
      | (with_reducible exact cobwebref06_Meets.mono _ _ _ _ _ _ _ _ _ _)
      | (with_reducible exact LeO.refl _)
      | (with_reducible exact LeO.none _)
      | (with_reducible refine LeO.ite ?_ ?_)
      | (with_reducible refine LeO.bind ?_ (fun _ => ?_))
      | exact cobwebref06_Meets.mono _ _ _ _ _ _ _ _ _ _
      | exact LeO.none _
      | refine LeO.ite ?_ ?_
      | refine LeO.bind ?_ (fun _ => ?_)
def cobweblaw06_PixelMeets.T1 : Bool × List (List Nat × List Nat) := (true, [([], []), ([0], [0]), ([], []), ([2], [2]), ([], []), ([4], [4]), ([], []), ([6], [6]), ([], []), ([1, 3, 5, 7, 8], [1, 3, 5, 7, 8]), ([], []), ([10], [10]), ([], []), ([12], [12]), ([], []), ([14], [14]), ([], []), ([16], [16]), ([], []), ([11, 13, 15, 17, 18, 9], [11, 13, 15, 17, 18]), ([9, 19], [9, 19]), ([20, 19], [20]), ([21, 21], [21]), ([21, 22], [21, 22]), ([23, 22, 0, 1, 2, 3, 4, 5, 6, 7, 8, 9, 10, 11, 12, 13, 14, 15, 16, 17, 18, 19, 20, 21, 22, 23], [23])])
def cobweblaw06_PixelMeets.B1 : List Nat := [0, 1, 0, 4, 0, 16, 0, 64, 0, 511, 0, 1024, 0, 4096, 0, 16384, 0, 65536, 0, 524287, 1048575, 2097151, 4194303, 8388607, 16777215]
theorem cobweblaw06_PixelMeets.tab1 : rtab .any (opsOf Try.f3 1) = cobweblaw06_PixelMeets.T1 := by kernel_rfl
theorem cobweblaw06_PixelMeets.bits1 : waitsOk cobweblaw06_PixelMeets.T1.2 cobweblaw06_PixelMeets.B1 = true := by kernel_rfl
set_option maxHeartbeats 8000000 in
set_option maxRecDepth 100000 in
theorem cobweblaw06_PixelMeets.calls (k : Nat) (a0_0 : Int) (a0_1 : Int) (a0_2 : Int) (a0_3 : Int) (a1_0 : Int) (a1_1 : Int) (a1_2 : Int) (a1_3 : Int) (a2 : Int) (r : Bool) (w : World) (h : cobweblaw06_PixelMeets.f k a0_0 a0_1 a0_2 a0_3 a1_0 a1_1 a1_2 a1_3 a2 = some r) :
    Calls Try.prog 3 #[.agg #[.int .i64 a0_0, .int .i64 a0_1, .int .i64 a0_2, .int .i64 a0_3], .agg #[.int .i64 a1_0, .int .i64 a1_1, .int .i64 a1_2, .int .i64 a1_3], .int .i64 a2] w fun e w' => e = .returned (.bool r) ∧ Below w.heap.size w w' := by
  have hu24 := Try.underlying24
  have hu26 := Try.underlying26
  have hu23 := Try.underlying23
  have HB := A_ (Below.refl w.heap.size w)
  have H : ((pixel_Meets.f a0_0 a0_1 a0_2 a0_3 a1_0 a1_1 a1_2 a1_3 a2).bind fun t103 => ((cobwebref06_Meets.f k a0_0 a0_1 a0_2 a0_3 a1_0 a1_1 a1_2 a1_3 a2).bind fun t104 => (if (t103 == t104) = true then ((cobweblaw06_alive.f).bind fun t105 => (some t105)) else (some false)))) = some r := h
  clear h
  replace H := Option.bind_eq_some_iff.mp H
  obtain ⟨t103, A40, H⟩ := H
  replace H : ((cobwebref06_Meets.f k a0_0 a0_1 a0_2 a0_3 a1_0 a1_1 a1_2 a1_3 a2).bind fun t104 => (if (t103 == t104) = true then ((cobweblaw06_alive.f).bind fun t105 => (some t105)) else (some false))) = some r := H
  have A4 := A_ A40
  clear A40
  replace H := Option.bind_eq_some_iff.mp H
  obtain ⟨t104, A50, H⟩ := H
  replace H : (if (t103 == t104) = true then ((cobweblaw06_alive.f).bind fun t105 => (some t105)) else (some false)) = some r := H
  have A5 := A_ A50
  clear A50
  by_cases c6 : (t103 == t104) = true
  · rw [if_pos c6] at H
    have c6b0 : (t103 == t104) = true := c6
    (try (have c6b1 : decide (t103 = t104) = true := by simpa using c6))
    (try (have c6b2 : (t103 == t104) = true := by simpa using c6))
    clear c6
    replace H := Option.bind_eq_some_iff.mp H
    obtain ⟨t105, A70, H⟩ := H
    replace H : (some t105) = some r := H
    have A7 := A_ A70
    clear A70
    obtain rfl := Option.some.inj H
    go_enter Try.func3, Try.ntmps3
    try go_wp2_with (first | ((with_reducible refine gate_dst (N := 3) rfl ?_); refine boxeq_ 3 #[.int .i64 a0_0, .int .i64 a0_1, .int .i64 a0_2, .int .i64 a0_3] 24 ?_; intro gb101 hg w8 hbox hb; have BK101 := A_ (hbox); have GW101 := ge_ HB hg; replace HB := st_ HB hb; have GE101 := GW101; clear hb hbox hg) | ((with_reducible refine gate_dst (N := 4) rfl ?_); refine boxeq_ 4 #[.int .i64 a1_0, .int .i64 a1_1, .int .i64 a1_2, .int .i64 a1_3] 26 ?_; intro gb102 hg w9 hbox hb; have BK102 := A_ (hbox); have GW102 := ge_ HB hg; replace HB := st_ HB hb; have GE102 := GW102; have NB101_102 := ne_ BK101 hg; replace BK101 := bb_ BK101 hb; have NB102_101 := A_ NB101_102.out.symm; clear hb hbox hg))
    replace BK101 := A_ (blk_drew BK101.out)
    replace BK102 := A_ (blk_drew BK102.out)
    replace HB := A_ (below_drew1 HB.out)
    refine start_ (n := 25) (S := fun w' => w'.cell? ⟨gb101, 0, none⟩ = some (.int .i64 a0_0) ∧ w'.cell? ⟨gb101, 1, none⟩ = some (.int .i64 a0_1) ∧ w'.cell? ⟨gb101, 2, none⟩ = some (.int .i64 a0_2) ∧ w'.cell? ⟨gb101, 3, none⟩ = some (.int .i64 a0_3) ∧ w'.cell? ⟨gb102, 0, none⟩ = some (.int .i64 a1_0) ∧ w'.cell? ⟨gb102, 1, none⟩ = some (.int .i64 a1_1) ∧ w'.cell? ⟨gb102, 2, none⟩ = some (.int .i64 a1_2) ∧ w'.cell? ⟨gb102, 3, none⟩ = some (.int .i64 a1_3)) (ds := []) (Array.replicate 25 false) (by kernel_rfl) rfl rfl ⟨(blk_cell BK101.out 0).trans rfl, (blk_cell BK101.out 1).trans rfl, (blk_cell BK101.out 2).trans rfl, (blk_cell BK101.out 3).trans rfl, (blk_cell BK102.out 0).trans rfl, (blk_cell BK102.out 1).trans rfl, (blk_cell BK102.out 2).trans rfl, (blk_cell BK102.out 3).trans rfl⟩ (fun hHeld => ?_); refine with_tabW cobweblaw06_PixelMeets.tab1 cobweblaw06_PixelMeets.bits1 (fun HT_ HW_ => ?_)
    generalize w9.drew = w10 at BK101 BK102 HB hHeld ⊢
    refine pureq_ 0 7 HT_ ?_
    refine pureq_ 2 9 HT_ ?_
    refine pureq_ 4 11 HT_ ?_
    refine pureq_ 6 13 HT_ ?_
    refine pureq_ 8 15 HT_ ?_
    refine pureq_ 10 17 HT_ ?_
    refine pureq_ 12 19 HT_ ?_
    refine pureq_ 14 21 HT_ ?_
    refine pureq_ 16 23 HT_ ?_
    refine pureq_ 18 25 HT_ ?_
    refine takeq_ 1 8 HT_ HW_ hHeld ?_
    refine takeq_ 3 10 HT_ HW_ hHeld ?_
    refine takeq_ 5 12 HT_ HW_ hHeld ?_
    refine takeq_ 7 14 HT_ HW_ hHeld ?_
    refine takeq_ 11 18 HT_ HW_ hHeld ?_
    refine takeq_ 13 20 HT_ HW_ hHeld ?_
    refine takeq_ 15 22 HT_ HW_ hHeld ?_
    refine takeq_ 17 24 HT_ HW_ hHeld ?_
    refine oneq_ 9 (some 16) HT_ (fun K hK => ?_)
    refine goesq_ Try.func11 #[.agg #[.int .i64 a0_0, .int .i64 a0_1], .agg #[.int .i64 a0_2, .int .i64 a0_3], .agg #[.int .i64 a1_0, .int .i64 a1_1], .agg #[.int .i64 a1_2, .int .i64 a1_3], .int .i64 a2] ?_
    with_reducible refine (pixel_Meets.calls a0_0 a0_1 a0_2 a0_3 a1_0 a1_1 a1_2 a1_3 a2 t103 _ A4.out).mono ?_
    rintro e w11 ⟨rfl, hb⟩
    refine ⟨_, rfl, ?_⟩
    replace BK101 := bb_ BK101 hb
    replace BK102 := bb_ BK102 hb
    replace HB := st_ HB hb
    try clear hb
    refine hK.out _ _ ⟨(blk_cell BK101.out 0).trans rfl, (blk_cell BK101.out 1).trans rfl, (blk_cell BK101.out 2).trans rfl, (blk_cell BK101.out 3).trans rfl, (blk_cell BK102.out 0).trans rfl, (blk_cell BK102.out 1).trans rfl, (blk_cell BK102.out 2).trans rfl, (blk_cell BK102.out 3).trans rfl⟩ (fun hHeld => ?_)
    clear hK K
    refine normq_ 16 ?_
    refine oneq_ 19 (some 26) HT_ (fun K hK => ?_)
    refine goesq_ Try.func12 #[.agg #[.int .i64 a0_0, .int .i64 a0_1], .agg #[.int .i64 a0_2, .int .i64 a0_3], .agg #[.int .i64 a1_0, .int .i64 a1_1], .agg #[.int .i64 a1_2, .int .i64 a1_3], .int .i64 a2] ?_
    with_reducible refine (cobwebref06_Meets.calls k a0_0 a0_1 a0_2 a0_3 a1_0 a1_1 a1_2 a1_3 a2 t104 _ A5.out).mono ?_
    rintro e w12 ⟨rfl, hb⟩
    refine ⟨_, rfl, ?_⟩
    replace BK101 := bb_ BK101 hb
    replace BK102 := bb_ BK102 hb
    replace HB := st_ HB hb
    try clear hb
    refine hK.out _ _ ⟨(blk_cell BK101.out 0).trans rfl, (blk_cell BK101.out 1).trans rfl, (blk_cell BK101.out 2).trans rfl, (blk_cell BK101.out 3).trans rfl, (blk_cell BK102.out 0).trans rfl, (blk_cell BK102.out 1).trans rfl, (blk_cell BK102.out 2).trans rfl, (blk_cell BK102.out 3).trans rfl⟩ (fun hHeld => ?_)
    clear hK K
    refine normq_ 26 ?_
    refine pureq_ 20 27 HT_ ?_
    refine pureq_ 21 28 HT_ ?_
    refine oneq_ 22 (some 29) HT_ (fun K hK => ?_)
    refine goesq_ Try.func13 #[] ?_
    with_reducible refine (cobweblaw06_alive.calls  t105 _ A7.out).mono ?_
    rintro e w13 ⟨rfl, hb⟩
    refine ⟨_, rfl, ?_⟩
    replace BK101 := bb_ BK101 hb
    replace BK102 := bb_ BK102 hb
    replace HB := st_ HB hb
    try clear hb
    refine hK.out _ _ ⟨(blk_cell BK101.out 0).trans rfl, (blk_cell BK101.out 1).trans rfl, (blk_cell BK101.out 2).trans rfl, (blk_cell BK101.out 3).trans rfl, (blk_cell BK102.out 0).trans rfl, (blk_cell BK102.out 1).trans rfl, (blk_cell BK102.out 2).trans rfl, (blk_cell BK102.out 3).trans rfl⟩ (fun hHeld => ?_)
    clear hK K
    refine normq_ 29 ?_
    refine pureq_ 23 30 HT_ ?_
    refine pureq_ 24 6 HT_ ?_
    refine done_ (done_of HT_.out (by kernel_rfl)) ?_
    try go_wp2
    go_ret
    exact ⟨by first | rfl | (simp [errW_none, errW_some] <;> rfl) | (simp [*, errW_none, errW_some] <;> rfl), l_ HB⟩
  · rw [if_neg c6] at H
    have c6b0 : (t103 == t104) = false := by simpa using c6
    (try (have c6b1 : decide (t103 = t104) = false := by simpa using c6))
    (try (have c6b2 : (t103 == t104) = false := by simpa using c6))
    (try (have c6b3 : ¬ (t103 = t104) := by simpa using c6))
    clear c6
    obtain rfl := Option.some.inj H
    go_enter Try.func3, Try.ntmps3
    try go_wp2_with (first | ((with_reducible refine gate_dst (N := 3) rfl ?_); refine boxeq_ 3 #[.int .i64 a0_0, .int .i64 a0_1, .int .i64 a0_2, .int .i64 a0_3] 24 ?_; intro gb101 hg w14 hbox hb; have BK101 := A_ (hbox); have GW101 := ge_ HB hg; replace HB := st_ HB hb; have GE101 := GW101; clear hb hbox hg) | ((with_reducible refine gate_dst (N := 4) rfl ?_); refine boxeq_ 4 #[.int .i64 a1_0, .int .i64 a1_1, .int .i64 a1_2, .int .i64 a1_3] 26 ?_; intro gb102 hg w15 hbox hb; have BK102 := A_ (hbox); have GW102 := ge_ HB hg; replace HB := st_ HB hb; have GE102 := GW102; have NB101_102 := ne_ BK101 hg; replace BK101 := bb_ BK101 hb; have NB102_101 := A_ NB101_102.out.symm; clear hb hbox hg))
    replace BK101 := A_ (blk_drew BK101.out)
    replace BK102 := A_ (blk_drew BK102.out)
    replace HB := A_ (below_drew1 HB.out)
    refine start_ (n := 25) (S := fun w' => w'.cell? ⟨gb101, 0, none⟩ = some (.int .i64 a0_0) ∧ w'.cell? ⟨gb101, 1, none⟩ = some (.int .i64 a0_1) ∧ w'.cell? ⟨gb101, 2, none⟩ = some (.int .i64 a0_2) ∧ w'.cell? ⟨gb101, 3, none⟩ = some (.int .i64 a0_3) ∧ w'.cell? ⟨gb102, 0, none⟩ = some (.int .i64 a1_0) ∧ w'.cell? ⟨gb102, 1, none⟩ = some (.int .i64 a1_1) ∧ w'.cell? ⟨gb102, 2, none⟩ = some (.int .i64 a1_2) ∧ w'.cell? ⟨gb102, 3, none⟩ = some (.int .i64 a1_3)) (ds := []) (Array.replicate 25 false) (by kernel_rfl) rfl rfl ⟨(blk_cell BK101.out 0).trans rfl, (blk_cell BK101.out 1).trans rfl, (blk_cell BK101.out 2).trans rfl, (blk_cell BK101.out 3).trans rfl, (blk_cell BK102.out 0).trans rfl, (blk_cell BK102.out 1).trans rfl, (blk_cell BK102.out 2).trans rfl, (blk_cell BK102.out 3).trans rfl⟩ (fun hHeld => ?_); refine with_tabW cobweblaw06_PixelMeets.tab1 cobweblaw06_PixelMeets.bits1 (fun HT_ HW_ => ?_)
    generalize w15.drew = w16 at BK101 BK102 HB hHeld ⊢
    refine pureq_ 0 7 HT_ ?_
    refine pureq_ 2 9 HT_ ?_
    refine pureq_ 4 11 HT_ ?_
    refine pureq_ 6 13 HT_ ?_
    refine pureq_ 8 15 HT_ ?_
    refine pureq_ 10 17 HT_ ?_
    refine pureq_ 12 19 HT_ ?_
    refine pureq_ 14 21 HT_ ?_
    refine pureq_ 16 23 HT_ ?_
    refine pureq_ 18 25 HT_ ?_
    refine takeq_ 1 8 HT_ HW_ hHeld ?_
    refine takeq_ 3 10 HT_ HW_ hHeld ?_
    refine takeq_ 5 12 HT_ HW_ hHeld ?_
    refine takeq_ 7 14 HT_ HW_ hHeld ?_
    refine takeq_ 11 18 HT_ HW_ hHeld ?_
    refine takeq_ 13 20 HT_ HW_ hHeld ?_
    refine takeq_ 15 22 HT_ HW_ hHeld ?_
    refine takeq_ 17 24 HT_ HW_ hHeld ?_
    refine oneq_ 9 (some 16) HT_ (fun K hK => ?_)
    refine goesq_ Try.func11 #[.agg #[.int .i64 a0_0, .int .i64 a0_1], .agg #[.int .i64 a0_2, .int .i64 a0_3], .agg #[.int .i64 a1_0, .int .i64 a1_1], .agg #[.int .i64 a1_2, .int .i64 a1_3], .int .i64 a2] ?_
    with_reducible refine (pixel_Meets.calls a0_0 a0_1 a0_2 a0_3 a1_0 a1_1 a1_2 a1_3 a2 t103 _ A4.out).mono ?_
    rintro e w17 ⟨rfl, hb⟩
    refine ⟨_, rfl, ?_⟩
    replace BK101 := bb_ BK101 hb
    replace BK102 := bb_ BK102 hb
    replace HB := st_ HB hb
    try clear hb
    refine hK.out _ _ ⟨(blk_cell BK101.out 0).trans rfl, (blk_cell BK101.out 1).trans rfl, (blk_cell BK101.out 2).trans rfl, (blk_cell BK101.out 3).trans rfl, (blk_cell BK102.out 0).trans rfl, (blk_cell BK102.out 1).trans rfl, (blk_cell BK102.out 2).trans rfl, (blk_cell BK102.out 3).trans rfl⟩ (fun hHeld => ?_)
    clear hK K
    refine normq_ 16 ?_
    refine oneq_ 19 (some 26) HT_ (fun K hK => ?_)
    refine goesq_ Try.func12 #[.agg #[.int .i64 a0_0, .int .i64 a0_1], .agg #[.int .i64 a0_2, .int .i64 a0_3], .agg #[.int .i64 a1_0, .int .i64 a1_1], .agg #[.int .i64 a1_2, .int .i64 a1_3], .int .i64 a2] ?_
    with_reducible refine (cobwebref06_Meets.calls k a0_0 a0_1 a0_2 a0_3 a1_0 a1_1 a1_2 a1_3 a2 t104 _ A5.out).mono ?_
    rintro e w18 ⟨rfl, hb⟩
    refine ⟨_, rfl, ?_⟩
    replace BK101 := bb_ BK101 hb
    replace BK102 := bb_ BK102 hb
    replace HB := st_ HB hb
    try clear hb
    refine hK.out _ _ ⟨(blk_cell BK101.out 0).trans rfl, (blk_cell BK101.out 1).trans rfl, (blk_cell BK101.out 2).trans rfl, (blk_cell BK101.out 3).trans rfl, (blk_cell BK102.out 0).trans rfl, (blk_cell BK102.out 1).trans rfl, (blk_cell BK102.out 2).trans rfl, (blk_cell BK102.out 3).trans rfl⟩ (fun hHeld => ?_)
    clear hK K
    refine normq_ 26 ?_
    refine pureq_ 20 27 HT_ ?_
    refine pureq_ 21 28 HT_ ?_
    refine puren_ 22 29 HT_ ?_
    refine pureq_ 23 30 HT_ ?_
    refine pureq_ 24 6 HT_ ?_
    refine done_ (done_of HT_.out (by kernel_rfl)) ?_
    try go_wp2
    go_ret
    exact ⟨by first | rfl | (simp [errW_none, errW_some] <;> rfl) | (simp [*, errW_none, errW_some] <;> rfl), l_ HB⟩

end Go.Proofs.Ytglkjeeiiflpjaa.F
