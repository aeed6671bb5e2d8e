-- PRINTED by print.py (a twelfth state) out of the translation. Not trusted: Lean checks it.
import Derived.Test.YtglkjeeiiflpjaaF0
import Derived.Test.YtglkjeeiiflpjaaB3
import Derived.Test.YtglkjeeiiflpjaaF31
import Derived.Test.YtglkjeeiiflpjaaF44
namespace Go.Proofs.Ytglkjeeiiflpjaa.F
open Go.RowKit Go.Proofs.YtglkjeeiiflpjaaW.PrintWords Go.Proofs.YtglkjeeiiflpjaaW.PrintLast Go.Proofs.YtglkjeeiiflpjaaW.PrintMore
attribute [local go_sem] max2_int min2_int max_two min_two max_three min_three max_four min_four   -- for this text's walks alone
set_option linter.unusedVariables false
set_option linter.unusedSimpArgs false

/-! ### cobwebref06_sum: function 30 -/
def cobwebref06_sum.f (k : Nat) (a0_0 : Bool) (l0_1 : List Int) (a0_2 : Bool) (l0_3 : List Int) (a1_0 : Bool) (l1_1 : List Int) (a1_2 : Bool) (l1_3 : List Int) : Option (Bool × List Int × Bool × List Int) := (cobwebref01_Mul.f k a0_0 l0_1 a1_2 l1_3).bind fun bt104 => ((cobwebref01_Mul.f k a1_0 l1_1 a0_2 l0_3).bind fun bt108 => ((cobwebref01_Add.f k bt104.1 bt104.2 bt108.1 bt108.2).bind fun bt112 => ((cobwebref01_Mul.f k a0_2 l0_3 a1_2 l1_3).bind fun bt117 => (some (bt112.1, bt112.2, bt117.1, bt117.2)))))
theorem cobwebref06_sum.mono : ∀ a0 a1 a2 a3 a4 a5 a6 a7 k, LeO (cobwebref06_sum.f k a0 a1 a2 a3 a4 a5 a6 a7) (cobwebref06_sum.f (k + 1) a0 a1 a2 a3 a4 a5 a6 a7) := by
  intro a0 a1 a2 a3 a4 a5 a6 a7 k
  unfold cobwebref06_sum.f
  repeat' first
      | (with_reducible exact cobwebref01_Add.mono _ _ _ _ _)
      | (with_reducible exact cobwebref01_Mul.mono _ _ _ _ _)
      | (with_reducible exact LeO.refl _)
      | (with_reducible exact LeO.none _)
      | (with_reducible refine LeO.ite ?_ ?_)
      | (with_reducible refine LeO.bind ?_ (fun _ => ?_))
      | exact cobwebref01_Add.mono _ _ _ _ _
      | exact cobwebref01_Mul.mono _ _ _ _ _
      | exact LeO.none _
      | refine LeO.ite ?_ ?_
      | refine LeO.bind ?_ (fun _ => ?_)
def cobwebref06_sum.T1 : Bool × List (List Nat × List Nat) := (true, [([], []), ([0], [0]), ([], []), ([2], [2]), ([1, 3], [1, 3]), ([], []), ([5], [5]), ([], []), ([7], [7]), ([6, 8, 4], [6, 8]), ([4, 9, 9], [4, 9]), ([], []), ([11, 10, 10, 0, 1, 2, 3, 4, 5, 6, 7, 8, 9, 10, 11], [10, 11])])
def cobwebref06_sum.B1 : List Nat := [0, 1, 0, 4, 15, 0, 32, 0, 128, 511, 1023, 0, 4095]
theorem cobwebref06_sum.tab1 : rtab .any (opsOf Try.f30 1) = cobwebref06_sum.T1 := by kernel_rfl
theorem cobwebref06_sum.bits1 : waitsOk cobwebref06_sum.T1.2 cobwebref06_sum.B1 = true := by kernel_rfl
def cobwebref06_sum.T2 : Bool × List (List Nat × List Nat) := (true, [([], []), ([], []), ([1], [1]), ([], []), ([3], [3]), ([2, 4], [2, 4]), ([0, 5], [0, 5]), ([6, 5, 0, 1, 2, 3, 4, 5, 6], [6])])
def cobwebref06_sum.B2 : List Nat := [0, 0, 2, 0, 8, 30, 63, 127]
theorem cobwebref06_sum.tab2 : rtab .any (opsOf Try.f30 2) = cobwebref06_sum.T2 := by kernel_rfl
theorem cobwebref06_sum.bits2 : waitsOk cobwebref06_sum.T2.2 cobwebref06_sum.B2 = true := by kernel_rfl
set_option maxHeartbeats 8000000 in
set_option maxRecDepth 100000 in
theorem cobwebref06_sum.calls (k : Nat) (a0_0 : Bool) (A0_1 : Option Addr) (c0_1 : Nat) (l0_1 : List Int) (a0_2 : Bool) (A0_3 : Option Addr) (c0_3 : Nat) (l0_3 : List Int) (a1_0 : Bool) (A1_1 : Option Addr) (c1_1 : Nat) (l1_1 : List Int) (a1_2 : Bool) (A1_3 : Option Addr) (c1_3 : Nat) (l1_3 : List Int) (r1 : Bool) (r2 : List Int) (r3 : Bool) (r4 : List Int) (w : World) (hr0_1 : Kd.C (Kd.int .i64) w A0_1 l0_1.length l0_1) (hc0_1 : l0_1.length ≤ c0_1) (hr0_3 : Kd.C (Kd.int .i64) w A0_3 l0_3.length l0_3) (hc0_3 : l0_3.length ≤ c0_3) (hr1_1 : Kd.C (Kd.int .i64) w A1_1 l1_1.length l1_1) (hc1_1 : l1_1.length ≤ c1_1) (hr1_3 : Kd.C (Kd.int .i64) w A1_3 l1_3.length l1_3) (hc1_3 : l1_3.length ≤ c1_3) (h : cobwebref06_sum.f k a0_0 l0_1 a0_2 l0_3 a1_0 l1_1 a1_2 l1_3 = some (r1, r2, r3, r4)) :
    Calls Try.prog 30 #[.agg #[.bool a0_0, .slice A0_1 l0_1.length c0_1, .bool a0_2, .slice A0_3 l0_3.length c0_3], .agg #[.bool a1_0, .slice A1_1 l1_1.length c1_1, .bool a1_2, .slice A1_3 l1_3.length c1_3]] w fun e w' => ∃ v1_ v3_ : Value, e = .returned (.agg #[.bool r1, v1_, .bool r3, v3_]) ∧ Kd.V (Kd.int .i64) 3 w' w.heap.size (fun k_ => (w.heap.size ≤ k_)) v1_ r2 ∧ Kd.V (Kd.int .i64) 3 w' w.heap.size (fun k_ => (w.heap.size ≤ k_)) v3_ r4 ∧ Below w.heap.size w w' := by
  have hu58 := Try.underlying58
  have hu55 := Try.underlying55
  have HR0_1 := A_ hr0_1
  have HC0_1 := A_ hc0_1
  clear hr0_1 hc0_1
  have HR0_3 := A_ hr0_3
  have HC0_3 := A_ hc0_3
  clear hr0_3 hc0_3
  have HR1_1 := A_ hr1_1
  have HC1_1 := A_ hc1_1
  clear hr1_1 hc1_1
  have HR1_3 := A_ hr1_3
  have HC1_3 := A_ hc1_3
  clear hr1_3 hc1_3
  have HB := A_ (Below.refl w.heap.size w)
  have H : ((cobwebref01_Mul.f k a0_0 l0_1 a1_2 l1_3).bind fun bt104 => ((cobwebref01_Mul.f k a1_0 l1_1 a0_2 l0_3).bind fun bt108 => ((cobwebref01_Add.f k bt104.1 bt104.2 bt108.1 bt108.2).bind fun bt112 => ((cobwebref01_Mul.f k a0_2 l0_3 a1_2 l1_3).bind fun bt117 => (some (bt112.1, bt112.2, bt117.1, bt117.2)))))) = some (r1, r2, r3, r4) := h
  clear h
  replace H := Option.bind_eq_some_iff.mp H
  obtain ⟨⟨t104, t105⟩, A30, H⟩ := H
  replace H : ((cobwebref01_Mul.f k a1_0 l1_1 a0_2 l0_3).bind fun bt108 => ((cobwebref01_Add.f k t104 t105 bt108.1 bt108.2).bind fun bt112 => ((cobwebref01_Mul.f k a0_2 l0_3 a1_2 l1_3).bind fun bt117 => (some (bt112.1, bt112.2, bt117.1, bt117.2))))) = some (r1, r2, r3, r4) := H
  have A3 := A_ A30
  clear A30
  replace H := Option.bind_eq_some_iff.mp H
  obtain ⟨⟨t108, t109⟩, A40, H⟩ := H
  replace H : ((cobwebref01_Add.f k t104 t105 t108 t109).bind fun bt112 => ((cobwebref01_Mul.f k a0_2 l0_3 a1_2 l1_3).bind fun bt117 => (some (bt112.1, bt112.2, bt117.1, bt117.2)))) = some (r1, r2, r3, r4) := H
  have A4 := A_ A40
  clear A40
  replace H := Option.bind_eq_some_iff.mp H
  obtain ⟨⟨t112, t113⟩, A50, H⟩ := H
  replace H : ((cobwebref01_Mul.f k a0_2 l0_3 a1_2 l1_3).bind fun bt117 => (some (t112, t113, bt117.1, bt117.2))) = some (r1, r2, r3, r4) := H
  have A5 := A_ A50
  clear A50
  replace H := Option.bind_eq_some_iff.mp H
  obtain ⟨⟨t117, t118⟩, A60, H⟩ := H
  replace H : (some (t112, t113, t117, t118)) = some (r1, r2, r3, r4) := H
  have A6 := A_ A60
  clear A60
  simp only [Option.some.injEq, Prod.mk.injEq] at H
  obtain ⟨rfl, rfl, rfl, rfl⟩ := H
  go_enter Try.func30, Try.ntmps30
  try go_wp2_with (first | ((with_reducible refine gate_dst (N := 2) rfl ?_); refine boxeq_ 2 #[.bool a0_0, .slice A0_1 l0_1.length c0_1, .bool a0_2, .slice A0_3 l0_3.length c0_3] 58 ?_; intro gb101 hg w7 hbox hb; have BK101 := A_ (hbox); have GW101 := ge_ HB hg; replace HB := st_ HB hb; have GE101 := GW101; clear hb hbox hg) | ((with_reducible refine gate_dst (N := 3) rfl ?_); refine boxeq_ 3 #[.bool a1_0, .slice A1_1 l1_1.length c1_1, .bool a1_2, .slice A1_3 l1_3.length c1_3] 58 ?_; intro gb102 hg w8 hbox hb; have BK102 := A_ (hbox); have GW102 := ge_ HB hg; replace HB := st_ HB hb; have GE102 := GW102; have NB101_102 := ne_ BK101 hg; replace BK101 := bb_ BK101 hb; have NB102_101 := A_ NB101_102.out.symm; clear hb hbox hg) | ((with_reducible refine gate_dst (N := 4) rfl ?_); refine boxeq_ 4 #[.bool false, .slice none 0 0, .bool false, .slice none 0 0] 58 ?_; intro gb103 hg w9 hbox hb; have BK103 := A_ (hbox); have GW103 := ge_ HB hg; replace HB := st_ HB hb; have GE103 := GW103; have NB101_103 := ne_ BK101 hg; replace BK101 := bb_ BK101 hb; have NB103_101 := A_ NB101_103.out.symm; have NB102_103 := ne_ BK102 hg; replace BK102 := bb_ BK102 hb; have NB103_102 := A_ NB102_103.out.symm; clear hb hbox hg))
  replace BK101 := A_ (blk_drew BK101.out)
  replace BK102 := A_ (blk_drew BK102.out)
  replace BK103 := A_ (blk_drew BK103.out)
  replace HB := A_ (below_drew1 HB.out)
  refine start_ (n := 13) (S := fun w' => w'.cell? ⟨gb101, 0, none⟩ = some (.bool a0_0) ∧ w'.cell? ⟨gb101, 1, none⟩ = some (.slice A0_1 l0_1.length c0_1) ∧ w'.cell? ⟨gb101, 2, none⟩ = some (.bool a0_2) ∧ w'.cell? ⟨gb101, 3, none⟩ = some (.slice A0_3 l0_3.length c0_3) ∧ w'.cell? ⟨gb102, 0, none⟩ = some (.bool a1_0) ∧ w'.cell? ⟨gb102, 1, none⟩ = some (.slice A1_1 l1_1.length c1_1) ∧ w'.cell? ⟨gb102, 2, none⟩ = some (.bool a1_2) ∧ w'.cell? ⟨gb102, 3, none⟩ = some (.slice A1_3 l1_3.length c1_3)) (ds := []) (Array.replicate 13 false) (by kernel_rfl) rfl rfl ⟨(blk_cell BK101.out 0).trans rfl, (blk_cell BK101.out 1).trans rfl, (blk_cell BK101.out 2).trans rfl, (blk_cell BK101.out 3).trans rfl, (blk_cell BK102.out 0).trans rfl, (blk_cell BK102.out 1).trans rfl, (blk_cell BK102.out 2).trans rfl, (blk_cell BK102.out 3).trans rfl⟩ (fun hHeld => ?_); refine with_tabW cobwebref06_sum.tab1 cobwebref06_sum.bits1 (fun HT_ HW_ => ?_)
  generalize w9.drew = w10 at BK101 BK102 BK103 HB hHeld ⊢
  refine pureq_ 0 6 HT_ ?_
  refine pureq_ 2 8 HT_ ?_
  refine pureq_ 5 11 HT_ ?_
  refine pureq_ 7 13 HT_ ?_
  refine takeq_ 1 7 HT_ HW_ hHeld ?_
  refine takeq_ 3 9 HT_ HW_ hHeld ?_
  refine takeq_ 6 12 HT_ HW_ hHeld ?_
  refine takeq_ 8 14 HT_ HW_ hHeld ?_
  refine join_ (σ := Value × Value × Value × Nat) 1 (bb 13 4095) (fun s_ => [(10, .agg #[.bool t104, s_.1]), (15, .agg #[.bool t108, s_.2.1]), (16, .agg #[.bool t112, s_.2.2.1]), (5, .pointer (some ⟨s_.2.2.2, 0, none⟩))]) (fun s_ w' => (w'.cell? ⟨gb101, 0, none⟩ = some (.bool a0_0) ∧ w'.cell? ⟨gb101, 1, none⟩ = some (.slice A0_1 l0_1.length c0_1) ∧ w'.cell? ⟨gb101, 2, none⟩ = some (.bool a0_2) ∧ w'.cell? ⟨gb101, 3, none⟩ = some (.slice A0_3 l0_3.length c0_3) ∧ w'.cell? ⟨gb102, 0, none⟩ = some (.bool a1_0) ∧ w'.cell? ⟨gb102, 1, none⟩ = some (.slice A1_1 l1_1.length c1_1) ∧ w'.cell? ⟨gb102, 2, none⟩ = some (.bool a1_2) ∧ w'.cell? ⟨gb102, 3, none⟩ = some (.slice A1_3 l1_3.length c1_3)) ∧ (Kd.V (Kd.int .i64) 3 w' w.heap.size (fun k_ => (w.heap.size ≤ k_) ∧ k_ ≠ gb101 ∧ k_ ≠ gb102 ∧ k_ ≠ gb103 ∧ k_ ≠ s_.2.2.2) s_.1 t105) ∧ (Kd.V (Kd.int .i64) 3 w' w.heap.size (fun k_ => (w.heap.size ≤ k_) ∧ k_ ≠ gb101 ∧ k_ ≠ gb102 ∧ k_ ≠ gb103 ∧ k_ ≠ s_.2.2.2) s_.2.1 t109) ∧ (Kd.V (Kd.int .i64) 3 w' w.heap.size (fun k_ => (w.heap.size ≤ k_) ∧ k_ ≠ gb101 ∧ k_ ≠ gb102 ∧ k_ ≠ gb103 ∧ k_ ≠ s_.2.2.2) s_.2.2.1 t113) ∧ (w'.heap[gb101]? = some (.cells #[.bool a0_0, .slice A0_1 l0_1.length c0_1, .bool a0_2, .slice A0_3 l0_3.length c0_3] 58 (0, 0))) ∧ (w'.heap[gb102]? = some (.cells #[.bool a1_0, .slice A1_1 l1_1.length c1_1, .bool a1_2, .slice A1_3 l1_3.length c1_3] 58 (0, 0))) ∧ (w'.heap[gb103]? = some (.cells #[.bool false, .slice none 0 0, .bool false, .slice none 0 0] 58 (0, 0))) ∧ (w'.heap[s_.2.2.2]? = some (.cells #[.bool false, .slice none 0 0] 55 (0, 0))) ∧ (w.heap.size ≤ s_.2.2.2) ∧ (w.heap.size ≤ s_.2.2.2) ∧ (gb101 ≠ s_.2.2.2) ∧ (s_.2.2.2 ≠ gb101) ∧ (gb102 ≠ s_.2.2.2) ∧ (s_.2.2.2 ≠ gb102) ∧ (gb103 ≠ s_.2.2.2) ∧ (s_.2.2.2 ≠ gb103) ∧ (Below w.heap.size w w')) ?_ ?_
  rotate_left
  · intro hCont
    refine twoq_ 4 11 (some 10) (some 5) HT_ (fun K hK => ?_) (fun K hK => ?_)
    · skip
      refine goesq_ Try.func44 #[.agg #[.bool a0_0, .slice A0_1 l0_1.length c0_1], .agg #[.bool a1_2, .slice A1_3 l1_3.length c1_3]] ?_
      with_reducible refine (cobwebref01_Mul.calls k a0_0 _ _ l0_1 a1_2 _ _ l1_3 t104 t105 _ ?side1 ?side2 ?side3 ?side4 A3.out).mono ?_
      (case side1 => exact c_ (Kd.C_below HR0_1.out HB.out))
      (case side2 => exact HC0_1.out)
      (case side3 => exact c_ (Kd.C_below HR1_3.out HB.out))
      (case side4 => exact HC1_3.out)
      rintro e w11 ⟨v106, rfl, ho0, hb⟩
      refine ⟨_, rfl, ?_⟩
      have HO107 := A_ (Kd.V_lower (Kd.V_mono (ok' := fun k_ => (w.heap.size ≤ k_) ∧ k_ ≠ gb101 ∧ k_ ≠ gb102 ∧ k_ ≠ gb103) ho0 (fun k_ hk_ => ⟨(Nat.le_trans (below_size (l_ HB)) hk_), (Kd.freshB (b_ BK101) k_ hk_), (Kd.freshB (b_ BK102) k_ hk_), (Kd.freshB (b_ BK103) k_ hk_)⟩)) (below_size (l_ HB)))
      replace BK101 := bb_ BK101 hb
      replace BK102 := bb_ BK102 hb
      replace BK103 := bb_ BK103 hb
      replace HB := st_ HB hb
      try clear hb ho0
      refine hK.out _ _ ⟨(blk_cell BK101.out 0).trans rfl, (blk_cell BK101.out 1).trans rfl, (blk_cell BK101.out 2).trans rfl, (blk_cell BK101.out 3).trans rfl, (blk_cell BK102.out 0).trans rfl, (blk_cell BK102.out 1).trans rfl, (blk_cell BK102.out 2).trans rfl, (blk_cell BK102.out 3).trans rfl⟩ (fun hHeld => ?_)
      clear hK K
      refine normq_ 10 ?_
      refine twoq_ 9 11 (some 15) (some 5) HT_ (fun K hK => ?_) (fun K hK => ?_)
      · skip
        refine goesq_ Try.func44 #[.agg #[.bool a1_0, .slice A1_1 l1_1.length c1_1], .agg #[.bool a0_2, .slice A0_3 l0_3.length c0_3]] ?_
        with_reducible refine (cobwebref01_Mul.calls k a1_0 _ _ l1_1 a0_2 _ _ l0_3 t108 t109 _ ?side1 ?side2 ?side3 ?side4 A4.out).mono ?_
        (case side1 => exact c_ (Kd.C_below HR1_1.out HB.out))
        (case side2 => exact HC1_1.out)
        (case side3 => exact c_ (Kd.C_below HR0_3.out HB.out))
        (case side4 => exact HC0_3.out)
        rintro e w12 ⟨v110, rfl, ho0, hb⟩
        refine ⟨_, rfl, ?_⟩
        replace HO107 := A_ (Kd.V_below (v_ HO107.out) hb)
        have HO111 := A_ (Kd.V_lower (Kd.V_mono (ok' := fun k_ => (w.heap.size ≤ k_) ∧ k_ ≠ gb101 ∧ k_ ≠ gb102 ∧ k_ ≠ gb103) ho0 (fun k_ hk_ => ⟨(Nat.le_trans (below_size (l_ HB)) hk_), (Kd.freshB (b_ BK101) k_ hk_), (Kd.freshB (b_ BK102) k_ hk_), (Kd.freshB (b_ BK103) k_ hk_)⟩)) (below_size (l_ HB)))
        replace BK101 := bb_ BK101 hb
        replace BK102 := bb_ BK102 hb
        replace BK103 := bb_ BK103 hb
        replace HB := st_ HB hb
        try clear hb ho0
        obtain ⟨Ao13, co13, eo13⟩ := Kd.V_slice HO107.out
        (first | subst eo13 | (injection eo13 with f1_ f2_ f3_; have f4_ := f1_.symm; have f5_ := f3_.symm; clear f1_ f2_ f3_; subst f4_; subst f5_))
        obtain ⟨Ao14, co14, eo14⟩ := Kd.V_slice HO111.out
        (first | subst eo14 | (injection eo14 with f1_ f2_ f3_; have f4_ := f1_.symm; have f5_ := f3_.symm; clear f1_ f2_ f3_; subst f4_; subst f5_))
        refine hK.out _ _ ⟨(blk_cell BK101.out 0).trans rfl, (blk_cell BK101.out 1).trans rfl, (blk_cell BK101.out 2).trans rfl, (blk_cell BK101.out 3).trans rfl, (blk_cell BK102.out 0).trans rfl, (blk_cell BK102.out 1).trans rfl, (blk_cell BK102.out 2).trans rfl, (blk_cell BK102.out 3).trans rfl⟩ (fun hHeld => ?_)
        clear hK K
        refine normq_ 15 ?_
        refine twoq_ 10 11 (some 16) (some 5) HT_ (fun K hK => ?_) (fun K hK => ?_)
        · skip
          refine goesq_ Try.func31 #[.agg #[.bool t104, .slice Ao13 t105.length co13], .agg #[.bool t108, .slice Ao14 t109.length co14]] ?_
          with_reducible refine (cobwebref01_Add.calls k t104 _ _ t105 t108 _ _ t109 t112 t113 _ ?side1 ?side2 ?side3 ?side4 A5.out).mono ?_
          (case side1 => exact c_ (Kd.V_reads' HO107.out).2.2)
          (case side2 => exact (Kd.V_reads' HO107.out).2.1)
          (case side3 => exact c_ (Kd.V_reads' HO111.out).2.2)
          (case side4 => exact (Kd.V_reads' HO111.out).2.1)
          rintro e w15 ⟨v114, rfl, ho0, hb⟩
          refine ⟨_, rfl, ?_⟩
          replace HO107 := A_ (Kd.V_below (v_ HO107.out) hb)
          replace HO111 := A_ (Kd.V_below (v_ HO111.out) hb)
          have HO115 := A_ (Kd.V_lower (Kd.V_mono (ok' := fun k_ => (w.heap.size ≤ k_) ∧ k_ ≠ gb101 ∧ k_ ≠ gb102 ∧ k_ ≠ gb103) ho0 (fun k_ hk_ => ⟨(Nat.le_trans (below_size (l_ HB)) hk_), (Kd.freshB (b_ BK101) k_ hk_), (Kd.freshB (b_ BK102) k_ hk_), (Kd.freshB (b_ BK103) k_ hk_)⟩)) (below_size (l_ HB)))
          replace BK101 := bb_ BK101 hb
          replace BK102 := bb_ BK102 hb
          replace BK103 := bb_ BK103 hb
          replace HB := st_ HB hb
          try clear hb ho0
          refine hK.out _ _ ⟨(blk_cell BK101.out 0).trans rfl, (blk_cell BK101.out 1).trans rfl, (blk_cell BK101.out 2).trans rfl, (blk_cell BK101.out 3).trans rfl, (blk_cell BK102.out 0).trans rfl, (blk_cell BK102.out 1).trans rfl, (blk_cell BK102.out 2).trans rfl, (blk_cell BK102.out 3).trans rfl⟩ (fun hHeld => ?_)
          clear hK K
          refine normq_ 16 ?_
          refine oneq_ 11 (some 5) HT_ (fun K hK => ?_)
          refine boxsq_ 5 #[.bool false, .slice none 0 0] 55 ?_
          intro gb116 hg w16 hbox hb
          replace HO107 := A_ (Kd.V_below (Kd.V_elderB (v_ HO107.out) gb116 (Nat.le_of_eq hg.symm)) hb)
          replace HO111 := A_ (Kd.V_below (Kd.V_elderB (v_ HO111.out) gb116 (Nat.le_of_eq hg.symm)) hb)
          replace HO115 := A_ (Kd.V_below (Kd.V_elderB (v_ HO115.out) gb116 (Nat.le_of_eq hg.symm)) hb)
          have BK116 := A_ (hbox)
          have GW116 := ge_ HB hg
          replace HB := st_ HB hb
          have GE116 := GW116
          have NB101_116 := ne_ BK101 hg
          replace BK101 := bb_ BK101 hb
          have NB116_101 := A_ NB101_116.out.symm
          have NB102_116 := ne_ BK102 hg
          replace BK102 := bb_ BK102 hb
          have NB116_102 := A_ NB102_116.out.symm
          have NB103_116 := ne_ BK103 hg
          replace BK103 := bb_ BK103 hb
          have NB116_103 := A_ NB103_116.out.symm
          clear hb hbox hg
          refine hK.out _ _ ⟨(blk_cell BK101.out 0).trans rfl, (blk_cell BK101.out 1).trans rfl, (blk_cell BK101.out 2).trans rfl, (blk_cell BK101.out 3).trans rfl, (blk_cell BK102.out 0).trans rfl, (blk_cell BK102.out 1).trans rfl, (blk_cell BK102.out 2).trans rfl, (blk_cell BK102.out 3).trans rfl⟩ (fun hHeld => ?_)
          clear hK K
          refine normq_ 5 ?_
          exact normp_ (hCont (.slice Ao13 t105.length co13, .slice Ao14 t109.length co14, v114, gb116) _ ⟨hHeld, (Kd.V_mono (v_ HO107.out) (fun _ hk => ⟨hk.1.1, ⟨hk.1.2.1, ⟨hk.1.2.2.1, ⟨hk.1.2.2.2, hk.2⟩⟩⟩⟩)), (Kd.V_mono (v_ HO111.out) (fun _ hk => ⟨hk.1.1, ⟨hk.1.2.1, ⟨hk.1.2.2.1, ⟨hk.1.2.2.2, hk.2⟩⟩⟩⟩)), (Kd.V_mono (v_ HO115.out) (fun _ hk => ⟨hk.1.1, ⟨hk.1.2.1, ⟨hk.1.2.2.1, ⟨hk.1.2.2.2, hk.2⟩⟩⟩⟩)), (b_ BK101), (b_ BK102), (b_ BK103), (b_ BK116), GW116.out, GE116.out, NB101_116.out, NB116_101.out, NB102_116.out, NB116_102.out, NB103_116.out, NB116_103.out, (l_ HB)⟩)
        · skip
          refine boxsq_ 5 #[.bool false, .slice none 0 0] 55 ?_
          intro gb116 hg w13 hbox hb
          replace HO107 := A_ (Kd.V_below (Kd.V_elderB (v_ HO107.out) gb116 (Nat.le_of_eq hg.symm)) hb)
          replace HO111 := A_ (Kd.V_below (Kd.V_elderB (v_ HO111.out) gb116 (Nat.le_of_eq hg.symm)) hb)
          have BK116 := A_ (hbox)
          have GW116 := ge_ HB hg
          replace HB := st_ HB hb
          have GE116 := GW116
          have NB101_116 := ne_ BK101 hg
          replace BK101 := bb_ BK101 hb
          have NB116_101 := A_ NB101_116.out.symm
          have NB102_116 := ne_ BK102 hg
          replace BK102 := bb_ BK102 hb
          have NB116_102 := A_ NB102_116.out.symm
          have NB103_116 := ne_ BK103 hg
          replace BK103 := bb_ BK103 hb
          have NB116_103 := A_ NB103_116.out.symm
          clear hb hbox hg
          obtain ⟨Ao14, co14, eo14⟩ := Kd.V_slice HO107.out
          (first | subst eo14 | (injection eo14 with f1_ f2_ f3_; have f4_ := f1_.symm; have f5_ := f3_.symm; clear f1_ f2_ f3_; subst f4_; subst f5_))
          obtain ⟨Ao15, co15, eo15⟩ := Kd.V_slice HO111.out
          (first | subst eo15 | (injection eo15 with f1_ f2_ f3_; have f4_ := f1_.symm; have f5_ := f3_.symm; clear f1_ f2_ f3_; subst f4_; subst f5_))
          refine hK.out _ _ ⟨(blk_cell BK101.out 0).trans rfl, (blk_cell BK101.out 1).trans rfl, (blk_cell BK101.out 2).trans rfl, (blk_cell BK101.out 3).trans rfl, (blk_cell BK102.out 0).trans rfl, (blk_cell BK102.out 1).trans rfl, (blk_cell BK102.out 2).trans rfl, (blk_cell BK102.out 3).trans rfl⟩ (fun hHeld => ?_)
          clear hK K
          refine normq_ 5 ?_
          refine oneq_ 10 (some 16) HT_ (fun K hK => ?_)
          refine goesq_ Try.func31 #[.agg #[.bool t104, .slice Ao14 t105.length co14], .agg #[.bool t108, .slice Ao15 t109.length co15]] ?_
          with_reducible refine (cobwebref01_Add.calls k t104 _ _ t105 t108 _ _ t109 t112 t113 _ ?side1 ?side2 ?side3 ?side4 A5.out).mono ?_
          (case side1 => exact c_ (Kd.V_reads' HO107.out).2.2)
          (case side2 => exact (Kd.V_reads' HO107.out).2.1)
          (case side3 => exact c_ (Kd.V_reads' HO111.out).2.2)
          (case side4 => exact (Kd.V_reads' HO111.out).2.1)
          rintro e w16 ⟨v114, rfl, ho0, hb⟩
          refine ⟨_, rfl, ?_⟩
          replace HO107 := A_ (Kd.V_below (v_ HO107.out) hb)
          replace HO111 := A_ (Kd.V_below (v_ HO111.out) hb)
          have HO115 := A_ (Kd.V_lower (Kd.V_mono (ok' := fun k_ => (w.heap.size ≤ k_) ∧ k_ ≠ gb101 ∧ k_ ≠ gb102 ∧ k_ ≠ gb103 ∧ k_ ≠ gb116) ho0 (fun k_ hk_ => ⟨(Nat.le_trans (below_size (l_ HB)) hk_), (Kd.freshB (b_ BK101) k_ hk_), (Kd.freshB (b_ BK102) k_ hk_), (Kd.freshB (b_ BK103) k_ hk_), (Kd.freshB (b_ BK116) k_ hk_)⟩)) (below_size (l_ HB)))
          replace BK101 := bb_ BK101 hb
          replace BK102 := bb_ BK102 hb
          replace BK103 := bb_ BK103 hb
          replace BK116 := bb_ BK116 hb
          replace HB := st_ HB hb
          try clear hb ho0
          refine hK.out _ _ ⟨(blk_cell BK101.out 0).trans rfl, (blk_cell BK101.out 1).trans rfl, (blk_cell BK101.out 2).trans rfl, (blk_cell BK101.out 3).trans rfl, (blk_cell BK102.out 0).trans rfl, (blk_cell BK102.out 1).trans rfl, (blk_cell BK102.out 2).trans rfl, (blk_cell BK102.out 3).trans rfl⟩ (fun hHeld => ?_)
          clear hK K
          refine normq_ 16 ?_
          exact normp_ (hCont (.slice Ao14 t105.length co14, .slice Ao15 t109.length co15, v114, gb116) _ ⟨hHeld, (Kd.V_mono (v_ HO107.out) (fun _ hk => ⟨hk.1.1, ⟨hk.1.2.1, ⟨hk.1.2.2.1, ⟨hk.1.2.2.2, hk.2⟩⟩⟩⟩)), (Kd.V_mono (v_ HO111.out) (fun _ hk => ⟨hk.1.1, ⟨hk.1.2.1, ⟨hk.1.2.2.1, ⟨hk.1.2.2.2, hk.2⟩⟩⟩⟩)), (v_ HO115.out), (b_ BK101), (b_ BK102), (b_ BK103), (b_ BK116), GW116.out, GE116.out, NB101_116.out, NB116_101.out, NB102_116.out, NB116_102.out, NB103_116.out, NB116_103.out, (l_ HB)⟩)
      · skip
        refine boxsq_ 5 #[.bool false, .slice none 0 0] 55 ?_
        intro gb116 hg w12 hbox hb
        replace HO107 := A_ (Kd.V_below (Kd.V_elderB (v_ HO107.out) gb116 (Nat.le_of_eq hg.symm)) hb)
        have BK116 := A_ (hbox)
        have GW116 := ge_ HB hg
        replace HB := st_ HB hb
        have GE116 := GW116
        have NB101_116 := ne_ BK101 hg
        replace BK101 := bb_ BK101 hb
        have NB116_101 := A_ NB101_116.out.symm
        have NB102_116 := ne_ BK102 hg
        replace BK102 := bb_ BK102 hb
        have NB116_102 := A_ NB102_116.out.symm
        have NB103_116 := ne_ BK103 hg
        replace BK103 := bb_ BK103 hb
        have NB116_103 := A_ NB103_116.out.symm
        clear hb hbox hg
        refine hK.out _ _ ⟨(blk_cell BK101.out 0).trans rfl, (blk_cell BK101.out 1).trans rfl, (blk_cell BK101.out 2).trans rfl, (blk_cell BK101.out 3).trans rfl, (blk_cell BK102.out 0).trans rfl, (blk_cell BK102.out 1).trans rfl, (blk_cell BK102.out 2).trans rfl, (blk_cell BK102.out 3).trans rfl⟩ (fun hHeld => ?_)
        clear hK K
        refine normq_ 5 ?_
        refine oneq_ 9 (some 15) HT_ (fun K hK => ?_)
        refine goesq_ Try.func44 #[.agg #[.bool a1_0, .slice A1_1 l1_1.length c1_1], .agg #[.bool a0_2, .slice A0_3 l0_3.length c0_3]] ?_
        with_reducible refine (cobwebref01_Mul.calls k a1_0 _ _ l1_1 a0_2 _ _ l0_3 t108 t109 _ ?side1 ?side2 ?side3 ?side4 A4.out).mono ?_
        (case side1 => exact c_ (Kd.C_below HR1_1.out HB.out))
        (case side2 => exact HC1_1.out)
        (case side3 => exact c_ (Kd.C_below HR0_3.out HB.out))
        (case side4 => exact HC0_3.out)
        rintro e w13 ⟨v110, rfl, ho0, hb⟩
        refine ⟨_, rfl, ?_⟩
        replace HO107 := A_ (Kd.V_below (v_ HO107.out) hb)
        have HO111 := A_ (Kd.V_lower (Kd.V_mono (ok' := fun k_ => (w.heap.size ≤ k_) ∧ k_ ≠ gb101 ∧ k_ ≠ gb102 ∧ k_ ≠ gb103 ∧ k_ ≠ gb116) ho0 (fun k_ hk_ => ⟨(Nat.le_trans (below_size (l_ HB)) hk_), (Kd.freshB (b_ BK101) k_ hk_), (Kd.freshB (b_ BK102) k_ hk_), (Kd.freshB (b_ BK103) k_ hk_), (Kd.freshB (b_ BK116) k_ hk_)⟩)) (below_size (l_ HB)))
        replace BK101 := bb_ BK101 hb
        replace BK102 := bb_ BK102 hb
        replace BK103 := bb_ BK103 hb
        replace BK116 := bb_ BK116 hb
        replace HB := st_ HB hb
        try clear hb ho0
        obtain ⟨Ao14, co14, eo14⟩ := Kd.V_slice HO107.out
        (first | subst eo14 | (injection eo14 with f1_ f2_ f3_; have f4_ := f1_.symm; have f5_ := f3_.symm; clear f1_ f2_ f3_; subst f4_; subst f5_))
        obtain ⟨Ao15, co15, eo15⟩ := Kd.V_slice HO111.out
        (first | subst eo15 | (injection eo15 with f1_ f2_ f3_; have f4_ := f1_.symm; have f5_ := f3_.symm; clear f1_ f2_ f3_; subst f4_; subst f5_))
        refine hK.out _ _ ⟨(blk_cell BK101.out 0).trans rfl, (blk_cell BK101.out 1).trans rfl, (blk_cell BK101.out 2).trans rfl, (blk_cell BK101.out 3).trans rfl, (blk_cell BK102.out 0).trans rfl, (blk_cell BK102.out 1).trans rfl, (blk_cell BK102.out 2).trans rfl, (blk_cell BK102.out 3).trans rfl⟩ (fun hHeld => ?_)
        clear hK K
        refine normq_ 15 ?_
        refine oneq_ 10 (some 16) HT_ (fun K hK => ?_)
        refine goesq_ Try.func31 #[.agg #[.bool t104, .slice Ao14 t105.length co14], .agg #[.bool t108, .slice Ao15 t109.length co15]] ?_
        with_reducible refine (cobwebref01_Add.calls k t104 _ _ t105 t108 _ _ t109 t112 t113 _ ?side1 ?side2 ?side3 ?side4 A5.out).mono ?_
        (case side1 => exact c_ (Kd.V_reads' HO107.out).2.2)
        (case side2 => exact (Kd.V_reads' HO107.out).2.1)
        (case side3 => exact c_ (Kd.V_reads' HO111.out).2.2)
        (case side4 => exact (Kd.V_reads' HO111.out).2.1)
        rintro e w16 ⟨v114, rfl, ho0, hb⟩
        refine ⟨_, rfl, ?_⟩
        replace HO107 := A_ (Kd.V_below (v_ HO107.out) hb)
        replace HO111 := A_ (Kd.V_below (v_ HO111.out) hb)
        have HO115 := A_ (Kd.V_lower (Kd.V_mono (ok' := fun k_ => (w.heap.size ≤ k_) ∧ k_ ≠ gb101 ∧ k_ ≠ gb102 ∧ k_ ≠ gb103 ∧ k_ ≠ gb116) ho0 (fun k_ hk_ => ⟨(Nat.le_trans (below_size (l_ HB)) hk_), (Kd.freshB (b_ BK101) k_ hk_), (Kd.freshB (b_ BK102) k_ hk_), (Kd.freshB (b_ BK103) k_ hk_), (Kd.freshB (b_ BK116) k_ hk_)⟩)) (below_size (l_ HB)))
        replace BK101 := bb_ BK101 hb
        replace BK102 := bb_ BK102 hb
        replace BK103 := bb_ BK103 hb
        replace BK116 := bb_ BK116 hb
        replace HB := st_ HB hb
        try clear hb ho0
        refine hK.out _ _ ⟨(blk_cell BK101.out 0).trans rfl, (blk_cell BK101.out 1).trans rfl, (blk_cell BK101.out 2).trans rfl, (blk_cell BK101.out 3).trans rfl, (blk_cell BK102.out 0).trans rfl, (blk_cell BK102.out 1).trans rfl, (blk_cell BK102.out 2).trans rfl, (blk_cell BK102.out 3).trans rfl⟩ (fun hHeld => ?_)
        clear hK K
        refine normq_ 16 ?_
        exact normp_ (hCont (.slice Ao14 t105.length co14, .slice Ao15 t109.length co15, v114, gb116) _ ⟨hHeld, (Kd.V_mono (v_ HO107.out) (fun _ hk => ⟨hk.1.1, ⟨hk.1.2.1, ⟨hk.1.2.2.1, ⟨hk.1.2.2.2, hk.2⟩⟩⟩⟩)), (v_ HO111.out), (v_ HO115.out), (b_ BK101), (b_ BK102), (b_ BK103), (b_ BK116), GW116.out, GE116.out, NB101_116.out, NB116_101.out, NB102_116.out, NB116_102.out, NB103_116.out, NB116_103.out, (l_ HB)⟩)
    · skip
      refine boxsq_ 5 #[.bool false, .slice none 0 0] 55 ?_
      intro gb116 hg w11 hbox hb
      have BK116 := A_ (hbox)
      have GW116 := ge_ HB hg
      replace HB := st_ HB hb
      have GE116 := GW116
      have NB101_116 := ne_ BK101 hg
      replace BK101 := bb_ BK101 hb
      have NB116_101 := A_ NB101_116.out.symm
      have NB102_116 := ne_ BK102 hg
      replace BK102 := bb_ BK102 hb
      have NB116_102 := A_ NB102_116.out.symm
      have NB103_116 := ne_ BK103 hg
      replace BK103 := bb_ BK103 hb
      have NB116_103 := A_ NB103_116.out.symm
      clear hb hbox hg
      refine hK.out _ _ ⟨(blk_cell BK101.out 0).trans rfl, (blk_cell BK101.out 1).trans rfl, (blk_cell BK101.out 2).trans rfl, (blk_cell BK101.out 3).trans rfl, (blk_cell BK102.out 0).trans rfl, (blk_cell BK102.out 1).trans rfl, (blk_cell BK102.out 2).trans rfl, (blk_cell BK102.out 3).trans rfl⟩ (fun hHeld => ?_)
      clear hK K
      refine normq_ 5 ?_
      refine oneq_ 4 (some 10) HT_ (fun K hK => ?_)
      refine goesq_ Try.func44 #[.agg #[.bool a0_0, .slice A0_1 l0_1.length c0_1], .agg #[.bool a1_2, .slice A1_3 l1_3.length c1_3]] ?_
      with_reducible refine (cobwebref01_Mul.calls k a0_0 _ _ l0_1 a1_2 _ _ l1_3 t104 t105 _ ?side1 ?side2 ?side3 ?side4 A3.out).mono ?_
      (case side1 => exact c_ (Kd.C_below HR0_1.out HB.out))
      (case side2 => exact HC0_1.out)
      (case side3 => exact c_ (Kd.C_below HR1_3.out HB.out))
      (case side4 => exact HC1_3.out)
      rintro e w12 ⟨v106, rfl, ho0, hb⟩
      refine ⟨_, rfl, ?_⟩
      have HO107 := A_ (Kd.V_lower (Kd.V_mono (ok' := fun k_ => (w.heap.size ≤ k_) ∧ k_ ≠ gb101 ∧ k_ ≠ gb102 ∧ k_ ≠ gb103 ∧ k_ ≠ gb116) ho0 (fun k_ hk_ => ⟨(Nat.le_trans (below_size (l_ HB)) hk_), (Kd.freshB (b_ BK101) k_ hk_), (Kd.freshB (b_ BK102) k_ hk_), (Kd.freshB (b_ BK103) k_ hk_), (Kd.freshB (b_ BK116) k_ hk_)⟩)) (below_size (l_ HB)))
      replace BK101 := bb_ BK101 hb
      replace BK102 := bb_ BK102 hb
      replace BK103 := bb_ BK103 hb
      replace BK116 := bb_ BK116 hb
      replace HB := st_ HB hb
      try clear hb ho0
      refine hK.out _ _ ⟨(blk_cell BK101.out 0).trans rfl, (blk_cell BK101.out 1).trans rfl, (blk_cell BK101.out 2).trans rfl, (blk_cell BK101.out 3).trans rfl, (blk_cell BK102.out 0).trans rfl, (blk_cell BK102.out 1).trans rfl, (blk_cell BK102.out 2).trans rfl, (blk_cell BK102.out 3).trans rfl⟩ (fun hHeld => ?_)
      clear hK K
      refine normq_ 10 ?_
      refine oneq_ 9 (some 15) HT_ (fun K hK => ?_)
      refine goesq_ Try.func44 #[.agg #[.bool a1_0, .slice A1_1 l1_1.length c1_1], .agg #[.bool a0_2, .slice A0_3 l0_3.length c0_3]] ?_
      with_reducible refine (cobwebref01_Mul.calls k a1_0 _ _ l1_1 a0_2 _ _ l0_3 t108 t109 _ ?side1 ?side2 ?side3 ?side4 A4.out).mono ?_
      (case side1 => exact c_ (Kd.C_below HR1_1.out HB.out))
      (case side2 => exact HC1_1.out)
      (case side3 => exact c_ (Kd.C_below HR0_3.out HB.out))
      (case side4 => exact HC0_3.out)
      rintro e w13 ⟨v110, rfl, ho0, hb⟩
      refine ⟨_, rfl, ?_⟩
      replace HO107 := A_ (Kd.V_below (v_ HO107.out) hb)
      have HO111 := A_ (Kd.V_lower (Kd.V_mono (ok' := fun k_ => (w.heap.size ≤ k_) ∧ k_ ≠ gb101 ∧ k_ ≠ gb102 ∧ k_ ≠ gb103 ∧ k_ ≠ gb116) ho0 (fun k_ hk_ => ⟨(Nat.le_trans (below_size (l_ HB)) hk_), (Kd.freshB (b_ BK101) k_ hk_), (Kd.freshB (b_ BK102) k_ hk_), (Kd.freshB (b_ BK103) k_ hk_), (Kd.freshB (b_ BK116) k_ hk_)⟩)) (below_size (l_ HB)))
      replace BK101 := bb_ BK101 hb
      replace BK102 := bb_ BK102 hb
      replace BK103 := bb_ BK103 hb
      replace BK116 := bb_ BK116 hb
      replace HB := st_ HB hb
      try clear hb ho0
      obtain ⟨Ao14, co14, eo14⟩ := Kd.V_slice HO107.out
      (first | subst eo14 | (injection eo14 with f1_ f2_ f3_; have f4_ := f1_.symm; have f5_ := f3_.symm; clear f1_ f2_ f3_; subst f4_; subst f5_))
      obtain ⟨Ao15, co15, eo15⟩ := Kd.V_slice HO111.out
      (first | subst eo15 | (injection eo15 with f1_ f2_ f3_; have f4_ := f1_.symm; have f5_ := f3_.symm; clear f1_ f2_ f3_; subst f4_; subst f5_))
      refine hK.out _ _ ⟨(blk_cell BK101.out 0).trans rfl, (blk_cell BK101.out 1).trans rfl, (blk_cell BK101.out 2).trans rfl, (blk_cell BK101.out 3).trans rfl, (blk_cell BK102.out 0).trans rfl, (blk_cell BK102.out 1).trans rfl, (blk_cell BK102.out 2).trans rfl, (blk_cell BK102.out 3).trans rfl⟩ (fun hHeld => ?_)
      clear hK K
      refine normq_ 15 ?_
      refine oneq_ 10 (some 16) HT_ (fun K hK => ?_)
      refine goesq_ Try.func31 #[.agg #[.bool t104, .slice Ao14 t105.length co14], .agg #[.bool t108, .slice Ao15 t109.length co15]] ?_
      with_reducible refine (cobwebref01_Add.calls k t104 _ _ t105 t108 _ _ t109 t112 t113 _ ?side1 ?side2 ?side3 ?side4 A5.out).mono ?_
      (case side1 => exact c_ (Kd.V_reads' HO107.out).2.2)
      (case side2 => exact (Kd.V_reads' HO107.out).2.1)
      (case side3 => exact c_ (Kd.V_reads' HO111.out).2.2)
      (case side4 => exact (Kd.V_reads' HO111.out).2.1)
      rintro e w16 ⟨v114, rfl, ho0, hb⟩
      refine ⟨_, rfl, ?_⟩
      replace HO107 := A_ (Kd.V_below (v_ HO107.out) hb)
      replace HO111 := A_ (Kd.V_below (v_ HO111.out) hb)
      have HO115 := A_ (Kd.V_lower (Kd.V_mono (ok' := fun k_ => (w.heap.size ≤ k_) ∧ k_ ≠ gb101 ∧ k_ ≠ gb102 ∧ k_ ≠ gb103 ∧ k_ ≠ gb116) ho0 (fun k_ hk_ => ⟨(Nat.le_trans (below_size (l_ HB)) hk_), (Kd.freshB (b_ BK101) k_ hk_), (Kd.freshB (b_ BK102) k_ hk_), (Kd.freshB (b_ BK103) k_ hk_), (Kd.freshB (b_ BK116) k_ hk_)⟩)) (below_size (l_ HB)))
      replace BK101 := bb_ BK101 hb
      replace BK102 := bb_ BK102 hb
      replace BK103 := bb_ BK103 hb
      replace BK116 := bb_ BK116 hb
      replace HB := st_ HB hb
      try clear hb ho0
      refine hK.out _ _ ⟨(blk_cell BK101.out 0).trans rfl, (blk_cell BK101.out 1).trans rfl, (blk_cell BK101.out 2).trans rfl, (blk_cell BK101.out 3).trans rfl, (blk_cell BK102.out 0).trans rfl, (blk_cell BK102.out 1).trans rfl, (blk_cell BK102.out 2).trans rfl, (blk_cell BK102.out 3).trans rfl⟩ (fun hHeld => ?_)
      clear hK K
      refine normq_ 16 ?_
      exact normp_ (hCont (.slice Ao14 t105.length co14, .slice Ao15 t109.length co15, v114, gb116) _ ⟨hHeld, (v_ HO107.out), (v_ HO111.out), (v_ HO115.out), (b_ BK101), (b_ BK102), (b_ BK103), (b_ BK116), GW116.out, GE116.out, NB101_116.out, NB116_101.out, NB102_116.out, NB116_102.out, NB103_116.out, NB116_103.out, (l_ HB)⟩)
  rintro ⟨v106, v110, v114, gb116⟩ w17 ⟨hS_, h0_, h1_, h2_, h3_, h4_, h5_, h6_, h7_, h8_, h9_, h10_, h11_, h12_, h13_, h14_, h15_⟩
  have n0_ : Aside0 (Kd.V (Kd.int .i64) 3 w17 w.heap.size (fun k_ => (w.heap.size ≤ k_) ∧ k_ ≠ gb101 ∧ k_ ≠ gb102 ∧ k_ ≠ gb103 ∧ k_ ≠ gb116) v106 t105) := ⟨h0_⟩
  have n1_ : Aside0 (Kd.V (Kd.int .i64) 3 w17 w.heap.size (fun k_ => (w.heap.size ≤ k_) ∧ k_ ≠ gb101 ∧ k_ ≠ gb102 ∧ k_ ≠ gb103 ∧ k_ ≠ gb116) v110 t109) := ⟨h1_⟩
  have n2_ : Aside0 (Kd.V (Kd.int .i64) 3 w17 w.heap.size (fun k_ => (w.heap.size ≤ k_) ∧ k_ ≠ gb101 ∧ k_ ≠ gb102 ∧ k_ ≠ gb103 ∧ k_ ≠ gb116) v114 t113) := ⟨h2_⟩
  have n3_ : Aside0 (w17.heap[gb101]? = some (.cells #[.bool a0_0, .slice A0_1 l0_1.length c0_1, .bool a0_2, .slice A0_3 l0_3.length c0_3] 58 (0, 0))) := ⟨h3_⟩
  have n4_ : Aside0 (w17.heap[gb102]? = some (.cells #[.bool a1_0, .slice A1_1 l1_1.length c1_1, .bool a1_2, .slice A1_3 l1_3.length c1_3] 58 (0, 0))) := ⟨h4_⟩
  have n5_ : Aside0 (w17.heap[gb103]? = some (.cells #[.bool false, .slice none 0 0, .bool false, .slice none 0 0] 58 (0, 0))) := ⟨h5_⟩
  have n6_ : Aside0 (w17.heap[gb116]? = some (.cells #[.bool false, .slice none 0 0] 55 (0, 0))) := ⟨h6_⟩
  have n7_ : Aside0 (w.heap.size ≤ gb116) := ⟨h7_⟩
  have n8_ : Aside0 (w.heap.size ≤ gb116) := ⟨h8_⟩
  have n9_ : Aside0 (gb101 ≠ gb116) := ⟨h9_⟩
  have n10_ : Aside0 (gb116 ≠ gb101) := ⟨h10_⟩
  have n11_ : Aside0 (gb102 ≠ gb116) := ⟨h11_⟩
  have n12_ : Aside0 (gb116 ≠ gb102) := ⟨h12_⟩
  have n13_ : Aside0 (gb103 ≠ gb116) := ⟨h13_⟩
  have n14_ : Aside0 (gb116 ≠ gb103) := ⟨h14_⟩
  have n15_ : Aside0 (Below w.heap.size w w17) := ⟨h15_⟩
  clear BK101 BK102 BK103 HB h0_ h1_ h2_ h3_ h4_ h5_ h6_ h7_ h8_ h9_ h10_ h11_ h12_ h13_ h14_ h15_
  have HO107 := n0_
  have HO111 := n1_
  have HO115 := n2_
  have BK101 := n3_
  have BK102 := n4_
  have BK103 := n5_
  have BK116 := n6_
  have GW116 := n7_
  have GE116 := n8_
  have NB101_116 := n9_
  have NB116_101 := n10_
  have NB102_116 := n11_
  have NB116_102 := n12_
  have NB103_116 := n13_
  have NB116_103 := n14_
  have HB := n15_
  clear n0_ n1_ n2_ n3_ n4_ n5_ n6_ n7_ n8_ n9_ n10_ n11_ n12_ n13_ n14_ n15_
  have hHeld : w17.cell? ⟨gb101, 0, none⟩ = some (.bool a0_0) ∧ w17.cell? ⟨gb101, 1, none⟩ = some (.slice A0_1 l0_1.length c0_1) ∧ w17.cell? ⟨gb101, 2, none⟩ = some (.bool a0_2) ∧ w17.cell? ⟨gb101, 3, none⟩ = some (.slice A0_3 l0_3.length c0_3) ∧ w17.cell? ⟨gb102, 0, none⟩ = some (.bool a1_0) ∧ w17.cell? ⟨gb102, 1, none⟩ = some (.slice A1_1 l1_1.length c1_1) ∧ w17.cell? ⟨gb102, 2, none⟩ = some (.bool a1_2) ∧ w17.cell? ⟨gb102, 3, none⟩ = some (.slice A1_3 l1_3.length c1_3) := hS_
  obtain ⟨Ao19, co19, eo19⟩ := Kd.V_slice HO115.out
  (first | subst eo19 | (injection eo19 with f1_ f2_ f3_; have f4_ := f1_.symm; have f5_ := f3_.symm; clear f1_ f2_ f3_; subst f4_; subst f5_))
  refine norm_ (a' := ?_) ?_ ?_
  rotate_left
  · simp only [putAll, Act.put, List.setIfInBounds_toArray, List.set_cons_zero, List.set_cons_succ]
    rfl
  refine oneq_ 12 none HT_ (fun K hK => ?_)
  have hs18 : w17.cell? ⟨gb116, 0, none⟩ = some (.bool false) := (blk_cell BK116.out 0).trans rfl
  have hfs18 := blk_frozen BK116.out 0
  have hns18_0 := NB101_116.out
  have hns18_1 := NB102_116.out
  have hns18_2 := NB103_116.out
  have hms18_0 := NB116_101.out
  have hms18_1 := NB116_102.out
  have hms18_2 := NB116_103.out
  have hs20 : w17.cell? ⟨gb116, 1, none⟩ = some (.slice none 0 0) := (blk_cell BK116.out 1).trans rfl
  have hfs20 := blk_frozen BK116.out 1
  have hns20_0 := NB101_116.out
  have hns20_1 := NB102_116.out
  have hns20_2 := NB103_116.out
  have hms20_0 := NB116_101.out
  have hms20_1 := NB116_102.out
  have hms20_2 := NB116_103.out
  refine skip_ (w1 := ?_) (by rfl) rfl ?_ ?_
  rotate_left
  · go_simp
    rfl
  refine hK.out _ _ ⟨((cell_far (p := ⟨gb116, _, none⟩) NB101_116.out _).trans (((cell_far (p := ⟨gb116, _, none⟩) NB101_116.out _).trans (hHeld.1)))), ((cell_far (p := ⟨gb116, _, none⟩) NB101_116.out _).trans (((cell_far (p := ⟨gb116, _, none⟩) NB101_116.out _).trans (hHeld.2.1)))), ((cell_far (p := ⟨gb116, _, none⟩) NB101_116.out _).trans (((cell_far (p := ⟨gb116, _, none⟩) NB101_116.out _).trans (hHeld.2.2.1)))), ((cell_far (p := ⟨gb116, _, none⟩) NB101_116.out _).trans (((cell_far (p := ⟨gb116, _, none⟩) NB101_116.out _).trans (hHeld.2.2.2.1)))), ((cell_far (p := ⟨gb116, _, none⟩) NB102_116.out _).trans (((cell_far (p := ⟨gb116, _, none⟩) NB102_116.out _).trans (hHeld.2.2.2.2.1)))), ((cell_far (p := ⟨gb116, _, none⟩) NB102_116.out _).trans (((cell_far (p := ⟨gb116, _, none⟩) NB102_116.out _).trans (hHeld.2.2.2.2.2.1)))), ((cell_far (p := ⟨gb116, _, none⟩) NB102_116.out _).trans (((cell_far (p := ⟨gb116, _, none⟩) NB102_116.out _).trans (hHeld.2.2.2.2.2.2.1)))), ((cell_far (p := ⟨gb116, _, none⟩) NB102_116.out _).trans (((cell_far (p := ⟨gb116, _, none⟩) NB102_116.out _).trans (hHeld.2.2.2.2.2.2.2))))⟩ (fun hHeld => ?_)
  clear hK K
  refine done_ (done_of HT_.out (by kernel_rfl)) ?_
  try go_wp2
  have n0_ : Aside0 (Kd.V (Kd.int .i64) 3 ((w17.setCell ⟨gb116, 0, none⟩ (.bool t112)).setCell ⟨gb116, 1, none⟩ (.slice Ao19 t113.length co19)) w.heap.size (fun k_ => (w.heap.size ≤ k_) ∧ k_ ≠ gb101 ∧ k_ ≠ gb102 ∧ k_ ≠ gb103 ∧ k_ ≠ gb116) v106 t105) := ⟨by (with_reducible repeat (first | apply Kd.V_alloc | apply Kd.V_drewN | apply Kd.V_drew)); exact Kd.V_mono (Kd.V_far (p := ⟨gb116, 1, none⟩) (Kd.V_far (p := ⟨gb116, 0, none⟩) (Kd.V_mono HO107.out (fun k_ hk => (⟨hk, hk.2.2.2.2⟩ : _ ∧ k_ ≠ gb116))) (fun _ hk => hk.2) (.bool t112)) (fun _ hk => hk.2) (.slice Ao19 t113.length co19)) (fun _ hk => ⟨hk.1.1, ⟨hk.1.2.1, ⟨hk.1.2.2.1, ⟨hk.1.2.2.2.1, hk.1.2.2.2.2⟩⟩⟩⟩)⟩
  have n1_ : Aside0 (Kd.V (Kd.int .i64) 3 ((w17.setCell ⟨gb116, 0, none⟩ (.bool t112)).setCell ⟨gb116, 1, none⟩ (.slice Ao19 t113.length co19)) w.heap.size (fun k_ => (w.heap.size ≤ k_) ∧ k_ ≠ gb101 ∧ k_ ≠ gb102 ∧ k_ ≠ gb103 ∧ k_ ≠ gb116) v110 t109) := ⟨by (with_reducible repeat (first | apply Kd.V_alloc | apply Kd.V_drewN | apply Kd.V_drew)); exact Kd.V_mono (Kd.V_far (p := ⟨gb116, 1, none⟩) (Kd.V_far (p := ⟨gb116, 0, none⟩) (Kd.V_mono HO111.out (fun k_ hk => (⟨hk, hk.2.2.2.2⟩ : _ ∧ k_ ≠ gb116))) (fun _ hk => hk.2) (.bool t112)) (fun _ hk => hk.2) (.slice Ao19 t113.length co19)) (fun _ hk => ⟨hk.1.1, ⟨hk.1.2.1, ⟨hk.1.2.2.1, ⟨hk.1.2.2.2.1, hk.1.2.2.2.2⟩⟩⟩⟩)⟩
  have n2_ : Aside0 (Kd.V (Kd.int .i64) 3 ((w17.setCell ⟨gb116, 0, none⟩ (.bool t112)).setCell ⟨gb116, 1, none⟩ (.slice Ao19 t113.length co19)) w.heap.size (fun k_ => (w.heap.size ≤ k_) ∧ k_ ≠ gb101 ∧ k_ ≠ gb102 ∧ k_ ≠ gb103 ∧ k_ ≠ gb116) (.slice Ao19 t113.length co19) t113) := ⟨by (with_reducible repeat (first | apply Kd.V_alloc | apply Kd.V_drewN | apply Kd.V_drew)); exact Kd.V_mono (Kd.V_far (p := ⟨gb116, 1, none⟩) (Kd.V_far (p := ⟨gb116, 0, none⟩) (Kd.V_mono HO115.out (fun k_ hk => (⟨hk, hk.2.2.2.2⟩ : _ ∧ k_ ≠ gb116))) (fun _ hk => hk.2) (.bool t112)) (fun _ hk => hk.2) (.slice Ao19 t113.length co19)) (fun _ hk => ⟨hk.1.1, ⟨hk.1.2.1, ⟨hk.1.2.2.1, ⟨hk.1.2.2.2.1, hk.1.2.2.2.2⟩⟩⟩⟩)⟩
  have n3_ : Aside0 (((w17.setCell ⟨gb116, 0, none⟩ (.bool t112)).setCell ⟨gb116, 1, none⟩ (.slice Ao19 t113.length co19)).heap[gb101]? = some (.cells #[.bool a0_0, .slice A0_1 l0_1.length c0_1, .bool a0_2, .slice A0_3 l0_3.length c0_3] 58 (0, 0))) := ⟨by (with_reducible repeat (first | refine blk_drewN ?_ _ | refine blk_drew ?_ | refine blk_alloc ?_ _)); refine blk_far ?_ NB101_116.out _; (with_reducible repeat (first | refine blk_drewN ?_ _ | refine blk_drew ?_ | refine blk_alloc ?_ _)); refine blk_far ?_ NB101_116.out _; (with_reducible repeat (first | refine blk_drewN ?_ _ | refine blk_drew ?_ | refine blk_alloc ?_ _)); exact BK101.out⟩
  have n4_ : Aside0 (((w17.setCell ⟨gb116, 0, none⟩ (.bool t112)).setCell ⟨gb116, 1, none⟩ (.slice Ao19 t113.length co19)).heap[gb102]? = some (.cells #[.bool a1_0, .slice A1_1 l1_1.length c1_1, .bool a1_2, .slice A1_3 l1_3.length c1_3] 58 (0, 0))) := ⟨by (with_reducible repeat (first | refine blk_drewN ?_ _ | refine blk_drew ?_ | refine blk_alloc ?_ _)); refine blk_far ?_ NB102_116.out _; (with_reducible repeat (first | refine blk_drewN ?_ _ | refine blk_drew ?_ | refine blk_alloc ?_ _)); refine blk_far ?_ NB102_116.out _; (with_reducible repeat (first | refine blk_drewN ?_ _ | refine blk_drew ?_ | refine blk_alloc ?_ _)); exact BK102.out⟩
  have n5_ : Aside0 (((w17.setCell ⟨gb116, 0, none⟩ (.bool t112)).setCell ⟨gb116, 1, none⟩ (.slice Ao19 t113.length co19)).heap[gb103]? = some (.cells #[.bool false, .slice none 0 0, .bool false, .slice none 0 0] 58 (0, 0))) := ⟨by (with_reducible repeat (first | refine blk_drewN ?_ _ | refine blk_drew ?_ | refine blk_alloc ?_ _)); refine blk_far ?_ NB103_116.out _; (with_reducible repeat (first | refine blk_drewN ?_ _ | refine blk_drew ?_ | refine blk_alloc ?_ _)); refine blk_far ?_ NB103_116.out _; (with_reducible repeat (first | refine blk_drewN ?_ _ | refine blk_drew ?_ | refine blk_alloc ?_ _)); exact BK103.out⟩
  have n6_ : Aside0 (((w17.setCell ⟨gb116, 0, none⟩ (.bool t112)).setCell ⟨gb116, 1, none⟩ (.slice Ao19 t113.length co19)).heap[gb116]? = some (.cells #[.bool t112, .slice Ao19 t113.length co19] 55 (0, 0))) := ⟨by (with_reducible repeat (first | refine blk_drewN ?_ _ | refine blk_drew ?_ | refine blk_alloc ?_ _)); refine blk_put (cs := #[.bool t112, .slice none 0 0]) ?_ 1 _ rfl; (with_reducible repeat (first | refine blk_drewN ?_ _ | refine blk_drew ?_ | refine blk_alloc ?_ _)); refine blk_put (cs := #[.bool false, .slice none 0 0]) ?_ 0 _ rfl; (with_reducible repeat (first | refine blk_drewN ?_ _ | refine blk_drew ?_ | refine blk_alloc ?_ _)); exact BK116.out⟩
  have n7_ : Aside0 (Below w.heap.size w ((w17.setCell ⟨gb116, 0, none⟩ (.bool t112)).setCell ⟨gb116, 1, none⟩ (.slice Ao19 t113.length co19))) := ⟨l_ HB⟩
  generalize ((w17.setCell ⟨gb116, 0, none⟩ (.bool t112)).setCell ⟨gb116, 1, none⟩ (.slice Ao19 t113.length co19)) = w21 at n0_ n1_ n2_ n3_ n4_ n5_ n6_ n7_ ⊢
  have HO107 := n0_
  have HO111 := n1_
  have HO115 := n2_
  have BK101 := n3_
  have BK102 := n4_
  have BK103 := n5_
  have BK116 := n6_
  have HB := n7_
  clear n0_ n1_ n2_ n3_ n4_ n5_ n6_ n7_
  replace HO107 := A_ (Kd.V_drew HO107.out)
  replace HO111 := A_ (Kd.V_drew HO111.out)
  replace HO115 := A_ (Kd.V_drew HO115.out)
  replace BK101 := A_ (blk_drew BK101.out)
  replace BK102 := A_ (blk_drew BK102.out)
  replace BK103 := A_ (blk_drew BK103.out)
  replace BK116 := A_ (blk_drew BK116.out)
  replace HB := A_ (below_drew1 HB.out)
  refine start_ (n := 8) (S := fun w' => w'.cell? ⟨gb116, 0, none⟩ = some (.bool t112) ∧ w'.cell? ⟨gb116, 1, none⟩ = some (.slice Ao19 t113.length co19) ∧ w'.cell? ⟨gb101, 0, none⟩ = some (.bool a0_0) ∧ w'.cell? ⟨gb101, 1, none⟩ = some (.slice A0_1 l0_1.length c0_1) ∧ w'.cell? ⟨gb101, 2, none⟩ = some (.bool a0_2) ∧ w'.cell? ⟨gb101, 3, none⟩ = some (.slice A0_3 l0_3.length c0_3) ∧ w'.cell? ⟨gb102, 0, none⟩ = some (.bool a1_0) ∧ w'.cell? ⟨gb102, 1, none⟩ = some (.slice A1_1 l1_1.length c1_1) ∧ w'.cell? ⟨gb102, 2, none⟩ = some (.bool a1_2) ∧ w'.cell? ⟨gb102, 3, none⟩ = some (.slice A1_3 l1_3.length c1_3)) (ds := []) (Array.replicate 8 false) (by kernel_rfl) rfl rfl ⟨(blk_cell BK116.out 0).trans rfl, (blk_cell BK116.out 1).trans rfl, (blk_cell BK101.out 0).trans rfl, (blk_cell BK101.out 1).trans rfl, (blk_cell BK101.out 2).trans rfl, (blk_cell BK101.out 3).trans rfl, (blk_cell BK102.out 0).trans rfl, (blk_cell BK102.out 1).trans rfl, (blk_cell BK102.out 2).trans rfl, (blk_cell BK102.out 3).trans rfl⟩ (fun hHeld => ?_); refine with_tabW cobwebref06_sum.tab2 cobwebref06_sum.bits2 (fun HT_ HW_ => ?_)
  generalize w21.drew = w22 at HO107 HO111 HO115 BK101 BK102 BK103 BK116 HB hHeld ⊢
  refine pureq_ 1 18 HT_ ?_
  refine pureq_ 3 20 HT_ ?_
  refine takeq_ 0 17 HT_ HW_ hHeld ?_
  refine takeq_ 2 19 HT_ HW_ hHeld ?_
  refine takeq_ 4 21 HT_ HW_ hHeld ?_
  refine oneq_ 5 (some 22) HT_ (fun K hK => ?_)
  refine goesq_ Try.func44 #[.agg #[.bool a0_2, .slice A0_3 l0_3.length c0_3], .agg #[.bool a1_2, .slice A1_3 l1_3.length c1_3]] ?_
  with_reducible refine (cobwebref01_Mul.calls k a0_2 _ _ l0_3 a1_2 _ _ l1_3 t117 t118 _ ?side1 ?side2 ?side3 ?side4 A6.out).mono ?_
  (case side1 => exact c_ (Kd.C_below HR0_3.out HB.out))
  (case side2 => exact HC0_3.out)
  (case side3 => exact c_ (Kd.C_below HR1_3.out HB.out))
  (case side4 => exact HC1_3.out)
  rintro e w23 ⟨v119, rfl, ho0, hb⟩
  refine ⟨_, rfl, ?_⟩
  replace HO107 := A_ (Kd.V_below (v_ HO107.out) hb)
  replace HO111 := A_ (Kd.V_below (v_ HO111.out) hb)
  replace HO115 := A_ (Kd.V_below (v_ HO115.out) hb)
  have HO120 := A_ (Kd.V_lower (Kd.V_mono (ok' := fun k_ => (w.heap.size ≤ k_) ∧ k_ ≠ gb101 ∧ k_ ≠ gb102 ∧ k_ ≠ gb103 ∧ k_ ≠ gb116) ho0 (fun k_ hk_ => ⟨(Nat.le_trans (below_size (l_ HB)) hk_), (Kd.freshB (b_ BK101) k_ hk_), (Kd.freshB (b_ BK102) k_ hk_), (Kd.freshB (b_ BK103) k_ hk_), (Kd.freshB (b_ BK116) k_ hk_)⟩)) (below_size (l_ HB)))
  replace BK101 := bb_ BK101 hb
  replace BK102 := bb_ BK102 hb
  replace BK103 := bb_ BK103 hb
  replace BK116 := bb_ BK116 hb
  replace HB := st_ HB hb
  try clear hb ho0
  obtain ⟨Ao24, co24, eo24⟩ := Kd.V_slice HO120.out
  (first | subst eo24 | (injection eo24 with f1_ f2_ f3_; have f4_ := f1_.symm; have f5_ := f3_.symm; clear f1_ f2_ f3_; subst f4_; subst f5_))
  refine hK.out _ _ ⟨(blk_cell BK116.out 0).trans rfl, (blk_cell BK116.out 1).trans rfl, (blk_cell BK101.out 0).trans rfl, (blk_cell BK101.out 1).trans rfl, (blk_cell BK101.out 2).trans rfl, (blk_cell BK101.out 3).trans rfl, (blk_cell BK102.out 0).trans rfl, (blk_cell BK102.out 1).trans rfl, (blk_cell BK102.out 2).trans rfl, (blk_cell BK102.out 3).trans rfl⟩ (fun hHeld => ?_)
  clear hK K
  refine normq_ 22 ?_
  refine pureq_ 6 23 HT_ ?_
  refine oneq_ 7 none HT_ (fun K hK => ?_)
  have hs25 : w23.cell? ⟨gb103, 0, none⟩ = some (.bool false) := (blk_cell BK103.out 0).trans rfl
  have hfs25 := blk_frozen BK103.out 0
  have hns25_0 := NB101_103.out
  have hns25_1 := NB102_103.out
  have hns25_3 := NB116_103.out
  have hms25_0 := NB103_101.out
  have hms25_1 := NB103_102.out
  have hms25_3 := NB103_116.out
  have hs26 : w23.cell? ⟨gb103, 1, none⟩ = some (.slice none 0 0) := (blk_cell BK103.out 1).trans rfl
  have hfs26 := blk_frozen BK103.out 1
  have hns26_0 := NB101_103.out
  have hns26_1 := NB102_103.out
  have hns26_3 := NB116_103.out
  have hms26_0 := NB103_101.out
  have hms26_1 := NB103_102.out
  have hms26_3 := NB103_116.out
  have hs27 : w23.cell? ⟨gb103, 2, none⟩ = some (.bool false) := (blk_cell BK103.out 2).trans rfl
  have hfs27 := blk_frozen BK103.out 2
  have hns27_0 := NB101_103.out
  have hns27_1 := NB102_103.out
  have hns27_3 := NB116_103.out
  have hms27_0 := NB103_101.out
  have hms27_1 := NB103_102.out
  have hms27_3 := NB103_116.out
  have hs28 : w23.cell? ⟨gb103, 3, none⟩ = some (.slice none 0 0) := (blk_cell BK103.out 3).trans rfl
  have hfs28 := blk_frozen BK103.out 3
  have hns28_0 := NB101_103.out
  have hns28_1 := NB102_103.out
  have hns28_3 := NB116_103.out
  have hms28_0 := NB103_101.out
  have hms28_1 := NB103_102.out
  have hms28_3 := NB103_116.out
  refine skip_ (w1 := ?_) (by rfl) rfl ?_ ?_
  rotate_left
  · go_simp
    rfl
  refine hK.out _ _ ⟨((cell_far (p := ⟨gb103, _, none⟩) NB116_103.out _).trans (((cell_far (p := ⟨gb103, _, none⟩) NB116_103.out _).trans (((cell_far (p := ⟨gb103, _, none⟩) NB116_103.out _).trans (((cell_far (p := ⟨gb103, _, none⟩) NB116_103.out _).trans (hHeld.1)))))))), ((cell_far (p := ⟨gb103, _, none⟩) NB116_103.out _).trans (((cell_far (p := ⟨gb103, _, none⟩) NB116_103.out _).trans (((cell_far (p := ⟨gb103, _, none⟩) NB116_103.out _).trans (((cell_far (p := ⟨gb103, _, none⟩) NB116_103.out _).trans (hHeld.2.1)))))))), ((cell_far (p := ⟨gb103, _, none⟩) NB101_103.out _).trans (((cell_far (p := ⟨gb103, _, none⟩) NB101_103.out _).trans (((cell_far (p := ⟨gb103, _, none⟩) NB101_103.out _).trans (((cell_far (p := ⟨gb103, _, none⟩) NB101_103.out _).trans (hHeld.2.2.1)))))))), ((cell_far (p := ⟨gb103, _, none⟩) NB101_103.out _).trans (((cell_far (p := ⟨gb103, _, none⟩) NB101_103.out _).trans (((cell_far (p := ⟨gb103, _, none⟩) NB101_103.out _).trans (((cell_far (p := ⟨gb103, _, none⟩) NB101_103.out _).trans (hHeld.2.2.2.1)))))))), ((cell_far (p := ⟨gb103, _, none⟩) NB101_103.out _).trans (((cell_far (p := ⟨gb103, _, none⟩) NB101_103.out _).trans (((cell_far (p := ⟨gb103, _, none⟩) NB101_103.out _).trans (((cell_far (p := ⟨gb103, _, none⟩) NB101_103.out _).trans (hHeld.2.2.2.2.1)))))))), ((cell_far (p := ⟨gb103, _, none⟩) NB101_103.out _).trans (((cell_far (p := ⟨gb103, _, none⟩) NB101_103.out _).trans (((cell_far (p := ⟨gb103, _, none⟩) NB101_103.out _).trans (((cell_far (p := ⟨gb103, _, none⟩) NB101_103.out _).trans (hHeld.2.2.2.2.2.1)))))))), ((cell_far (p := ⟨gb103, _, none⟩) NB102_103.out _).trans (((cell_far (p := ⟨gb103, _, none⟩) NB102_103.out _).trans (((cell_far (p := ⟨gb103, _, none⟩) NB102_103.out _).trans (((cell_far (p := ⟨gb103, _, none⟩) NB102_103.out _).trans (hHeld.2.2.2.2.2.2.1)))))))), ((cell_far (p := ⟨gb103, _, none⟩) NB102_103.out _).trans (((cell_far (p := ⟨gb103, _, none⟩) NB102_103.out _).trans (((cell_far (p := ⟨gb103, _, none⟩) NB102_103.out _).trans (((cell_far (p := ⟨gb103, _, none⟩) NB102_103.out _).trans (hHeld.2.2.2.2.2.2.2.1)))))))), ((cell_far (p := ⟨gb103, _, none⟩) NB102_103.out _).trans (((cell_far (p := ⟨gb103, _, none⟩) NB102_103.out _).trans (((cell_far (p := ⟨gb103, _, none⟩) NB102_103.out _).trans (((cell_far (p := ⟨gb103, _, none⟩) NB102_103.out _).trans (hHeld.2.2.2.2.2.2.2.2.1)))))))), ((cell_far (p := ⟨gb103, _, none⟩) NB102_103.out _).trans (((cell_far (p := ⟨gb103, _, none⟩) NB102_103.out _).trans (((cell_far (p := ⟨gb103, _, none⟩) NB102_103.out _).trans (((cell_far (p := ⟨gb103, _, none⟩) NB102_103.out _).trans (hHeld.2.2.2.2.2.2.2.2.2))))))))⟩ (fun hHeld => ?_)
  clear hK K
  refine done_ (done_of HT_.out (by kernel_rfl)) ?_
  try go_wp2
  refine bodyPost_ret (results_cell_row rfl _ _ gb103 58 #[.bool t112, .slice Ao19 t113.length co19, .bool t117, .slice Ao24 t118.length co24] (0, 0) _ rfl (by (with_reducible repeat (first | refine blk_drewN ?_ _ | refine blk_drew ?_ | refine blk_alloc ?_ _)); refine blk_put (cs := #[.bool t112, .slice Ao19 t113.length co19, .bool t117, .slice none 0 0]) ?_ 3 _ rfl; (with_reducible repeat (first | refine blk_drewN ?_ _ | refine blk_drew ?_ | refine blk_alloc ?_ _)); refine blk_put (cs := #[.bool t112, .slice Ao19 t113.length co19, .bool false, .slice none 0 0]) ?_ 2 _ rfl; (with_reducible repeat (first | refine blk_drewN ?_ _ | refine blk_drew ?_ | refine blk_alloc ?_ _)); refine blk_put (cs := #[.bool t112, .slice none 0 0, .bool false, .slice none 0 0]) ?_ 1 _ rfl; (with_reducible repeat (first | refine blk_drewN ?_ _ | refine blk_drew ?_ | refine blk_alloc ?_ _)); refine blk_put (cs := #[.bool false, .slice none 0 0, .bool false, .slice none 0 0]) ?_ 0 _ rfl; (with_reducible repeat (first | refine blk_drewN ?_ _ | refine blk_drew ?_ | refine blk_alloc ?_ _)); exact BK103.out) Try.underlying58 rfl (by kernel_rfl)) rfl ?_
  exact ⟨_, _, by first | rfl | (simp [errW_none, errW_some] <;> rfl) | (simp [*, errW_none, errW_some] <;> rfl), by (with_reducible repeat (first | apply Kd.V_alloc | apply Kd.V_drewN | apply Kd.V_drew)); exact Kd.V_mono (Kd.V_far (p := ⟨gb103, 3, none⟩) (Kd.V_far (p := ⟨gb103, 2, none⟩) (Kd.V_far (p := ⟨gb103, 1, none⟩) (Kd.V_far (p := ⟨gb103, 0, none⟩) (Kd.V_mono HO115.out (fun k_ hk => (⟨hk, hk.2.2.2.1⟩ : _ ∧ k_ ≠ gb103))) (fun _ hk => hk.2) (.bool t112)) (fun _ hk => hk.2) (.slice Ao19 t113.length co19)) (fun _ hk => hk.2) (.bool t117)) (fun _ hk => hk.2) (.slice Ao24 t118.length co24)) (fun _ hk => hk.1.1), by (with_reducible repeat (first | apply Kd.V_alloc | apply Kd.V_drewN | apply Kd.V_drew)); exact Kd.V_mono (Kd.V_far (p := ⟨gb103, 3, none⟩) (Kd.V_far (p := ⟨gb103, 2, none⟩) (Kd.V_far (p := ⟨gb103, 1, none⟩) (Kd.V_far (p := ⟨gb103, 0, none⟩) (Kd.V_mono HO120.out (fun k_ hk => (⟨hk, hk.2.2.2.1⟩ : _ ∧ k_ ≠ gb103))) (fun _ hk => hk.2) (.bool t112)) (fun _ hk => hk.2) (.slice Ao19 t113.length co19)) (fun _ hk => hk.2) (.bool t117)) (fun _ hk => hk.2) (.slice Ao24 t118.length co24)) (fun _ hk => hk.1.1), l_ HB⟩

end Go.Proofs.Ytglkjeeiiflpjaa.F
