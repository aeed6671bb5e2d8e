-- PRINTED by print.py (a twelfth state) out of the translation. Not trusted: Lean checks it.
import Derived.Test.YtglkjeeiiflpjaaF0
import Derived.Test.YtglkjeeiiflpjaaB3
import Derived.Test.YtglkjeeiiflpjaaF28
import Derived.Test.YtglkjeeiiflpjaaF30
import Derived.Test.YtglkjeeiiflpjaaF44
namespace Go.Proofs.Ytglkjeeiiflpjaa.F
open Go.RowKit Go.Proofs.YtglkjeeiiflpjaaW.PrintWords Go.Proofs.YtglkjeeiiflpjaaW.PrintLast Go.Proofs.YtglkjeeiiflpjaaW.PrintMore
attribute [local go_sem] max2_int min2_int max_two min_two max_three min_three max_four min_four   -- for this text's walks alone
set_option linter.unusedVariables false
set_option linter.unusedSimpArgs false

/-! ### cobwebref06_on: function 33 -/
def cobwebref06_on.f (k : Nat) (a0 : Int) (a1 : Int) (a2_0 : Bool) (l2_1 : List Int) (a2_2 : Bool) (l2_3 : List Int) : Option (Bool × List Int × Bool × List Int) := (cobwebref06_num.f k (wrap64 (2 * (wrap64 (a1 - a0))))).bind fun bt103 => ((cobwebref01_Mul.f k a2_0 l2_1 bt103.1 bt103.2).bind fun bt107 => ((cobwebref06_num.f k (wrap64 (2 * a0))).bind fun bt112 => ((cobwebref06_num.f k 1).bind fun bt116 => ((cobwebref06_sum.f k bt112.1 bt112.2 bt116.1 bt116.2 bt107.1 bt107.2 a2_2 l2_3).bind fun bt120 => (some (bt120.1, bt120.2.1, bt120.2.2.1, bt120.2.2.2))))))
theorem cobwebref06_on.mono : ∀ a0 a1 a2 a3 a4 a5 k, LeO (cobwebref06_on.f k a0 a1 a2 a3 a4 a5) (cobwebref06_on.f (k + 1) a0 a1 a2 a3 a4 a5) := by
  intro a0 a1 a2 a3 a4 a5 k
  unfold cobwebref06_on.f
  repeat' first
      | (with_reducible exact cobwebref01_Mul.mono _ _ _ _ _)
      | (with_reducible exact cobwebref06_num.mono _ _)
      | (with_reducible exact cobwebref06_sum.mono _ _ _ _ _ _ _ _ _)
      | (with_reducible exact LeO.refl _)
      | (with_reducible exact LeO.none _)
      | (with_reducible refine LeO.ite ?_ ?_)
      | (with_reducible refine LeO.bind ?_ (fun _ => ?_))
      | exact cobwebref01_Mul.mono _ _ _ _ _
      | exact cobwebref06_num.mono _ _
      | exact cobwebref06_sum.mono _ _ _ _ _ _ _ _ _
      | exact LeO.none _
      | refine LeO.ite ?_ ?_
      | refine LeO.bind ?_ (fun _ => ?_)
def cobwebref06_on.T1 : Bool × List (List Nat × List Nat) := (true, [([], []), ([0], [0]), ([], []), ([], []), ([2, 3], [2, 3]), ([4], [4]), ([5], [5]), ([1, 6, 6], [1, 6]), ([], []), ([8], [8]), ([7, 9], [7, 9]), ([], []), ([11, 10, 7, 0, 1, 2, 3, 4, 5, 6, 7, 8, 9, 10, 11], [10, 11])])
def cobwebref06_on.B1 : List Nat := [0, 1, 0, 0, 12, 28, 60, 127, 0, 256, 1023, 0, 4095]
theorem cobwebref06_on.tab1 : rtab .any (opsOf Try.f33 1) = cobwebref06_on.T1 := by kernel_rfl
theorem cobwebref06_on.bits1 : waitsOk cobwebref06_on.T1.2 cobwebref06_on.B1 = true := by kernel_rfl
def cobwebref06_on.T2 : Bool × List (List Nat × List Nat) := (true, [([], []), ([0], [0]), ([1], [1]), ([2], []), ([2, 3], [2, 3]), ([], []), ([4, 5, 3], [4, 5]), ([6, 6, 0, 1, 2, 3, 4, 5, 6], [6])])
def cobwebref06_on.B2 : List Nat := [0, 1, 3, 7, 15, 0, 63, 127]
theorem cobwebref06_on.tab2 : rtab .any (opsOf Try.f33 2) = cobwebref06_on.T2 := by kernel_rfl
theorem cobwebref06_on.bits2 : waitsOk cobwebref06_on.T2.2 cobwebref06_on.B2 = true := by kernel_rfl
set_option maxHeartbeats 8000000 in
set_option maxRecDepth 100000 in
theorem cobwebref06_on.calls (k : Nat) (a0 : Int) (a1 : Int) (a2_0 : Bool) (A2_1 : Option Addr) (c2_1 : Nat) (l2_1 : List Int) (a2_2 : Bool) (A2_3 : Option Addr) (c2_3 : Nat) (l2_3 : List Int) (r1 : Bool) (r2 : List Int) (r3 : Bool) (r4 : List Int) (w : World) (hr2_1 : Kd.C (Kd.int .i64) w A2_1 l2_1.length l2_1) (hc2_1 : l2_1.length ≤ c2_1) (hr2_3 : Kd.C (Kd.int .i64) w A2_3 l2_3.length l2_3) (hc2_3 : l2_3.length ≤ c2_3) (h : cobwebref06_on.f k a0 a1 a2_0 l2_1 a2_2 l2_3 = some (r1, r2, r3, r4)) :
    Calls Try.prog 33 #[.int .i64 a0, .int .i64 a1, .agg #[.bool a2_0, .slice A2_1 l2_1.length c2_1, .bool a2_2, .slice A2_3 l2_3.length c2_3]] w fun e w' => ∃ v1_ v3_ : Value, e = .returned (.agg #[.bool r1, v1_, .bool r3, v3_]) ∧ Kd.V (Kd.int .i64) 3 w' w.heap.size (fun k_ => (w.heap.size ≤ k_)) v1_ r2 ∧ Kd.V (Kd.int .i64) 3 w' w.heap.size (fun k_ => (w.heap.size ≤ k_)) v3_ r4 ∧ Below w.heap.size w w' := by
  have hu58 := Try.underlying58
  have hu55 := Try.underlying55
  have HR2_1 := A_ hr2_1
  have HC2_1 := A_ hc2_1
  clear hr2_1 hc2_1
  have HR2_3 := A_ hr2_3
  have HC2_3 := A_ hc2_3
  clear hr2_3 hc2_3
  have HB := A_ (Below.refl w.heap.size w)
  have H : ((cobwebref06_num.f k (wrap64 (2 * (wrap64 (a1 - a0))))).bind fun bt103 => ((cobwebref01_Mul.f k a2_0 l2_1 bt103.1 bt103.2).bind fun bt107 => ((cobwebref06_num.f k (wrap64 (2 * a0))).bind fun bt112 => ((cobwebref06_num.f k 1).bind fun bt116 => ((cobwebref06_sum.f k bt112.1 bt112.2 bt116.1 bt116.2 bt107.1 bt107.2 a2_2 l2_3).bind fun bt120 => (some (bt120.1, bt120.2.1, bt120.2.2.1, bt120.2.2.2))))))) = some (r1, r2, r3, r4) := h
  clear h
  replace H := Option.bind_eq_some_iff.mp H
  obtain ⟨⟨t103, t104⟩, A40, H⟩ := H
  replace H : ((cobwebref01_Mul.f k a2_0 l2_1 t103 t104).bind fun bt107 => ((cobwebref06_num.f k (wrap64 (2 * a0))).bind fun bt112 => ((cobwebref06_num.f k 1).bind fun bt116 => ((cobwebref06_sum.f k bt112.1 bt112.2 bt116.1 bt116.2 bt107.1 bt107.2 a2_2 l2_3).bind fun bt120 => (some (bt120.1, bt120.2.1, bt120.2.2.1, bt120.2.2.2)))))) = some (r1, r2, r3, r4) := H
  have A4 := A_ A40
  clear A40
  replace H := Option.bind_eq_some_iff.mp H
  obtain ⟨⟨t107, t108⟩, A50, H⟩ := H
  replace H : ((cobwebref06_num.f k (wrap64 (2 * a0))).bind fun bt112 => ((cobwebref06_num.f k 1).bind fun bt116 => ((cobwebref06_sum.f k bt112.1 bt112.2 bt116.1 bt116.2 t107 t108 a2_2 l2_3).bind fun bt120 => (some (bt120.1, bt120.2.1, bt120.2.2.1, bt120.2.2.2))))) = some (r1, r2, r3, r4) := H
  have A5 := A_ A50
  clear A50
  replace H := Option.bind_eq_some_iff.mp H
  obtain ⟨⟨t112, t113⟩, A60, H⟩ := H
  replace H : ((cobwebref06_num.f k 1).bind fun bt116 => ((cobwebref06_sum.f k t112 t113 bt116.1 bt116.2 t107 t108 a2_2 l2_3).bind fun bt120 => (some (bt120.1, bt120.2.1, bt120.2.2.1, bt120.2.2.2)))) = some (r1, r2, r3, r4) := H
  have A6 := A_ A60
  clear A60
  replace H := Option.bind_eq_some_iff.mp H
  obtain ⟨⟨t116, t117⟩, A70, H⟩ := H
  replace H : ((cobwebref06_sum.f k t112 t113 t116 t117 t107 t108 a2_2 l2_3).bind fun bt120 => (some (bt120.1, bt120.2.1, bt120.2.2.1, bt120.2.2.2))) = some (r1, r2, r3, r4) := H
  have A7 := A_ A70
  clear A70
  replace H := Option.bind_eq_some_iff.mp H
  obtain ⟨⟨t120, t121, t124, t125⟩, A80, H⟩ := H
  replace H : (some (t120, t121, t124, t125)) = some (r1, r2, r3, r4) := H
  have A8 := A_ A80
  clear A80
  simp only [Option.some.injEq, Prod.mk.injEq] at H
  obtain ⟨rfl, rfl, rfl, rfl⟩ := H
  go_enter Try.func33, Try.ntmps33
  try go_wp2_with (first | ((with_reducible refine gate_dst (N := 5) rfl ?_); refine boxeq_ 5 #[.bool a2_0, .slice A2_1 l2_1.length c2_1, .bool a2_2, .slice A2_3 l2_3.length c2_3] 58 ?_; intro gb101 hg w9 hbox hb; have BK101 := A_ (hbox); have GW101 := ge_ HB hg; replace HB := st_ HB hb; have GE101 := GW101; clear hb hbox hg) | ((with_reducible refine gate_dst (N := 6) rfl ?_); refine boxeq_ 6 #[.bool false, .slice none 0 0, .bool false, .slice none 0 0] 58 ?_; intro gb102 hg w10 hbox hb; have BK102 := A_ (hbox); have GW102 := ge_ HB hg; replace HB := st_ HB hb; have GE102 := GW102; have NB101_102 := ne_ BK101 hg; replace BK101 := bb_ BK101 hb; have NB102_101 := A_ NB101_102.out.symm; clear hb hbox hg))
  replace BK101 := A_ (blk_drew BK101.out)
  replace BK102 := A_ (blk_drew BK102.out)
  replace HB := A_ (below_drew1 HB.out)
  refine start_ (n := 13) (S := fun w' => w'.cell? ⟨gb101, 0, none⟩ = some (.bool a2_0) ∧ w'.cell? ⟨gb101, 1, none⟩ = some (.slice A2_1 l2_1.length c2_1) ∧ w'.cell? ⟨gb101, 2, none⟩ = some (.bool a2_2) ∧ w'.cell? ⟨gb101, 3, none⟩ = some (.slice A2_3 l2_3.length c2_3)) (ds := []) (Array.replicate 13 false) (by kernel_rfl) rfl rfl ⟨(blk_cell BK101.out 0).trans rfl, (blk_cell BK101.out 1).trans rfl, (blk_cell BK101.out 2).trans rfl, (blk_cell BK101.out 3).trans rfl⟩ (fun hHeld => ?_); refine with_tabW cobwebref06_on.tab1 cobwebref06_on.bits1 (fun HT_ HW_ => ?_)
  generalize w10.drew = w11 at BK101 BK102 HB hHeld ⊢
  refine pureq_ 0 8 HT_ ?_
  refine pureq_ 2 10 HT_ ?_
  refine pureq_ 3 11 HT_ ?_
  refine pureq_ 4 12 HT_ ?_
  refine pureq_ 5 13 HT_ ?_
  refine pureq_ 8 16 HT_ ?_
  refine takeq_ 1 9 HT_ HW_ hHeld ?_
  refine takeq_ 9 17 HT_ HW_ hHeld ?_
  refine join_ (σ := Value × Value × Nat) 1 (bb 13 4095) (fun s_ => [(14, .agg #[.bool t103, s_.1]), (15, .agg #[.bool t107, s_.2.1]), (7, .pointer (some ⟨s_.2.2, 0, none⟩)), (18, .agg #[.bool t107, s_.2.1, .bool a2_2, .slice A2_3 l2_3.length c2_3])]) (fun s_ w' => (w'.cell? ⟨gb101, 0, none⟩ = some (.bool a2_0) ∧ w'.cell? ⟨gb101, 1, none⟩ = some (.slice A2_1 l2_1.length c2_1) ∧ w'.cell? ⟨gb101, 2, none⟩ = some (.bool a2_2) ∧ w'.cell? ⟨gb101, 3, none⟩ = some (.slice A2_3 l2_3.length c2_3)) ∧ (Kd.R (Kd.int .i64) 3 w' w.heap.size (fun k_ => (w.heap.size ≤ k_)) s_.1 t104) ∧ (Kd.V (Kd.int .i64) 3 w' w.heap.size (fun k_ => (w.heap.size ≤ k_) ∧ some k_ ≠ (s_.1 : Value).ownBlock ∧ k_ ≠ gb101 ∧ k_ ≠ gb102 ∧ k_ ≠ s_.2.2) s_.2.1 t108) ∧ (w'.heap[gb101]? = some (.cells #[.bool a2_0, .slice A2_1 l2_1.length c2_1, .bool a2_2, .slice A2_3 l2_3.length c2_3] 58 (0, 0))) ∧ (w'.heap[gb102]? = some (.cells #[.bool false, .slice none 0 0, .bool false, .slice none 0 0] 58 (0, 0))) ∧ (w'.heap[s_.2.2]? = some (.cells #[.bool false, .slice none 0 0, .bool false, .slice none 0 0] 58 (0, 0))) ∧ (w.heap.size ≤ s_.2.2) ∧ (w.heap.size ≤ s_.2.2) ∧ (gb101 ≠ s_.2.2) ∧ (s_.2.2 ≠ gb101) ∧ (gb102 ≠ s_.2.2) ∧ (s_.2.2 ≠ gb102) ∧ (Below w.heap.size w w')) ?_ ?_
  rotate_left
  · intro hCont
    refine twoq_ 6 11 (some 14) (some 7) HT_ (fun K hK => ?_) (fun K hK => ?_)
    · skip
      refine goesq_ Try.func28 #[.int .i64 (wrap64 (2 * (wrap64 (a1 - a0))))] ?_
      with_reducible refine (cobwebref06_num.calls k (wrap64 (2 * (wrap64 (a1 - a0)))) t103 t104 _ A4.out).mono ?_
      rintro e w12 ⟨v105, rfl, ho0, hb⟩
      refine ⟨_, rfl, ?_⟩
      have HO106 := A_ (Kd.R_lower (Kd.R_newM (M := fun k_ => (w.heap.size ≤ k_)) ho0 (below_size (l_ HB)) (fun k_ h_ => h_)) (below_size (l_ HB)))
      replace BK101 := bb_ BK101 hb
      replace BK102 := bb_ BK102 hb
      replace HB := st_ HB hb
      try clear hb ho0
      obtain ⟨Ao13, co13, eo13⟩ := Kd.R_slice HO106.out
      (first | subst eo13 | (injection eo13 with f1_ f2_ f3_; have f4_ := f1_.symm; have f5_ := f3_.symm; clear f1_ f2_ f3_; subst f4_; subst f5_))
      refine hK.out _ _ ⟨(blk_cell BK101.out 0).trans rfl, (blk_cell BK101.out 1).trans rfl, (blk_cell BK101.out 2).trans rfl, (blk_cell BK101.out 3).trans rfl⟩ (fun hHeld => ?_)
      clear hK K
      refine normq_ 14 ?_
      refine twoq_ 7 11 (some 15) (some 7) HT_ (fun K hK => ?_) (fun K hK => ?_)
      · skip
        refine goesq_ Try.func44 #[.agg #[.bool a2_0, .slice A2_1 l2_1.length c2_1], .agg #[.bool t103, .slice Ao13 t104.length co13]] ?_
        with_reducible refine (cobwebref01_Mul.calls k a2_0 _ _ l2_1 t103 _ _ t104 t107 t108 _ ?side1 ?side2 ?side3 ?side4 A5.out).mono ?_
        (case side1 => exact c_ (Kd.C_below HR2_1.out HB.out))
        (case side2 => exact HC2_1.out)
        (case side3 => exact c_ (Kd.R_reads' HO106.out).2.2)
        (case side4 => exact (Kd.R_reads' HO106.out).2.1)
        rintro e w14 ⟨v109, rfl, ho0, hb⟩
        refine ⟨_, rfl, ?_⟩
        have HO110 := A_ (Kd.V_lower (Kd.V_mono (ok' := fun k_ => (w.heap.size ≤ k_) ∧ some k_ ≠ (.slice Ao13 t104.length co13 : Value).ownBlock ∧ k_ ≠ gb101 ∧ k_ ≠ gb102) ho0 (fun k_ hk_ => ⟨(Nat.le_trans (below_size (l_ HB)) hk_), (Kd.fresh' (Kd.R_lt (r_ HO106.out)) k_ hk_), (Kd.freshB (b_ BK101) k_ hk_), (Kd.freshB (b_ BK102) k_ hk_)⟩)) (below_size (l_ HB)))
        replace HO106 := A_ (Kd.R_below (r_ HO106.out) hb)
        replace BK101 := bb_ BK101 hb
        replace BK102 := bb_ BK102 hb
        replace HB := st_ HB hb
        try clear hb ho0
        obtain ⟨Ao15, co15, eo15⟩ := Kd.V_slice HO110.out
        (first | subst eo15 | (injection eo15 with f1_ f2_ f3_; have f4_ := f1_.symm; have f5_ := f3_.symm; clear f1_ f2_ f3_; subst f4_; subst f5_))
        refine hK.out _ _ ⟨(blk_cell BK101.out 0).trans rfl, (blk_cell BK101.out 1).trans rfl, (blk_cell BK101.out 2).trans rfl, (blk_cell BK101.out 3).trans rfl⟩ (fun hHeld => ?_)
        clear hK K
        refine normq_ 15 ?_
        refine pureq_ 10 18 HT_ ?_
        refine oneq_ 11 (some 7) HT_ (fun K hK => ?_)
        refine boxsq_ 7 #[.bool false, .slice none 0 0, .bool false, .slice none 0 0] 58 ?_
        intro gb111 hg w16 hbox hb
        replace HO106 := A_ (Kd.R_below (r_ HO106.out) hb)
        replace HO110 := A_ (Kd.V_below (Kd.V_elderB (v_ HO110.out) gb111 (Nat.le_of_eq hg.symm)) hb)
        have BK111 := A_ (hbox)
        have GW111 := ge_ HB hg
        replace HB := st_ HB hb
        have GE111 := GW111
        have NB101_111 := ne_ BK101 hg
        replace BK101 := bb_ BK101 hb
        have NB111_101 := A_ NB101_111.out.symm
        have NB102_111 := ne_ BK102 hg
        replace BK102 := bb_ BK102 hb
        have NB111_102 := A_ NB102_111.out.symm
        clear hb hbox hg
        refine hK.out _ _ ⟨(blk_cell BK101.out 0).trans rfl, (blk_cell BK101.out 1).trans rfl, (blk_cell BK101.out 2).trans rfl, (blk_cell BK101.out 3).trans rfl⟩ (fun hHeld => ?_)
        clear hK K
        refine normq_ 7 ?_
        exact normp_ (hCont (.slice Ao13 t104.length co13, .slice Ao15 t108.length co15, gb111) _ ⟨hHeld, (Kd.R_mono (r_ HO106.out) (fun _ hk => hk.1)), (Kd.V_mono (v_ HO110.out) (fun _ hk => ⟨hk.1.1, ⟨hk.1.2.1, ⟨hk.1.2.2.1, ⟨hk.1.2.2.2, hk.2⟩⟩⟩⟩)), (b_ BK101), (b_ BK102), (b_ BK111), GW111.out, GE111.out, NB101_111.out, NB111_101.out, NB102_111.out, NB111_102.out, (l_ HB)⟩)
      · skip
        refine boxsq_ 7 #[.bool false, .slice none 0 0, .bool false, .slice none 0 0] 58 ?_
        intro gb111 hg w13 hbox hb
        replace HO106 := A_ (Kd.R_below (r_ HO106.out) hb)
        have BK111 := A_ (hbox)
        have GW111 := ge_ HB hg
        replace HB := st_ HB hb
        have GE111 := GW111
        have NB101_111 := ne_ BK101 hg
        replace BK101 := bb_ BK101 hb
        have NB111_101 := A_ NB101_111.out.symm
        have NB102_111 := ne_ BK102 hg
        replace BK102 := bb_ BK102 hb
        have NB111_102 := A_ NB102_111.out.symm
        clear hb hbox hg
        obtain ⟨Ao14, co14, eo14⟩ := Kd.R_slice HO106.out
        (first | subst eo14 | (injection eo14 with f1_ f2_ f3_; have f4_ := f1_.symm; have f5_ := f3_.symm; clear f1_ f2_ f3_; subst f4_; subst f5_))
        refine hK.out _ _ ⟨(blk_cell BK101.out 0).trans rfl, (blk_cell BK101.out 1).trans rfl, (blk_cell BK101.out 2).trans rfl, (blk_cell BK101.out 3).trans rfl⟩ (fun hHeld => ?_)
        clear hK K
        refine normq_ 7 ?_
        refine oneq_ 7 (some 15) HT_ (fun K hK => ?_)
        refine goesq_ Try.func44 #[.agg #[.bool a2_0, .slice A2_1 l2_1.length c2_1], .agg #[.bool t103, .slice Ao14 t104.length co14]] ?_
        with_reducible refine (cobwebref01_Mul.calls k a2_0 _ _ l2_1 t103 _ _ t104 t107 t108 _ ?side1 ?side2 ?side3 ?side4 A5.out).mono ?_
        (case side1 => exact c_ (Kd.C_below HR2_1.out HB.out))
        (case side2 => exact HC2_1.out)
        (case side3 => exact c_ (Kd.R_reads' HO106.out).2.2)
        (case side4 => exact (Kd.R_reads' HO106.out).2.1)
        rintro e w15 ⟨v109, rfl, ho0, hb⟩
        refine ⟨_, rfl, ?_⟩
        have HO110 := A_ (Kd.V_lower (Kd.V_mono (ok' := fun k_ => (w.heap.size ≤ k_) ∧ some k_ ≠ (.slice Ao14 t104.length co14 : Value).ownBlock ∧ k_ ≠ gb101 ∧ k_ ≠ gb102 ∧ k_ ≠ gb111) ho0 (fun k_ hk_ => ⟨(Nat.le_trans (below_size (l_ HB)) hk_), (Kd.fresh' (Kd.R_lt (r_ HO106.out)) k_ hk_), (Kd.freshB (b_ BK101) k_ hk_), (Kd.freshB (b_ BK102) k_ hk_), (Kd.freshB (b_ BK111) k_ hk_)⟩)) (below_size (l_ HB)))
        replace HO106 := A_ (Kd.R_below (r_ HO106.out) hb)
        replace BK101 := bb_ BK101 hb
        replace BK102 := bb_ BK102 hb
        replace BK111 := bb_ BK111 hb
        replace HB := st_ HB hb
        try clear hb ho0
        obtain ⟨Ao16, co16, eo16⟩ := Kd.V_slice HO110.out
        (first | subst eo16 | (injection eo16 with f1_ f2_ f3_; have f4_ := f1_.symm; have f5_ := f3_.symm; clear f1_ f2_ f3_; subst f4_; subst f5_))
        refine hK.out _ _ ⟨(blk_cell BK101.out 0).trans rfl, (blk_cell BK101.out 1).trans rfl, (blk_cell BK101.out 2).trans rfl, (blk_cell BK101.out 3).trans rfl⟩ (fun hHeld => ?_)
        clear hK K
        refine normq_ 15 ?_
        refine pureq_ 10 18 HT_ ?_
        exact normp_ (hCont (.slice Ao14 t104.length co14, .slice Ao16 t108.length co16, gb111) _ ⟨hHeld, (Kd.R_mono (r_ HO106.out) (fun _ hk => hk.1)), (v_ HO110.out), (b_ BK101), (b_ BK102), (b_ BK111), GW111.out, GE111.out, NB101_111.out, NB111_101.out, NB102_111.out, NB111_102.out, (l_ HB)⟩)
    · skip
      refine boxsq_ 7 #[.bool false, .slice none 0 0, .bool false, .slice none 0 0] 58 ?_
      intro gb111 hg w12 hbox hb
      have BK111 := A_ (hbox)
      have GW111 := ge_ HB hg
      replace HB := st_ HB hb
      have GE111 := GW111
      have NB101_111 := ne_ BK101 hg
      replace BK101 := bb_ BK101 hb
      have NB111_101 := A_ NB101_111.out.symm
      have NB102_111 := ne_ BK102 hg
      replace BK102 := bb_ BK102 hb
      have NB111_102 := A_ NB102_111.out.symm
      clear hb hbox hg
      refine hK.out _ _ ⟨(blk_cell BK101.out 0).trans rfl, (blk_cell BK101.out 1).trans rfl, (blk_cell BK101.out 2).trans rfl, (blk_cell BK101.out 3).trans rfl⟩ (fun hHeld => ?_)
      clear hK K
      refine normq_ 7 ?_
      refine oneq_ 6 (some 14) HT_ (fun K hK => ?_)
      refine goesq_ Try.func28 #[.int .i64 (wrap64 (2 * (wrap64 (a1 - a0))))] ?_
      with_reducible refine (cobwebref06_num.calls k (wrap64 (2 * (wrap64 (a1 - a0)))) t103 t104 _ A4.out).mono ?_
      rintro e w13 ⟨v105, rfl, ho0, hb⟩
      refine ⟨_, rfl, ?_⟩
      have HO106 := A_ (Kd.R_lower (Kd.R_newM (M := fun k_ => (w.heap.size ≤ k_)) ho0 (below_size (l_ HB)) (fun k_ h_ => h_)) (below_size (l_ HB)))
      replace BK101 := bb_ BK101 hb
      replace BK102 := bb_ BK102 hb
      replace BK111 := bb_ BK111 hb
      replace HB := st_ HB hb
      try clear hb ho0
      obtain ⟨Ao14, co14, eo14⟩ := Kd.R_slice HO106.out
      (first | subst eo14 | (injection eo14 with f1_ f2_ f3_; have f4_ := f1_.symm; have f5_ := f3_.symm; clear f1_ f2_ f3_; subst f4_; subst f5_))
      refine hK.out _ _ ⟨(blk_cell BK101.out 0).trans rfl, (blk_cell BK101.out 1).trans rfl, (blk_cell BK101.out 2).trans rfl, (blk_cell BK101.out 3).trans rfl⟩ (fun hHeld => ?_)
      clear hK K
      refine normq_ 14 ?_
      refine oneq_ 7 (some 15) HT_ (fun K hK => ?_)
      refine goesq_ Try.func44 #[.agg #[.bool a2_0, .slice A2_1 l2_1.length c2_1], .agg #[.bool t103, .slice Ao14 t104.length co14]] ?_
      with_reducible refine (cobwebref01_Mul.calls k a2_0 _ _ l2_1 t103 _ _ t104 t107 t108 _ ?side1 ?side2 ?side3 ?side4 A5.out).mono ?_
      (case side1 => exact c_ (Kd.C_below HR2_1.out HB.out))
      (case side2 => exact HC2_1.out)
      (case side3 => exact c_ (Kd.R_reads' HO106.out).2.2)
      (case side4 => exact (Kd.R_reads' HO106.out).2.1)
      rintro e w15 ⟨v109, rfl, ho0, hb⟩
      refine ⟨_, rfl, ?_⟩
      have HO110 := A_ (Kd.V_lower (Kd.V_mono (ok' := fun k_ => (w.heap.size ≤ k_) ∧ some k_ ≠ (.slice Ao14 t104.length co14 : Value).ownBlock ∧ k_ ≠ gb101 ∧ k_ ≠ gb102 ∧ k_ ≠ gb111) ho0 (fun k_ hk_ => ⟨(Nat.le_trans (below_size (l_ HB)) hk_), (Kd.fresh' (Kd.R_lt (r_ HO106.out)) k_ hk_), (Kd.freshB (b_ BK101) k_ hk_), (Kd.freshB (b_ BK102) k_ hk_), (Kd.freshB (b_ BK111) k_ hk_)⟩)) (below_size (l_ HB)))
      replace HO106 := A_ (Kd.R_below (r_ HO106.out) hb)
      replace BK101 := bb_ BK101 hb
      replace BK102 := bb_ BK102 hb
      replace BK111 := bb_ BK111 hb
      replace HB := st_ HB hb
      try clear hb ho0
      obtain ⟨Ao16, co16, eo16⟩ := Kd.V_slice HO110.out
      (first | subst eo16 | (injection eo16 with f1_ f2_ f3_; have f4_ := f1_.symm; have f5_ := f3_.symm; clear f1_ f2_ f3_; subst f4_; subst f5_))
      refine hK.out _ _ ⟨(blk_cell BK101.out 0).trans rfl, (blk_cell BK101.out 1).trans rfl, (blk_cell BK101.out 2).trans rfl, (blk_cell BK101.out 3).trans rfl⟩ (fun hHeld => ?_)
      clear hK K
      refine normq_ 15 ?_
      refine pureq_ 10 18 HT_ ?_
      exact normp_ (hCont (.slice Ao14 t104.length co14, .slice Ao16 t108.length co16, gb111) _ ⟨hHeld, (Kd.R_mono (r_ HO106.out) (fun _ hk => hk.1)), (v_ HO110.out), (b_ BK101), (b_ BK102), (b_ BK111), GW111.out, GE111.out, NB101_111.out, NB111_101.out, NB102_111.out, NB111_102.out, (l_ HB)⟩)
  rintro ⟨v105, v109, gb111⟩ w17 ⟨hS_, h0_, h1_, h2_, h3_, h4_, h5_, h6_, h7_, h8_, h9_, h10_, h11_⟩
  have n0_ : Aside0 (Kd.R (Kd.int .i64) 3 w17 w.heap.size (fun k_ => (w.heap.size ≤ k_)) v105 t104) := ⟨h0_⟩
  have n1_ : Aside0 (Kd.V (Kd.int .i64) 3 w17 w.heap.size (fun k_ => (w.heap.size ≤ k_) ∧ some k_ ≠ (v105 : Value).ownBlock ∧ k_ ≠ gb101 ∧ k_ ≠ gb102 ∧ k_ ≠ gb111) v109 t108) := ⟨h1_⟩
  have n2_ : Aside0 (w17.heap[gb101]? = some (.cells #[.bool a2_0, .slice A2_1 l2_1.length c2_1, .bool a2_2, .slice A2_3 l2_3.length c2_3] 58 (0, 0))) := ⟨h2_⟩
  have n3_ : Aside0 (w17.heap[gb102]? = some (.cells #[.bool false, .slice none 0 0, .bool false, .slice none 0 0] 58 (0, 0))) := ⟨h3_⟩
  have n4_ : Aside0 (w17.heap[gb111]? = some (.cells #[.bool false, .slice none 0 0, .bool false, .slice none 0 0] 58 (0, 0))) := ⟨h4_⟩
  have n5_ : Aside0 (w.heap.size ≤ gb111) := ⟨h5_⟩
  have n6_ : Aside0 (w.heap.size ≤ gb111) := ⟨h6_⟩
  have n7_ : Aside0 (gb101 ≠ gb111) := ⟨h7_⟩
  have n8_ : Aside0 (gb111 ≠ gb101) := ⟨h8_⟩
  have n9_ : Aside0 (gb102 ≠ gb111) := ⟨h9_⟩
  have n10_ : Aside0 (gb111 ≠ gb102) := ⟨h10_⟩
  have n11_ : Aside0 (Below w.heap.size w w17) := ⟨h11_⟩
  clear BK101 BK102 HB h0_ h1_ h2_ h3_ h4_ h5_ h6_ h7_ h8_ h9_ h10_ h11_
  have HO106 := n0_
  have HO110 := n1_
  have BK101 := n2_
  have BK102 := n3_
  have BK111 := n4_
  have GW111 := n5_
  have GE111 := n6_
  have NB101_111 := n7_
  have NB111_101 := n8_
  have NB102_111 := n9_
  have NB111_102 := n10_
  have HB := n11_
  clear n0_ n1_ n2_ n3_ n4_ n5_ n6_ n7_ n8_ n9_ n10_ n11_
  have hHeld : w17.cell? ⟨gb101, 0, none⟩ = some (.bool a2_0) ∧ w17.cell? ⟨gb101, 1, none⟩ = some (.slice A2_1 l2_1.length c2_1) ∧ w17.cell? ⟨gb101, 2, none⟩ = some (.bool a2_2) ∧ w17.cell? ⟨gb101, 3, none⟩ = some (.slice A2_3 l2_3.length c2_3) := hS_
  obtain ⟨Ao18, co18, eo18⟩ := Kd.V_slice HO110.out
  (first | subst eo18 | (injection eo18 with f1_ f2_ f3_; have f4_ := f1_.symm; have f5_ := f3_.symm; clear f1_ f2_ f3_; subst f4_; subst f5_))
  refine norm_ (a' := ?_) ?_ ?_
  rotate_left
  · simp only [putAll, Act.put, List.setIfInBounds_toArray, List.set_cons_zero, List.set_cons_succ]
    rfl
  refine oneq_ 12 none HT_ (fun K hK => ?_)
  have hs19 : w17.cell? ⟨gb111, 0, none⟩ = some (.bool false) := (blk_cell BK111.out 0).trans rfl
  have hfs19 := blk_frozen BK111.out 0
  have hns19_0 := NB101_111.out
  have hns19_1 := NB102_111.out
  have hms19_0 := NB111_101.out
  have hms19_1 := NB111_102.out
  have hs20 : w17.cell? ⟨gb111, 1, none⟩ = some (.slice none 0 0) := (blk_cell BK111.out 1).trans rfl
  have hfs20 := blk_frozen BK111.out 1
  have hns20_0 := NB101_111.out
  have hns20_1 := NB102_111.out
  have hms20_0 := NB111_101.out
  have hms20_1 := NB111_102.out
  have hs21 : w17.cell? ⟨gb111, 2, none⟩ = some (.bool false) := (blk_cell BK111.out 2).trans rfl
  have hfs21 := blk_frozen BK111.out 2
  have hns21_0 := NB101_111.out
  have hns21_1 := NB102_111.out
  have hms21_0 := NB111_101.out
  have hms21_1 := NB111_102.out
  have hs22 : w17.cell? ⟨gb111, 3, none⟩ = some (.slice none 0 0) := (blk_cell BK111.out 3).trans rfl
  have hfs22 := blk_frozen BK111.out 3
  have hns22_0 := NB101_111.out
  have hns22_1 := NB102_111.out
  have hms22_0 := NB111_101.out
  have hms22_1 := NB111_102.out
  refine skip_ (w1 := ?_) (by rfl) rfl ?_ ?_
  rotate_left
  · go_simp
    rfl
  refine hK.out _ _ ⟨((cell_far (p := ⟨gb111, _, none⟩) NB101_111.out _).trans (((cell_far (p := ⟨gb111, _, none⟩) NB101_111.out _).trans (((cell_far (p := ⟨gb111, _, none⟩) NB101_111.out _).trans (((cell_far (p := ⟨gb111, _, none⟩) NB101_111.out _).trans (hHeld.1)))))))), ((cell_far (p := ⟨gb111, _, none⟩) NB101_111.out _).trans (((cell_far (p := ⟨gb111, _, none⟩) NB101_111.out _).trans (((cell_far (p := ⟨gb111, _, none⟩) NB101_111.out _).trans (((cell_far (p := ⟨gb111, _, none⟩) NB101_111.out _).trans (hHeld.2.1)))))))), ((cell_far (p := ⟨gb111, _, none⟩) NB101_111.out _).trans (((cell_far (p := ⟨gb111, _, none⟩) NB101_111.out _).trans (((cell_far (p := ⟨gb111, _, none⟩) NB101_111.out _).trans (((cell_far (p := ⟨gb111, _, none⟩) NB101_111.out _).trans (hHeld.2.2.1)))))))), ((cell_far (p := ⟨gb111, _, none⟩) NB101_111.out _).trans (((cell_far (p := ⟨gb111, _, none⟩) NB101_111.out _).trans (((cell_far (p := ⟨gb111, _, none⟩) NB101_111.out _).trans (((cell_far (p := ⟨gb111, _, none⟩) NB101_111.out _).trans (hHeld.2.2.2))))))))⟩ (fun hHeld => ?_)
  clear hK K
  refine done_ (done_of HT_.out (by kernel_rfl)) ?_
  try go_wp2
  have n0_ : Aside0 (Kd.R (Kd.int .i64) 3 ((((w17.setCell ⟨gb111, 0, none⟩ (.bool t107)).setCell ⟨gb111, 1, none⟩ (.slice Ao18 t108.length co18)).setCell ⟨gb111, 2, none⟩ (.bool a2_2)).setCell ⟨gb111, 3, none⟩ (.slice A2_3 l2_3.length c2_3)) w.heap.size (fun k_ => (w.heap.size ≤ k_)) v105 t104) := ⟨by (with_reducible repeat (first | apply Kd.R_alloc | apply Kd.R_drewN | apply Kd.R_drew)); exact Kd.R_mono (Kd.R_far (p := ⟨gb111, 3, none⟩) (Kd.R_far (p := ⟨gb111, 2, none⟩) (Kd.R_far (p := ⟨gb111, 1, none⟩) (Kd.R_far (p := ⟨gb111, 0, none⟩) (Kd.R_types HO106.out BK111.out (by decide)) (fun _ hk => hk.2) (.bool t107)) (fun _ hk => hk.2) (.slice Ao18 t108.length co18)) (fun _ hk => hk.2) (.bool a2_2)) (fun _ hk => hk.2) (.slice A2_3 l2_3.length c2_3)) (fun _ hk => hk.1)⟩
  have n1_ : Aside0 (Kd.V (Kd.int .i64) 3 ((((w17.setCell ⟨gb111, 0, none⟩ (.bool t107)).setCell ⟨gb111, 1, none⟩ (.slice Ao18 t108.length co18)).setCell ⟨gb111, 2, none⟩ (.bool a2_2)).setCell ⟨gb111, 3, none⟩ (.slice A2_3 l2_3.length c2_3)) w.heap.size (fun k_ => (w.heap.size ≤ k_) ∧ some k_ ≠ (v105 : Value).ownBlock ∧ k_ ≠ gb101 ∧ k_ ≠ gb102 ∧ k_ ≠ gb111) (.slice Ao18 t108.length co18) t108) := ⟨by (with_reducible repeat (first | apply Kd.V_alloc | apply Kd.V_drewN | apply Kd.V_drew)); exact Kd.V_mono (Kd.V_far (p := ⟨gb111, 3, none⟩) (Kd.V_far (p := ⟨gb111, 2, none⟩) (Kd.V_far (p := ⟨gb111, 1, none⟩) (Kd.V_far (p := ⟨gb111, 0, none⟩) (Kd.V_mono HO110.out (fun k_ hk => (⟨hk, hk.2.2.2.2⟩ : _ ∧ k_ ≠ gb111))) (fun _ hk => hk.2) (.bool t107)) (fun _ hk => hk.2) (.slice Ao18 t108.length co18)) (fun _ hk => hk.2) (.bool a2_2)) (fun _ hk => hk.2) (.slice A2_3 l2_3.length c2_3)) (fun _ hk => ⟨hk.1.1, ⟨hk.1.2.1, ⟨hk.1.2.2.1, ⟨hk.1.2.2.2.1, hk.1.2.2.2.2⟩⟩⟩⟩)⟩
  have n2_ : Aside0 (((((w17.setCell ⟨gb111, 0, none⟩ (.bool t107)).setCell ⟨gb111, 1, none⟩ (.slice Ao18 t108.length co18)).setCell ⟨gb111, 2, none⟩ (.bool a2_2)).setCell ⟨gb111, 3, none⟩ (.slice A2_3 l2_3.length c2_3)).heap[gb101]? = some (.cells #[.bool a2_0, .slice A2_1 l2_1.length c2_1, .bool a2_2, .slice A2_3 l2_3.length c2_3] 58 (0, 0))) := ⟨by (with_reducible repeat (first | refine blk_drewN ?_ _ | refine blk_drew ?_ | refine blk_alloc ?_ _)); refine blk_far ?_ NB101_111.out _; (with_reducible repeat (first | refine blk_drewN ?_ _ | refine blk_drew ?_ | refine blk_alloc ?_ _)); refine blk_far ?_ NB101_111.out _; (with_reducible repeat (first | refine blk_drewN ?_ _ | refine blk_drew ?_ | refine blk_alloc ?_ _)); refine blk_far ?_ NB101_111.out _; (with_reducible repeat (first | refine blk_drewN ?_ _ | refine blk_drew ?_ | refine blk_alloc ?_ _)); refine blk_far ?_ NB101_111.out _; (with_reducible repeat (first | refine blk_drewN ?_ _ | refine blk_drew ?_ | refine blk_alloc ?_ _)); exact BK101.out⟩
  have n3_ : Aside0 (((((w17.setCell ⟨gb111, 0, none⟩ (.bool t107)).setCell ⟨gb111, 1, none⟩ (.slice Ao18 t108.length co18)).setCell ⟨gb111, 2, none⟩ (.bool a2_2)).setCell ⟨gb111, 3, none⟩ (.slice A2_3 l2_3.length c2_3)).heap[gb102]? = some (.cells #[.bool false, .slice none 0 0, .bool false, .slice none 0 0] 58 (0, 0))) := ⟨by (with_reducible repeat (first | refine blk_drewN ?_ _ | refine blk_drew ?_ | refine blk_alloc ?_ _)); refine blk_far ?_ NB102_111.out _; (with_reducible repeat (first | refine blk_drewN ?_ _ | refine blk_drew ?_ | refine blk_alloc ?_ _)); refine blk_far ?_ NB102_111.out _; (with_reducible repeat (first | refine blk_drewN ?_ _ | refine blk_drew ?_ | refine blk_alloc ?_ _)); refine blk_far ?_ NB102_111.out _; (with_reducible repeat (first | refine blk_drewN ?_ _ | refine blk_drew ?_ | refine blk_alloc ?_ _)); refine blk_far ?_ NB102_111.out _; (with_reducible repeat (first | refine blk_drewN ?_ _ | refine blk_drew ?_ | refine blk_alloc ?_ _)); exact BK102.out⟩
  have n4_ : Aside0 (((((w17.setCell ⟨gb111, 0, none⟩ (.bool t107)).setCell ⟨gb111, 1, none⟩ (.slice Ao18 t108.length co18)).setCell ⟨gb111, 2, none⟩ (.bool a2_2)).setCell ⟨gb111, 3, none⟩ (.slice A2_3 l2_3.length c2_3)).heap[gb111]? = some (.cells #[.bool t107, .slice Ao18 t108.length co18, .bool a2_2, .slice A2_3 l2_3.length c2_3] 58 (0, 0))) := ⟨by (with_reducible repeat (first | refine blk_drewN ?_ _ | refine blk_drew ?_ | refine blk_alloc ?_ _)); refine blk_put (cs := #[.bool t107, .slice Ao18 t108.length co18, .bool a2_2, .slice none 0 0]) ?_ 3 _ rfl; (with_reducible repeat (first | refine blk_drewN ?_ _ | refine blk_drew ?_ | refine blk_alloc ?_ _)); refine blk_put (cs := #[.bool t107, .slice Ao18 t108.length co18, .bool false, .slice none 0 0]) ?_ 2 _ rfl; (with_reducible repeat (first | refine blk_drewN ?_ _ | refine blk_drew ?_ | refine blk_alloc ?_ _)); refine blk_put (cs := #[.bool t107, .slice none 0 0, .bool false, .slice none 0 0]) ?_ 1 _ rfl; (with_reducible repeat (first | refine blk_drewN ?_ _ | refine blk_drew ?_ | refine blk_alloc ?_ _)); refine blk_put (cs := #[.bool false, .slice none 0 0, .bool false, .slice none 0 0]) ?_ 0 _ rfl; (with_reducible repeat (first | refine blk_drewN ?_ _ | refine blk_drew ?_ | refine blk_alloc ?_ _)); exact BK111.out⟩
  have n5_ : Aside0 (Below w.heap.size w ((((w17.setCell ⟨gb111, 0, none⟩ (.bool t107)).setCell ⟨gb111, 1, none⟩ (.slice Ao18 t108.length co18)).setCell ⟨gb111, 2, none⟩ (.bool a2_2)).setCell ⟨gb111, 3, none⟩ (.slice A2_3 l2_3.length c2_3))) := ⟨l_ HB⟩
  generalize ((((w17.setCell ⟨gb111, 0, none⟩ (.bool t107)).setCell ⟨gb111, 1, none⟩ (.slice Ao18 t108.length co18)).setCell ⟨gb111, 2, none⟩ (.bool a2_2)).setCell ⟨gb111, 3, none⟩ (.slice A2_3 l2_3.length c2_3)) = w23 at n0_ n1_ n2_ n3_ n4_ n5_ ⊢
  have HO106 := n0_
  have HO110 := n1_
  have BK101 := n2_
  have BK102 := n3_
  have BK111 := n4_
  have HB := n5_
  clear n0_ n1_ n2_ n3_ n4_ n5_
  replace HO106 := A_ (Kd.R_drew HO106.out)
  replace HO110 := A_ (Kd.V_drew HO110.out)
  replace BK101 := A_ (blk_drew BK101.out)
  replace BK102 := A_ (blk_drew BK102.out)
  replace BK111 := A_ (blk_drew BK111.out)
  replace HB := A_ (below_drew1 HB.out)
  refine start_ (n := 8) (S := fun w' => w'.cell? ⟨gb111, 0, none⟩ = some (.bool t107) ∧ w'.cell? ⟨gb111, 1, none⟩ = some (.slice Ao18 t108.length co18) ∧ w'.cell? ⟨gb111, 2, none⟩ = some (.bool a2_2) ∧ w'.cell? ⟨gb111, 3, none⟩ = some (.slice A2_3 l2_3.length c2_3)) (ds := []) (Array.replicate 8 false) (by kernel_rfl) rfl rfl ⟨(blk_cell BK111.out 0).trans rfl, (blk_cell BK111.out 1).trans rfl, (blk_cell BK111.out 2).trans rfl, (blk_cell BK111.out 3).trans rfl⟩ (fun hHeld => ?_); refine with_tabW cobwebref06_on.tab2 cobwebref06_on.bits2 (fun HT_ HW_ => ?_)
  generalize w23.drew = w24 at HO106 HO110 BK101 BK102 BK111 HB hHeld ⊢
  refine pureq_ 0 19 HT_ ?_
  refine pureq_ 1 20 HT_ ?_
  refine takeq_ 5 24 HT_ HW_ hHeld ?_
  refine oneq_ 2 (some 21) HT_ (fun K hK => ?_)
  refine goesq_ Try.func28 #[.int .i64 (wrap64 (2 * a0))] ?_
  with_reducible refine (cobwebref06_num.calls k (wrap64 (2 * a0)) t112 t113 _ A6.out).mono ?_
  rintro e w25 ⟨v114, rfl, ho0, hb⟩
  refine ⟨_, rfl, ?_⟩
  replace HO110 := A_ (Kd.V_elder' (v_ HO110.out) (Kd.R_base ho0) hb)
  have HO115 := A_ (Kd.R_lower (Kd.R_new' (Kd.R_newM (M := fun k_ => (w.heap.size ≤ k_)) ho0 (below_size (l_ HB)) (fun k_ h_ => h_)) (Kd.R_lt (r_ HO106.out))) (below_size (l_ HB)))
  replace HO106 := A_ (Kd.R_elder' (r_ HO106.out) (Kd.R_base ho0) hb)
  replace BK101 := bb_ BK101 hb
  replace BK102 := bb_ BK102 hb
  replace BK111 := bb_ BK111 hb
  replace HB := st_ HB hb
  try clear hb ho0
  refine hK.out _ _ ⟨(blk_cell BK111.out 0).trans rfl, (blk_cell BK111.out 1).trans rfl, (blk_cell BK111.out 2).trans rfl, (blk_cell BK111.out 3).trans rfl⟩ (fun hHeld => ?_)
  clear hK K
  refine normq_ 21 ?_
  refine oneq_ 3 (some 22) HT_ (fun K hK => ?_)
  refine goesq_ Try.func28 #[.int .i64 1] ?_
  with_reducible refine (cobwebref06_num.calls k 1 t116 t117 _ A7.out).mono ?_
  rintro e w26 ⟨v118, rfl, ho0, hb⟩
  refine ⟨_, rfl, ?_⟩
  replace HO110 := A_ (Kd.V_elder' (v_ HO110.out) (Kd.R_base ho0) hb)
  have HO119 := A_ (Kd.R_lower (Kd.R_new' (Kd.R_new' (Kd.R_newM (M := fun k_ => (w.heap.size ≤ k_)) ho0 (below_size (l_ HB)) (fun k_ h_ => h_)) (Kd.R_lt (r_ HO106.out))) (Kd.R_lt (r_ HO115.out))) (below_size (l_ HB)))
  replace HO106 := A_ (Kd.R_elder' (r_ HO106.out) (Kd.R_base ho0) hb)
  replace HO115 := A_ (Kd.R_elder' (r_ HO115.out) (Kd.R_base ho0) hb)
  replace BK101 := bb_ BK101 hb
  replace BK102 := bb_ BK102 hb
  replace BK111 := bb_ BK111 hb
  replace HB := st_ HB hb
  try clear hb ho0
  obtain ⟨Ao27, co27, eo27⟩ := Kd.R_slice HO119.out
  (first | subst eo27 | (injection eo27 with f1_ f2_ f3_; have f4_ := f1_.symm; have f5_ := f3_.symm; clear f1_ f2_ f3_; subst f4_; subst f5_))
  obtain ⟨Ao28, co28, eo28⟩ := Kd.R_slice HO115.out
  (first | subst eo28 | (injection eo28 with f1_ f2_ f3_; have f4_ := f1_.symm; have f5_ := f3_.symm; clear f1_ f2_ f3_; subst f4_; subst f5_))
  refine hK.out _ _ ⟨(blk_cell BK111.out 0).trans rfl, (blk_cell BK111.out 1).trans rfl, (blk_cell BK111.out 2).trans rfl, (blk_cell BK111.out 3).trans rfl⟩ (fun hHeld => ?_)
  clear hK K
  refine normq_ 22 ?_
  refine pureq_ 4 23 HT_ ?_
  refine oneq_ 6 (some 25) HT_ (fun K hK => ?_)
  refine goesq_ Try.func30 #[.agg #[.bool t112, .slice Ao28 t113.length co28, .bool t116, .slice Ao27 t117.length co27], .agg #[.bool t107, .slice Ao18 t108.length co18, .bool a2_2, .slice A2_3 l2_3.length c2_3]] ?_
  with_reducible refine (cobwebref06_sum.calls k t112 _ _ t113 t116 _ _ t117 t107 _ _ t108 a2_2 _ _ l2_3 t120 t121 t124 t125 _ ?side1 ?side2 ?side3 ?side4 ?side5 ?side6 ?side7 ?side8 A8.out).mono ?_
  (case side1 => exact c_ (Kd.R_reads' HO115.out).2.2)
  (case side2 => exact (Kd.R_reads' HO115.out).2.1)
  (case side3 => exact c_ (Kd.R_reads' HO119.out).2.2)
  (case side4 => exact (Kd.R_reads' HO119.out).2.1)
  (case side5 => exact c_ (Kd.V_reads' HO110.out).2.2)
  (case side6 => exact (Kd.V_reads' HO110.out).2.1)
  (case side7 => exact c_ (Kd.C_below HR2_3.out HB.out))
  (case side8 => exact HC2_3.out)
  rintro e w29 ⟨v122, v126, rfl, ho0, ho1, hb⟩
  refine ⟨_, rfl, ?_⟩
  replace HO110 := A_ (Kd.V_below (v_ HO110.out) hb)
  have HO123 := A_ (Kd.V_lower (Kd.V_mono (ok' := fun k_ => (w.heap.size ≤ k_) ∧ some k_ ≠ (v105 : Value).ownBlock ∧ some k_ ≠ (.slice Ao28 t113.length co28 : Value).ownBlock ∧ some k_ ≠ (.slice Ao27 t117.length co27 : Value).ownBlock ∧ k_ ≠ gb101 ∧ k_ ≠ gb102 ∧ k_ ≠ gb111) ho0 (fun k_ hk_ => ⟨(Nat.le_trans (below_size (l_ HB)) hk_), (Kd.fresh' (Kd.R_lt (r_ HO106.out)) k_ hk_), (Kd.fresh' (Kd.R_lt (r_ HO115.out)) k_ hk_), (Kd.fresh' (Kd.R_lt (r_ HO119.out)) k_ hk_), (Kd.freshB (b_ BK101) k_ hk_), (Kd.freshB (b_ BK102) k_ hk_), (Kd.freshB (b_ BK111) k_ hk_)⟩)) (below_size (l_ HB)))
  have HO127 := A_ (Kd.V_lower (Kd.V_mono (ok' := fun k_ => (w.heap.size ≤ k_) ∧ some k_ ≠ (v105 : Value).ownBlock ∧ some k_ ≠ (.slice Ao28 t113.length co28 : Value).ownBlock ∧ some k_ ≠ (.slice Ao27 t117.length co27 : Value).ownBlock ∧ k_ ≠ gb101 ∧ k_ ≠ gb102 ∧ k_ ≠ gb111) ho1 (fun k_ hk_ => ⟨(Nat.le_trans (below_size (l_ HB)) hk_), (Kd.fresh' (Kd.R_lt (r_ HO106.out)) k_ hk_), (Kd.fresh' (Kd.R_lt (r_ HO115.out)) k_ hk_), (Kd.fresh' (Kd.R_lt (r_ HO119.out)) k_ hk_), (Kd.freshB (b_ BK101) k_ hk_), (Kd.freshB (b_ BK102) k_ hk_), (Kd.freshB (b_ BK111) k_ hk_)⟩)) (below_size (l_ HB)))
  replace HO106 := A_ (Kd.R_below (r_ HO106.out) hb)
  replace HO115 := A_ (Kd.R_below (r_ HO115.out) hb)
  replace HO119 := A_ (Kd.R_below (r_ HO119.out) hb)
  replace BK101 := bb_ BK101 hb
  replace BK102 := bb_ BK102 hb
  replace BK111 := bb_ BK111 hb
  replace HB := st_ HB hb
  try clear hb ho0 ho1
  obtain ⟨Ao31, co31, eo31⟩ := Kd.V_slice HO123.out
  (first | subst eo31 | (injection eo31 with f1_ f2_ f3_; have f4_ := f1_.symm; have f5_ := f3_.symm; clear f1_ f2_ f3_; subst f4_; subst f5_))
  obtain ⟨Ao34, co34, eo34⟩ := Kd.V_slice HO127.out
  (first | subst eo34 | (injection eo34 with f1_ f2_ f3_; have f4_ := f1_.symm; have f5_ := f3_.symm; clear f1_ f2_ f3_; subst f4_; subst f5_))
  refine hK.out _ _ ⟨(blk_cell BK111.out 0).trans rfl, (blk_cell BK111.out 1).trans rfl, (blk_cell BK111.out 2).trans rfl, (blk_cell BK111.out 3).trans rfl⟩ (fun hHeld => ?_)
  clear hK K
  refine normq_ 25 ?_
  refine oneq_ 7 none HT_ (fun K hK => ?_)
  have hs30 : w29.cell? ⟨gb102, 0, none⟩ = some (.bool false) := (blk_cell BK102.out 0).trans rfl
  have hfs30 := blk_frozen BK102.out 0
  have hns30_0 := NB101_102.out
  have hns30_2 := NB111_102.out
  have hms30_0 := NB102_101.out
  have hms30_2 := NB102_111.out
  have hs32 : w29.cell? ⟨gb102, 1, none⟩ = some (.slice none 0 0) := (blk_cell BK102.out 1).trans rfl
  have hfs32 := blk_frozen BK102.out 1
  have hns32_0 := NB101_102.out
  have hns32_2 := NB111_102.out
  have hms32_0 := NB102_101.out
  have hms32_2 := NB102_111.out
  have hs33 : w29.cell? ⟨gb102, 2, none⟩ = some (.bool false) := (blk_cell BK102.out 2).trans rfl
  have hfs33 := blk_frozen BK102.out 2
  have hns33_0 := NB101_102.out
  have hns33_2 := NB111_102.out
  have hms33_0 := NB102_101.out
  have hms33_2 := NB102_111.out
  have hs35 : w29.cell? ⟨gb102, 3, none⟩ = some (.slice none 0 0) := (blk_cell BK102.out 3).trans rfl
  have hfs35 := blk_frozen BK102.out 3
  have hns35_0 := NB101_102.out
  have hns35_2 := NB111_102.out
  have hms35_0 := NB102_101.out
  have hms35_2 := NB102_111.out
  refine skip_ (w1 := ?_) (by rfl) rfl ?_ ?_
  rotate_left
  · go_simp
    rfl
  refine hK.out _ _ ⟨((cell_far (p := ⟨gb102, _, none⟩) NB111_102.out _).trans (((cell_far (p := ⟨gb102, _, none⟩) NB111_102.out _).trans (((cell_far (p := ⟨gb102, _, none⟩) NB111_102.out _).trans (((cell_far (p := ⟨gb102, _, none⟩) NB111_102.out _).trans (hHeld.1)))))))), ((cell_far (p := ⟨gb102, _, none⟩) NB111_102.out _).trans (((cell_far (p := ⟨gb102, _, none⟩) NB111_102.out _).trans (((cell_far (p := ⟨gb102, _, none⟩) NB111_102.out _).trans (((cell_far (p := ⟨gb102, _, none⟩) NB111_102.out _).trans (hHeld.2.1)))))))), ((cell_far (p := ⟨gb102, _, none⟩) NB111_102.out _).trans (((cell_far (p := ⟨gb102, _, none⟩) NB111_102.out _).trans (((cell_far (p := ⟨gb102, _, none⟩) NB111_102.out _).trans (((cell_far (p := ⟨gb102, _, none⟩) NB111_102.out _).trans (hHeld.2.2.1)))))))), ((cell_far (p := ⟨gb102, _, none⟩) NB111_102.out _).trans (((cell_far (p := ⟨gb102, _, none⟩) NB111_102.out _).trans (((cell_far (p := ⟨gb102, _, none⟩) NB111_102.out _).trans (((cell_far (p := ⟨gb102, _, none⟩) NB111_102.out _).trans (hHeld.2.2.2))))))))⟩ (fun hHeld => ?_)
  clear hK K
  refine done_ (done_of HT_.out (by kernel_rfl)) ?_
  try go_wp2
  refine bodyPost_ret (results_cell_row rfl _ _ gb102 58 #[.bool t120, .slice Ao31 t121.length co31, .bool t124, .slice Ao34 t125.length co34] (0, 0) _ rfl (by (with_reducible repeat (first | refine blk_drewN ?_ _ | refine blk_drew ?_ | refine blk_alloc ?_ _)); refine blk_put (cs := #[.bool t120, .slice Ao31 t121.length co31, .bool t124, .slice none 0 0]) ?_ 3 _ rfl; (with_reducible repeat (first | refine blk_drewN ?_ _ | refine blk_drew ?_ | refine blk_alloc ?_ _)); refine blk_put (cs := #[.bool t120, .slice Ao31 t121.length co31, .bool false, .slice none 0 0]) ?_ 2 _ rfl; (with_reducible repeat (first | refine blk_drewN ?_ _ | refine blk_drew ?_ | refine blk_alloc ?_ _)); refine blk_put (cs := #[.bool t120, .slice none 0 0, .bool false, .slice none 0 0]) ?_ 1 _ rfl; (with_reducible repeat (first | refine blk_drewN ?_ _ | refine blk_drew ?_ | refine blk_alloc ?_ _)); refine blk_put (cs := #[.bool false, .slice none 0 0, .bool false, .slice none 0 0]) ?_ 0 _ rfl; (with_reducible repeat (first | refine blk_drewN ?_ _ | refine blk_drew ?_ | refine blk_alloc ?_ _)); exact BK102.out) Try.underlying58 rfl (by kernel_rfl)) rfl ?_
  exact ⟨_, _, by first | rfl | (simp [errW_none, errW_some] <;> rfl) | (simp [*, errW_none, errW_some] <;> rfl), by (with_reducible repeat (first | apply Kd.V_alloc | apply Kd.V_drewN | apply Kd.V_drew)); exact Kd.V_mono (Kd.V_far (p := ⟨gb102, 3, none⟩) (Kd.V_far (p := ⟨gb102, 2, none⟩) (Kd.V_far (p := ⟨gb102, 1, none⟩) (Kd.V_far (p := ⟨gb102, 0, none⟩) (Kd.V_mono HO123.out (fun k_ hk => (⟨hk, hk.2.2.2.2.2.1⟩ : _ ∧ k_ ≠ gb102))) (fun _ hk => hk.2) (.bool t120)) (fun _ hk => hk.2) (.slice Ao31 t121.length co31)) (fun _ hk => hk.2) (.bool t124)) (fun _ hk => hk.2) (.slice Ao34 t125.length co34)) (fun _ hk => hk.1.1), by (with_reducible repeat (first | apply Kd.V_alloc | apply Kd.V_drewN | apply Kd.V_drew)); exact Kd.V_mono (Kd.V_far (p := ⟨gb102, 3, none⟩) (Kd.V_far (p := ⟨gb102, 2, none⟩) (Kd.V_far (p := ⟨gb102, 1, none⟩) (Kd.V_far (p := ⟨gb102, 0, none⟩) (Kd.V_mono HO127.out (fun k_ hk => (⟨hk, hk.2.2.2.2.2.1⟩ : _ ∧ k_ ≠ gb102))) (fun _ hk => hk.2) (.bool t120)) (fun _ hk => hk.2) (.slice Ao31 t121.length co31)) (fun _ hk => hk.2) (.bool t124)) (fun _ hk => hk.2) (.slice Ao34 t125.length co34)) (fun _ hk => hk.1.1), l_ HB⟩

end Go.Proofs.Ytglkjeeiiflpjaa.F
