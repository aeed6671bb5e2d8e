-- PRINTED by print.py (a twelfth state) out of the translation. Not trusted: Lean checks it.
import Derived.Test.YtglkjeeiiflpjaaF0
import Derived.Test.YtglkjeeiiflpjaaB3
import Derived.Test.YtglkjeeiiflpjaaF44
import Derived.Test.YtglkjeeiiflpjaaF51
namespace Go.Proofs.Ytglkjeeiiflpjaa.F
open Go.RowKit Go.Proofs.YtglkjeeiiflpjaaW.PrintWords Go.Proofs.YtglkjeeiiflpjaaW.PrintLast Go.Proofs.YtglkjeeiiflpjaaW.PrintMore
attribute [local go_sem] max2_int min2_int max_two min_two max_three min_three max_four min_four   -- for this text's walks alone
set_option linter.unusedVariables false
set_option linter.unusedSimpArgs false

/-! ### cobwebref02_Cmp: function 49 -/
def cobwebref02_Cmp.f (k : Nat) (a0_0 : Bool) (l0_1 : List Int) (a0_2 : Bool) (l0_3 : List Int) (a1_0 : Bool) (l1_1 : List Int) (a1_2 : Bool) (l1_3 : List Int) : Option (Int) := (cobwebref01_Mul.f k a0_0 l0_1 a1_2 l1_3).bind fun bt103 => ((cobwebref01_Mul.f k a1_0 l1_1 a0_2 l0_3).bind fun bt107 => ((cobwebref01_Cmp.f k bt103.1 bt103.2 bt107.1 bt107.2).bind fun t111 => (some t111)))
theorem cobwebref02_Cmp.mono : ∀ a0 a1 a2 a3 a4 a5 a6 a7 k, LeO (cobwebref02_Cmp.f k a0 a1 a2 a3 a4 a5 a6 a7) (cobwebref02_Cmp.f (k + 1) a0 a1 a2 a3 a4 a5 a6 a7) := by
  intro a0 a1 a2 a3 a4 a5 a6 a7 k
  unfold cobwebref02_Cmp.f
  repeat' first
      | (with_reducible exact cobwebref01_Cmp.mono _ _ _ _ _)
      | (with_reducible exact cobwebref01_Mul.mono _ _ _ _ _)
      | (with_reducible exact LeO.refl _)
      | (with_reducible exact LeO.none _)
      | (with_reducible refine LeO.ite ?_ ?_)
      | (with_reducible refine LeO.bind ?_ (fun _ => ?_))
      | exact cobwebref01_Cmp.mono _ _ _ _ _
      | exact cobwebref01_Mul.mono _ _ _ _ _
      | exact LeO.none _
      | refine LeO.ite ?_ ?_
      | refine LeO.bind ?_ (fun _ => ?_)
def cobwebref02_Cmp.T1 : Bool × List (List Nat × List Nat) := (true, [([], []), ([0], [0]), ([], []), ([2], [2]), ([1, 3], [1, 3]), ([], []), ([5], [5]), ([], []), ([7], [7]), ([6, 8, 4], [6, 8]), ([4, 9, 9], [4, 9]), ([10, 10, 0, 1, 2, 3, 4, 5, 6, 7, 8, 9, 10], [10])])
def cobwebref02_Cmp.B1 : List Nat := [0, 1, 0, 4, 15, 0, 32, 0, 128, 511, 1023, 2047]
theorem cobwebref02_Cmp.tab1 : rtab .any (opsOf Try.f49 1) = cobwebref02_Cmp.T1 := by kernel_rfl
theorem cobwebref02_Cmp.bits1 : waitsOk cobwebref02_Cmp.T1.2 cobwebref02_Cmp.B1 = true := by kernel_rfl
set_option maxHeartbeats 8000000 in
set_option maxRecDepth 100000 in
theorem cobwebref02_Cmp.calls (k : Nat) (a0_0 : Bool) (A0_1 : Option Addr) (c0_1 : Nat) (l0_1 : List Int) (a0_2 : Bool) (A0_3 : Option Addr) (c0_3 : Nat) (l0_3 : List Int) (a1_0 : Bool) (A1_1 : Option Addr) (c1_1 : Nat) (l1_1 : List Int) (a1_2 : Bool) (A1_3 : Option Addr) (c1_3 : Nat) (l1_3 : List Int) (r : Int) (w : World) (hr0_1 : Kd.C (Kd.int .i64) w A0_1 l0_1.length l0_1) (hc0_1 : l0_1.length ≤ c0_1) (hr0_3 : Kd.C (Kd.int .i64) w A0_3 l0_3.length l0_3) (hc0_3 : l0_3.length ≤ c0_3) (hr1_1 : Kd.C (Kd.int .i64) w A1_1 l1_1.length l1_1) (hc1_1 : l1_1.length ≤ c1_1) (hr1_3 : Kd.C (Kd.int .i64) w A1_3 l1_3.length l1_3) (hc1_3 : l1_3.length ≤ c1_3) (h : cobwebref02_Cmp.f k a0_0 l0_1 a0_2 l0_3 a1_0 l1_1 a1_2 l1_3 = some r) :
    Calls Try.prog 49 #[.agg #[.bool a0_0, .slice A0_1 l0_1.length c0_1, .bool a0_2, .slice A0_3 l0_3.length c0_3], .agg #[.bool a1_0, .slice A1_1 l1_1.length c1_1, .bool a1_2, .slice A1_3 l1_3.length c1_3]] w fun e w' => e = .returned (.int .i64 r) ∧ Below w.heap.size w w' := by
  have hu58 := Try.underlying58
  have hu55 := Try.underlying55
  have HR0_1 := A_ hr0_1
  have HC0_1 := A_ hc0_1
  clear hr0_1 hc0_1
  have HR0_3 := A_ hr0_3
  have HC0_3 := A_ hc0_3
  clear hr0_3 hc0_3
  have HR1_1 := A_ hr1_1
  have HC1_1 := A_ hc1_1
  clear hr1_1 hc1_1
  have HR1_3 := A_ hr1_3
  have HC1_3 := A_ hc1_3
  clear hr1_3 hc1_3
  have HB := A_ (Below.refl w.heap.size w)
  have H : ((cobwebref01_Mul.f k a0_0 l0_1 a1_2 l1_3).bind fun bt103 => ((cobwebref01_Mul.f k a1_0 l1_1 a0_2 l0_3).bind fun bt107 => ((cobwebref01_Cmp.f k bt103.1 bt103.2 bt107.1 bt107.2).bind fun t111 => (some t111)))) = some r := h
  clear h
  replace H := Option.bind_eq_some_iff.mp H
  obtain ⟨⟨t103, t104⟩, A30, H⟩ := H
  replace H : ((cobwebref01_Mul.f k a1_0 l1_1 a0_2 l0_3).bind fun bt107 => ((cobwebref01_Cmp.f k t103 t104 bt107.1 bt107.2).bind fun t111 => (some t111))) = some r := H
  have A3 := A_ A30
  clear A30
  replace H := Option.bind_eq_some_iff.mp H
  obtain ⟨⟨t107, t108⟩, A40, H⟩ := H
  replace H : ((cobwebref01_Cmp.f k t103 t104 t107 t108).bind fun t111 => (some t111)) = some r := H
  have A4 := A_ A40
  clear A40
  replace H := Option.bind_eq_some_iff.mp H
  obtain ⟨t111, A50, H⟩ := H
  replace H : (some t111) = some r := H
  have A5 := A_ A50
  clear A50
  obtain rfl := Option.some.inj H
  go_enter Try.func49, Try.ntmps49
  try go_wp2_with (first | ((with_reducible refine gate_dst (N := 2) rfl ?_); refine boxeq_ 2 #[.bool a0_0, .slice A0_1 l0_1.length c0_1, .bool a0_2, .slice A0_3 l0_3.length c0_3] 58 ?_; intro gb101 hg w6 hbox hb; have BK101 := A_ (hbox); have GW101 := ge_ HB hg; replace HB := st_ HB hb; have GE101 := GW101; clear hb hbox hg) | ((with_reducible refine gate_dst (N := 3) rfl ?_); refine boxeq_ 3 #[.bool a1_0, .slice A1_1 l1_1.length c1_1, .bool a1_2, .slice A1_3 l1_3.length c1_3] 58 ?_; intro gb102 hg w7 hbox hb; have BK102 := A_ (hbox); have GW102 := ge_ HB hg; replace HB := st_ HB hb; have GE102 := GW102; have NB101_102 := ne_ BK101 hg; replace BK101 := bb_ BK101 hb; have NB102_101 := A_ NB101_102.out.symm; clear hb hbox hg))
  replace BK101 := A_ (blk_drew BK101.out)
  replace BK102 := A_ (blk_drew BK102.out)
  replace HB := A_ (below_drew1 HB.out)
  refine start_ (n := 12) (S := fun w' => w'.cell? ⟨gb101, 0, none⟩ = some (.bool a0_0) ∧ w'.cell? ⟨gb101, 1, none⟩ = some (.slice A0_1 l0_1.length c0_1) ∧ w'.cell? ⟨gb101, 2, none⟩ = some (.bool a0_2) ∧ w'.cell? ⟨gb101, 3, none⟩ = some (.slice A0_3 l0_3.length c0_3) ∧ w'.cell? ⟨gb102, 0, none⟩ = some (.bool a1_0) ∧ w'.cell? ⟨gb102, 1, none⟩ = some (.slice A1_1 l1_1.length c1_1) ∧ w'.cell? ⟨gb102, 2, none⟩ = some (.bool a1_2) ∧ w'.cell? ⟨gb102, 3, none⟩ = some (.slice A1_3 l1_3.length c1_3)) (ds := []) (Array.replicate 12 false) (by kernel_rfl) rfl rfl ⟨(blk_cell BK101.out 0).trans rfl, (blk_cell BK101.out 1).trans rfl, (blk_cell BK101.out 2).trans rfl, (blk_cell BK101.out 3).trans rfl, (blk_cell BK102.out 0).trans rfl, (blk_cell BK102.out 1).trans rfl, (blk_cell BK102.out 2).trans rfl, (blk_cell BK102.out 3).trans rfl⟩ (fun hHeld => ?_); refine with_tabW cobwebref02_Cmp.tab1 cobwebref02_Cmp.bits1 (fun HT_ HW_ => ?_)
  generalize w7.drew = w8 at BK101 BK102 HB hHeld ⊢
  refine pureq_ 0 5 HT_ ?_
  refine pureq_ 2 7 HT_ ?_
  refine pureq_ 5 10 HT_ ?_
  refine pureq_ 7 12 HT_ ?_
  refine takeq_ 1 6 HT_ HW_ hHeld ?_
  refine takeq_ 3 8 HT_ HW_ hHeld ?_
  refine takeq_ 6 11 HT_ HW_ hHeld ?_
  refine takeq_ 8 13 HT_ HW_ hHeld ?_
  refine oneq_ 4 (some 9) HT_ (fun K hK => ?_)
  refine goesq_ Try.func44 #[.agg #[.bool a0_0, .slice A0_1 l0_1.length c0_1], .agg #[.bool a1_2, .slice A1_3 l1_3.length c1_3]] ?_
  with_reducible refine (cobwebref01_Mul.calls k a0_0 _ _ l0_1 a1_2 _ _ l1_3 t103 t104 _ ?side1 ?side2 ?side3 ?side4 A3.out).mono ?_
  (case side1 => exact c_ (Kd.C_below HR0_1.out HB.out))
  (case side2 => exact HC0_1.out)
  (case side3 => exact c_ (Kd.C_below HR1_3.out HB.out))
  (case side4 => exact HC1_3.out)
  rintro e w9 ⟨v105, rfl, ho0, hb⟩
  refine ⟨_, rfl, ?_⟩
  have HO106 := A_ (Kd.V_lower (Kd.V_mono (ok' := fun k_ => k_ ≠ gb101 ∧ k_ ≠ gb102) ho0 (fun k_ hk_ => ⟨(Kd.freshB (b_ BK101) k_ hk_), (Kd.freshB (b_ BK102) k_ hk_)⟩)) (below_size (l_ HB)))
  replace BK101 := bb_ BK101 hb
  replace BK102 := bb_ BK102 hb
  replace HB := st_ HB hb
  try clear hb ho0
  refine hK.out _ _ ⟨(blk_cell BK101.out 0).trans rfl, (blk_cell BK101.out 1).trans rfl, (blk_cell BK101.out 2).trans rfl, (blk_cell BK101.out 3).trans rfl, (blk_cell BK102.out 0).trans rfl, (blk_cell BK102.out 1).trans rfl, (blk_cell BK102.out 2).trans rfl, (blk_cell BK102.out 3).trans rfl⟩ (fun hHeld => ?_)
  clear hK K
  refine normq_ 9 ?_
  refine oneq_ 9 (some 14) HT_ (fun K hK => ?_)
  refine goesq_ Try.func44 #[.agg #[.bool a1_0, .slice A1_1 l1_1.length c1_1], .agg #[.bool a0_2, .slice A0_3 l0_3.length c0_3]] ?_
  with_reducible refine (cobwebref01_Mul.calls k a1_0 _ _ l1_1 a0_2 _ _ l0_3 t107 t108 _ ?side1 ?side2 ?side3 ?side4 A4.out).mono ?_
  (case side1 => exact c_ (Kd.C_below HR1_1.out HB.out))
  (case side2 => exact HC1_1.out)
  (case side3 => exact c_ (Kd.C_below HR0_3.out HB.out))
  (case side4 => exact HC0_3.out)
  rintro e w10 ⟨v109, rfl, ho0, hb⟩
  refine ⟨_, rfl, ?_⟩
  replace HO106 := A_ (Kd.V_below (v_ HO106.out) hb)
  have HO110 := A_ (Kd.V_lower (Kd.V_mono (ok' := fun k_ => k_ ≠ gb101 ∧ k_ ≠ gb102) ho0 (fun k_ hk_ => ⟨(Kd.freshB (b_ BK101) k_ hk_), (Kd.freshB (b_ BK102) k_ hk_)⟩)) (below_size (l_ HB)))
  replace BK101 := bb_ BK101 hb
  replace BK102 := bb_ BK102 hb
  replace HB := st_ HB hb
  try clear hb ho0
  obtain ⟨Ao11, co11, eo11⟩ := Kd.V_slice HO106.out
  (first | subst eo11 | (injection eo11 with f1_ f2_ f3_; have f4_ := f1_.symm; have f5_ := f3_.symm; clear f1_ f2_ f3_; subst f4_; subst f5_))
  obtain ⟨Ao12, co12, eo12⟩ := Kd.V_slice HO110.out
  (first | subst eo12 | (injection eo12 with f1_ f2_ f3_; have f4_ := f1_.symm; have f5_ := f3_.symm; clear f1_ f2_ f3_; subst f4_; subst f5_))
  refine hK.out _ _ ⟨(blk_cell BK101.out 0).trans rfl, (blk_cell BK101.out 1).trans rfl, (blk_cell BK101.out 2).trans rfl, (blk_cell BK101.out 3).trans rfl, (blk_cell BK102.out 0).trans rfl, (blk_cell BK102.out 1).trans rfl, (blk_cell BK102.out 2).trans rfl, (blk_cell BK102.out 3).trans rfl⟩ (fun hHeld => ?_)
  clear hK K
  refine normq_ 14 ?_
  refine oneq_ 10 (some 15) HT_ (fun K hK => ?_)
  refine goesq_ Try.func51 #[.agg #[.bool t103, .slice Ao11 t104.length co11], .agg #[.bool t107, .slice Ao12 t108.length co12]] ?_
  with_reducible refine (cobwebref01_Cmp.calls k t103 _ _ t104 t107 _ _ t108 t111 _ ?side1 ?side2 ?side3 ?side4 A5.out).mono ?_
  (case side1 => exact c_ (Kd.V_reads' HO106.out).2.2)
  (case side2 => exact (Kd.V_reads' HO106.out).2.1)
  (case side3 => exact c_ (Kd.V_reads' HO110.out).2.2)
  (case side4 => exact (Kd.V_reads' HO110.out).2.1)
  rintro e w13 ⟨rfl, hb⟩
  refine ⟨_, rfl, ?_⟩
  replace HO106 := A_ (Kd.V_below (v_ HO106.out) hb)
  replace HO110 := A_ (Kd.V_below (v_ HO110.out) hb)
  replace BK101 := bb_ BK101 hb
  replace BK102 := bb_ BK102 hb
  replace HB := st_ HB hb
  try clear hb
  refine hK.out _ _ ⟨(blk_cell BK101.out 0).trans rfl, (blk_cell BK101.out 1).trans rfl, (blk_cell BK101.out 2).trans rfl, (blk_cell BK101.out 3).trans rfl, (blk_cell BK102.out 0).trans rfl, (blk_cell BK102.out 1).trans rfl, (blk_cell BK102.out 2).trans rfl, (blk_cell BK102.out 3).trans rfl⟩ (fun hHeld => ?_)
  clear hK K
  refine normq_ 15 ?_
  refine pureq_ 11 4 HT_ ?_
  refine done_ (done_of HT_.out (by kernel_rfl)) ?_
  try go_wp2
  go_ret
  exact ⟨by first | rfl | (simp [errW_none, errW_some] <;> rfl) | (simp [*, errW_none, errW_some] <;> rfl), l_ HB⟩

end Go.Proofs.Ytglkjeeiiflpjaa.F
