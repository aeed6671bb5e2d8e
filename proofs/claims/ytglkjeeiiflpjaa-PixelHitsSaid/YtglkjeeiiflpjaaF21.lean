-- PRINTED by print.py (a twelfth state) out of the translation. Not trusted: Lean checks it.
import Derived.Test.YtglkjeeiiflpjaaF0
import Derived.Test.YtglkjeeiiflpjaaB3
import Derived.Test.YtglkjeeiiflpjaaFS
namespace Go.Proofs.Ytglkjeeiiflpjaa.F
open Go.RowKit Go.Proofs.YtglkjeeiiflpjaaW.PrintWords Go.Proofs.YtglkjeeiiflpjaaW.PrintLast Go.Proofs.YtglkjeeiiflpjaaW.PrintMore
attribute [local go_sem] max2_int min2_int max_two min_two max_three min_three max_four min_four   -- for this text's walks alone
set_option linter.unusedVariables false
set_option linter.unusedSimpArgs false

/-! ### grid_Of: function 21 -/
def grid_Of.f (a0_0 : Int) (a0_1 : Int) (a1 : Int) : Option (Int × Int) := (grid_Snap.f a0_0 a1).bind fun t103 => ((grid_Snap.f a0_1 a1).bind fun t104 => (some (t103, t104)))
def grid_Of.T1 : Bool × List (List Nat × List Nat) := (true, [([], []), ([0], [0]), ([], []), ([1, 2], [1, 2]), ([], []), ([4], [4]), ([], []), ([5, 6, 3], [5, 6]), ([3, 7], [3, 7]), ([8, 7, 0, 1, 2, 3, 4, 5, 6, 7, 8], [8])])
def grid_Of.B1 : List Nat := [0, 1, 0, 7, 0, 16, 0, 127, 255, 511]
theorem grid_Of.tab1 : rtab .any (opsOf Try.f21 1) = grid_Of.T1 := by kernel_rfl
theorem grid_Of.bits1 : waitsOk grid_Of.T1.2 grid_Of.B1 = true := by kernel_rfl
set_option maxHeartbeats 8000000 in
set_option maxRecDepth 100000 in
theorem grid_Of.calls (a0_0 : Int) (a0_1 : Int) (a1 : Int) (r1 : Int) (r2 : Int) (w : World) (h : grid_Of.f a0_0 a0_1 a1 = some (r1, r2)) :
    Calls Try.prog 21 #[.agg #[.int .i64 a0_0, .int .i64 a0_1], .int .i64 a1] w fun e w' => e = .returned (.agg #[.int .i64 r1, .int .i64 r2]) ∧ Below w.heap.size w w' := by
  have hu23 := Try.underlying23
  have hu30 := Try.underlying30
  have HB := A_ (Below.refl w.heap.size w)
  have H : ((grid_Snap.f a0_0 a1).bind fun t103 => ((grid_Snap.f a0_1 a1).bind fun t104 => (some (t103, t104)))) = some (r1, r2) := h
  clear h
  replace H := Option.bind_eq_some_iff.mp H
  obtain ⟨t103, A30, H⟩ := H
  replace H : ((grid_Snap.f a0_1 a1).bind fun t104 => (some (t103, t104))) = some (r1, r2) := H
  have A3 := A_ A30
  clear A30
  replace H := Option.bind_eq_some_iff.mp H
  obtain ⟨t104, A40, H⟩ := H
  replace H : (some (t103, t104)) = some (r1, r2) := H
  have A4 := A_ A40
  clear A40
  simp only [Option.some.injEq, Prod.mk.injEq] at H
  obtain ⟨rfl, rfl⟩ := H
  go_enter Try.func21, Try.ntmps21
  try go_wp2_with (first | ((with_reducible refine gate_dst (N := 2) rfl ?_); refine boxeq_ 2 #[.int .i64 a0_0, .int .i64 a0_1] 23 ?_; intro gb101 hg w5 hbox hb; have BK101 := A_ (hbox); have GW101 := ge_ HB hg; replace HB := st_ HB hb; have GE101 := GW101; clear hb hbox hg) | ((with_reducible refine gate_dst (N := 4) rfl ?_); refine boxeq_ 4 #[.int .i64 0, .int .i64 0] 30 ?_; intro gb102 hg w6 hbox hb; have BK102 := A_ (hbox); have GW102 := ge_ HB hg; replace HB := st_ HB hb; have GE102 := GW102; have NB101_102 := ne_ BK101 hg; replace BK101 := bb_ BK101 hb; have NB102_101 := A_ NB101_102.out.symm; clear hb hbox hg))
  replace BK101 := A_ (blk_drew BK101.out)
  replace BK102 := A_ (blk_drew BK102.out)
  replace HB := A_ (below_drew1 HB.out)
  refine start_ (n := 10) (S := fun w' => w'.cell? ⟨gb101, 0, none⟩ = some (.int .i64 a0_0) ∧ w'.cell? ⟨gb101, 1, none⟩ = some (.int .i64 a0_1)) (ds := []) (Array.replicate 10 false) (by kernel_rfl) rfl rfl ⟨(blk_cell BK101.out 0).trans rfl, (blk_cell BK101.out 1).trans rfl⟩ (fun hHeld => ?_); refine with_tabW grid_Of.tab1 grid_Of.bits1 (fun HT_ HW_ => ?_)
  generalize w6.drew = w7 at BK101 BK102 HB hHeld ⊢
  refine pureq_ 0 5 HT_ ?_
  refine pureq_ 2 7 HT_ ?_
  refine pureq_ 4 9 HT_ ?_
  refine pureq_ 6 11 HT_ ?_
  refine takeq_ 1 6 HT_ HW_ hHeld ?_
  refine takeq_ 5 10 HT_ HW_ hHeld ?_
  refine oneq_ 3 (some 8) HT_ (fun K hK => ?_)
  refine goesq_ Try.func39 #[.int .i64 a0_0, .int .i64 a1] ?_
  with_reducible refine (grid_Snap.calls a0_0 a1 t103 _ A3.out).mono ?_
  rintro e w8 ⟨rfl, hb⟩
  refine ⟨_, rfl, ?_⟩
  replace BK101 := bb_ BK101 hb
  replace BK102 := bb_ BK102 hb
  replace HB := st_ HB hb
  try clear hb
  refine hK.out _ _ ⟨(blk_cell BK101.out 0).trans rfl, (blk_cell BK101.out 1).trans rfl⟩ (fun hHeld => ?_)
  clear hK K
  refine normq_ 8 ?_
  refine oneq_ 7 (some 12) HT_ (fun K hK => ?_)
  refine goesq_ Try.func39 #[.int .i64 a0_1, .int .i64 a1] ?_
  with_reducible refine (grid_Snap.calls a0_1 a1 t104 _ A4.out).mono ?_
  rintro e w9 ⟨rfl, hb⟩
  refine ⟨_, rfl, ?_⟩
  replace BK101 := bb_ BK101 hb
  replace BK102 := bb_ BK102 hb
  replace HB := st_ HB hb
  try clear hb
  refine hK.out _ _ ⟨(blk_cell BK101.out 0).trans rfl, (blk_cell BK101.out 1).trans rfl⟩ (fun hHeld => ?_)
  clear hK K
  refine normq_ 12 ?_
  refine pureq_ 8 13 HT_ ?_
  refine oneq_ 9 none HT_ (fun K hK => ?_)
  have hs10 : w9.cell? ⟨gb102, 0, none⟩ = some (.int .i64 0) := (blk_cell BK102.out 0).trans rfl
  have hfs10 := blk_frozen BK102.out 0
  have hns10_0 := NB101_102.out
  have hms10_0 := NB102_101.out
  have hs11 : w9.cell? ⟨gb102, 1, none⟩ = some (.int .i64 0) := (blk_cell BK102.out 1).trans rfl
  have hfs11 := blk_frozen BK102.out 1
  have hns11_0 := NB101_102.out
  have hms11_0 := NB102_101.out
  refine skip_ (w1 := ?_) (by rfl) rfl ?_ ?_
  rotate_left
  · go_simp
    rfl
  refine hK.out _ _ ⟨((cell_far (p := ⟨gb102, _, none⟩) NB101_102.out _).trans (((cell_far (p := ⟨gb102, _, none⟩) NB101_102.out _).trans (hHeld.1)))), ((cell_far (p := ⟨gb102, _, none⟩) NB101_102.out _).trans (((cell_far (p := ⟨gb102, _, none⟩) NB101_102.out _).trans (hHeld.2))))⟩ (fun hHeld => ?_)
  clear hK K
  refine done_ (done_of HT_.out (by kernel_rfl)) ?_
  try go_wp2
  refine bodyPost_ret (results_cell_row rfl _ _ gb102 30 #[.int .i64 t103, .int .i64 t104] (0, 0) _ rfl (by (with_reducible repeat (first | refine blk_drewN ?_ _ | refine blk_drew ?_ | refine blk_alloc ?_ _)); refine blk_put (cs := #[.int .i64 t103, .int .i64 0]) ?_ 1 _ rfl; (with_reducible repeat (first | refine blk_drewN ?_ _ | refine blk_drew ?_ | refine blk_alloc ?_ _)); refine blk_put (cs := #[.int .i64 0, .int .i64 0]) ?_ 0 _ rfl; (with_reducible repeat (first | refine blk_drewN ?_ _ | refine blk_drew ?_ | refine blk_alloc ?_ _)); exact BK102.out) Try.underlying30 rfl (by kernel_rfl)) rfl ?_
  exact ⟨by first | rfl | (simp [errW_none, errW_some] <;> rfl) | (simp [*, errW_none, errW_some] <;> rfl), l_ HB⟩

end Go.Proofs.Ytglkjeeiiflpjaa.F
