-- PRINTED by print.py (a twelfth state) out of the translation. Not trusted: Lean checks it.
import Derived.Test.YtglkjeeiiflpjaaF0
import Derived.Test.YtglkjeeiiflpjaaB3
import Derived.Test.YtglkjeeiiflpjaaFS
import Derived.Test.YtglkjeeiiflpjaaHIn
namespace Go.Proofs.Ytglkjeeiiflpjaa.F
open Go.RowKit Go.Proofs.YtglkjeeiiflpjaaW.PrintWords Go.Proofs.YtglkjeeiiflpjaaW.PrintLast Go.Proofs.YtglkjeeiiflpjaaW.PrintMore
attribute [local go_sem] max2_int min2_int max_two min_two max_three min_three max_four min_four   -- for this text's walks alone
set_option linter.unusedVariables false
set_option linter.unusedSimpArgs false

/-! ### grid_Center: function 40 -/
def grid_Center.f (a0_0 : Int) (a0_1 : Int) (a1 : Int) : Option (Int × Int) := (grid_In.f a0_0 a0_1 a1).bind fun t103 => (if t103 = true then ((grid_rung.f a1).bind fun t104 => (if 0 ≤ t104 then ((grid_rung.f a1).bind fun t105 => (if 0 ≤ t105 then (some (shl .i64 a0_0 t104, shl .i64 a0_1 t105)) else (none))) else (none))) else (some (0, 0)))
def grid_Center.T3 : Bool × List (List Nat × List Nat) := (true, [([], []), ([0], [0]), ([], []), ([2], [2]), ([1, 3], [1, 3]), ([], []), ([5], [5]), ([], []), ([7, 3], [7]), ([6, 8], [6, 8]), ([4, 9], [4, 9]), ([10, 8, 0, 1, 2, 3, 4, 5, 6, 7, 8, 9, 10], [10])])
def grid_Center.B3 : List Nat := [0, 1, 0, 4, 15, 0, 32, 0, 140, 492, 1023, 2047]
theorem grid_Center.tab3 : rtab .any (opsOf Try.f40 3) = grid_Center.T3 := by kernel_rfl
theorem grid_Center.bits3 : waitsOk grid_Center.T3.2 grid_Center.B3 = true := by kernel_rfl
set_option maxHeartbeats 8000000 in
set_option maxRecDepth 100000 in
theorem grid_Center.calls (a0_0 : Int) (a0_1 : Int) (a1 : Int) (r1 : Int) (r2 : Int) (w : World) (h : grid_Center.f a0_0 a0_1 a1 = some (r1, r2)) :
    Calls Try.prog 40 #[.agg #[.int .i64 a0_0, .int .i64 a0_1], .int .i64 a1] w fun e w' => e = .returned (.agg #[.int .i64 r1, .int .i64 r2]) ∧ Below w.heap.size w w' := by
  have hu30 := Try.underlying30
  have hu23 := Try.underlying23
  have HB := A_ (Below.refl w.heap.size w)
  have H : ((grid_In.f a0_0 a0_1 a1).bind fun t103 => (if t103 = true then ((grid_rung.f a1).bind fun t104 => (if 0 ≤ t104 then ((grid_rung.f a1).bind fun t105 => (if 0 ≤ t105 then (some (shl .i64 a0_0 t104, shl .i64 a0_1 t105)) else (none))) else (none))) else (some (0, 0)))) = some (r1, r2) := h
  clear h
  replace H := Option.bind_eq_some_iff.mp H
  obtain ⟨t103, A30, H⟩ := H
  replace H : (if t103 = true then ((grid_rung.f a1).bind fun t104 => (if 0 ≤ t104 then ((grid_rung.f a1).bind fun t105 => (if 0 ≤ t105 then (some (shl .i64 a0_0 t104, shl .i64 a0_1 t105)) else (none))) else (none))) else (some (0, 0))) = some (r1, r2) := H
  have A3 := A_ A30
  clear A30
  by_cases c4 : t103 = true
  · subst c4
    have H1 : ((grid_rung.f a1).bind fun t104 => (if 0 ≤ t104 then ((grid_rung.f a1).bind fun t105 => (if 0 ≤ t105 then (some (shl .i64 a0_0 t104, shl .i64 a0_1 t105)) else (none))) else (none))) = some (r1, r2) := by rw [if_pos rfl] at H; exact H
    clear H
    have H := H1
    clear H1
    replace H := Option.bind_eq_some_iff.mp H
    obtain ⟨t104, A50, H⟩ := H
    replace H : (if 0 ≤ t104 then ((grid_rung.f a1).bind fun t105 => (if 0 ≤ t105 then (some (shl .i64 a0_0 t104, shl .i64 a0_1 t105)) else (none))) else (none)) = some (r1, r2) := H
    have A5 := A_ A50
    clear A50
    by_cases c6 : 0 ≤ t104
    · rw [if_pos c6] at H
      have c6b0 := eq_true c6
      have c6b1 : decide (0 ≤ t104) = true := decide_eq_true c6
      clear c6
      obtain ⟨ji7, hji7⟩ : ∃ j_ : Int, (shl .i64 a0_0 t104) = j_ := ⟨_, rfl⟩
      replace H : ((grid_rung.f a1).bind fun t105 => (if 0 ≤ t105 then (some (ji7, shl .i64 a0_1 t105)) else (none))) = some (r1, r2) := by first | (rw [hji7] at H; exact H) | (simp only [hji7] at H ⊢; exact H)
      (try rw [hji7] at A3)
      (try rw [hji7] at A5)
      have hji7_ : (IntKind.i64.wrap (a0_0 * 2 ^ min t104.toNat 64)) = ji7 := hji7
      have hji7z : t104 ≤ 64 → (IntKind.i64.wrap (a0_0 * 2 ^ t104.toNat)) = ji7 := shl_small hji7
      have hji7y : (wrap64 (a0_0 * 2 ^ min t104.toNat 64)) = ji7 := (i64_w _).symm.trans hji7_
      have hji7x : t104 ≤ 64 → (wrap64 (a0_0 * 2 ^ t104.toNat)) = ji7 := fun h_ => (i64_w _).symm.trans (hji7z h_)
      replace H := Option.bind_eq_some_iff.mp H
      obtain ⟨t105, A80, H⟩ := H
      replace H : (if 0 ≤ t105 then (some (ji7, shl .i64 a0_1 t105)) else (none)) = some (r1, r2) := H
      have A8 := A_ A80
      clear A80
      by_cases c9 : 0 ≤ t105
      · rw [if_pos c9] at H
        have c9b0 := eq_true c9
        have c9b1 : decide (0 ≤ t105) = true := decide_eq_true c9
        clear c9
        obtain ⟨ji10, hji10⟩ : ∃ j_ : Int, (shl .i64 a0_1 t105) = j_ := ⟨_, rfl⟩
        replace H : (some (ji7, ji10)) = some (r1, r2) := by first | (rw [hji10] at H; exact H) | (simp only [hji10] at H ⊢; exact H)
        (try rw [hji10] at A3)
        (try rw [hji10] at A5)
        (try rw [hji10] at A8)
        have hji10_ : (IntKind.i64.wrap (a0_1 * 2 ^ min t105.toNat 64)) = ji10 := hji10
        have hji10z : t105 ≤ 64 → (IntKind.i64.wrap (a0_1 * 2 ^ t105.toNat)) = ji10 := shl_small hji10
        have hji10y : (wrap64 (a0_1 * 2 ^ min t105.toNat 64)) = ji10 := (i64_w _).symm.trans hji10_
        have hji10x : t105 ≤ 64 → (wrap64 (a0_1 * 2 ^ t105.toNat)) = ji10 := fun h_ => (i64_w _).symm.trans (hji10z h_)
        simp only [Option.some.injEq, Prod.mk.injEq] at H
        obtain ⟨rfl, rfl⟩ := H
        go_enter Try.func40, Try.ntmps40
        try go_wp2_with (first | ((with_reducible refine gate_dst (N := 2) rfl ?_); refine boxeq_ 2 #[.int .i64 a0_0, .int .i64 a0_1] 30 ?_; intro gb101 hg w11 hbox hb; have BK101 := A_ (hbox); have GW101 := ge_ HB hg; replace HB := st_ HB hb; have GE101 := GW101; clear hb hbox hg) | ((with_reducible refine gate_dst (N := 4) rfl ?_); refine boxeq_ 4 #[.int .i64 0, .int .i64 0] 23 ?_; intro gb102 hg w12 hbox hb; have BK102 := A_ (hbox); have GW102 := ge_ HB hg; replace HB := st_ HB hb; have GE102 := GW102; have NB101_102 := ne_ BK101 hg; replace BK101 := bb_ BK101 hb; have NB102_101 := A_ NB101_102.out.symm; clear hb hbox hg; have hnb13 := NB101_102.out; have hnc13 := NB102_101.out; have hcz14_0 : w12.cell? ⟨gb101, 0, none⟩ = some (.int .i64 a0_0) := (blk_cell BK101.out 0).trans rfl; have hcz14_1 : w12.cell? ⟨gb101, 1, none⟩ = some (.int .i64 a0_1) := (blk_cell BK101.out 1).trans rfl; have hfz14_0 := blk_frozen BK101.out 0; have hfz14_1 := blk_frozen BK101.out 1) | ((with_reducible refine gate_callee (f := 20) rfl ?_); refine goesLq_ 7 rfl Try.func20 #[.agg #[.int .i64 a0_0, .int .i64 a0_1], .int .i64 a1] ?_; (with_reducible refine (grid_In.calls a0_0 a0_1 a1 true _ A3.out).mono ?_); rintro e w15 ⟨rfl, hb⟩; refine ⟨_, rfl, ?_⟩; replace BK101 := bb_ BK101 hb; replace BK102 := bb_ BK102 hb; replace HB := st_ HB hb; (try clear hb); (try clear hb2); (try clear hk); (try clear hi)))
        replace BK101 := A_ (blk_drew BK101.out)
        replace BK102 := A_ (blk_drew BK102.out)
        replace HB := A_ (below_drew1 HB.out)
        refine start_ (n := 12) (S := fun w' => w'.cell? ⟨gb101, 0, none⟩ = some (.int .i64 a0_0) ∧ w'.cell? ⟨gb101, 1, none⟩ = some (.int .i64 a0_1)) (ds := []) (Array.replicate 12 false) (by kernel_rfl) rfl rfl ⟨(blk_cell BK101.out 0).trans rfl, (blk_cell BK101.out 1).trans rfl⟩ (fun hHeld => ?_); refine with_tabW grid_Center.tab3 grid_Center.bits3 (fun HT_ HW_ => ?_)
        generalize w15.drew = w16 at BK101 BK102 HB hHeld ⊢
        refine pureq_ 0 10 HT_ ?_
        refine pureq_ 2 12 HT_ ?_
        refine pureq_ 5 15 HT_ ?_
        refine pureq_ 7 17 HT_ ?_
        refine takeq_ 1 11 HT_ HW_ hHeld ?_
        refine takeq_ 6 16 HT_ HW_ hHeld ?_
        refine oneq_ 3 (some 13) HT_ (fun K hK => ?_)
        refine goesq_ Try.func38 #[.int .i64 a1] ?_
        with_reducible refine (grid_rung.calls a1 t104 _ A5.out).mono ?_
        rintro e w17 ⟨rfl, hb⟩
        refine ⟨_, rfl, ?_⟩
        replace BK101 := bb_ BK101 hb
        replace BK102 := bb_ BK102 hb
        replace HB := st_ HB hb
        try clear hb
        refine hK.out _ _ ⟨(blk_cell BK101.out 0).trans rfl, (blk_cell BK101.out 1).trans rfl⟩ (fun hHeld => ?_)
        clear hK K
        refine normq_ 13 ?_
        refine pureq_ 4 14 HT_ ?_
        refine oneq_ 8 (some 18) HT_ (fun K hK => ?_)
        refine goesq_ Try.func38 #[.int .i64 a1] ?_
        with_reducible refine (grid_rung.calls a1 t105 _ A8.out).mono ?_
        rintro e w18 ⟨rfl, hb⟩
        refine ⟨_, rfl, ?_⟩
        replace BK101 := bb_ BK101 hb
        replace BK102 := bb_ BK102 hb
        replace HB := st_ HB hb
        try clear hb
        refine hK.out _ _ ⟨(blk_cell BK101.out 0).trans rfl, (blk_cell BK101.out 1).trans rfl⟩ (fun hHeld => ?_)
        clear hK K
        refine normq_ 18 ?_
        refine pureq_ 9 19 HT_ ?_
        refine pureq_ 10 20 HT_ ?_
        refine oneq_ 11 none HT_ (fun K hK => ?_)
        have hs19 : w18.cell? ⟨gb102, 0, none⟩ = some (.int .i64 0) := (blk_cell BK102.out 0).trans rfl
        have hfs19 := blk_frozen BK102.out 0
        have hns19_0 := NB101_102.out
        have hms19_0 := NB102_101.out
        have hs20 : w18.cell? ⟨gb102, 1, none⟩ = some (.int .i64 0) := (blk_cell BK102.out 1).trans rfl
        have hfs20 := blk_frozen BK102.out 1
        have hns20_0 := NB101_102.out
        have hms20_0 := NB102_101.out
        refine skip_ (w1 := ?_) (by rfl) rfl ?_ ?_
        rotate_left
        · go_simp
          rfl
        refine hK.out _ _ ⟨((cell_far (p := ⟨gb102, _, none⟩) NB101_102.out _).trans (((cell_far (p := ⟨gb102, _, none⟩) NB101_102.out _).trans (hHeld.1)))), ((cell_far (p := ⟨gb102, _, none⟩) NB101_102.out _).trans (((cell_far (p := ⟨gb102, _, none⟩) NB101_102.out _).trans (hHeld.2))))⟩ (fun hHeld => ?_)
        clear hK K
        refine done_ (done_of HT_.out (by kernel_rfl)) ?_
        try go_wp2
        refine bodyPost_ret (results_cell_row rfl _ _ gb102 23 #[.int .i64 ji7, .int .i64 ji10] (0, 0) _ rfl (by (with_reducible repeat (first | refine blk_drewN ?_ _ | refine blk_drew ?_ | refine blk_alloc ?_ _)); refine blk_put (cs := #[.int .i64 ji7, .int .i64 0]) ?_ 1 _ rfl; (with_reducible repeat (first | refine blk_drewN ?_ _ | refine blk_drew ?_ | refine blk_alloc ?_ _)); refine blk_put (cs := #[.int .i64 0, .int .i64 0]) ?_ 0 _ rfl; (with_reducible repeat (first | refine blk_drewN ?_ _ | refine blk_drew ?_ | refine blk_alloc ?_ _)); exact BK102.out) Try.underlying23 rfl (by kernel_rfl)) rfl ?_
        exact ⟨by first | rfl | (simp [errW_none, errW_some] <;> rfl) | (simp only [← hji7, ← hji10]; first | rfl | (simp [errW_none, errW_some] <;> rfl)) | (simp [*, errW_none, errW_some] <;> rfl), l_ HB⟩
      · rw [if_neg c9] at H
        exact absurd H (by simp)
    · rw [if_neg c6] at H
      exact absurd H (by simp)
  · replace c4 := Bool.eq_false_iff.mpr c4
    subst c4
    have H1 : (some (0, 0)) = some (r1, r2) := by rw [if_neg (show ¬ (false = true) by decide)] at H; exact H
    clear H
    have H := H1
    clear H1
    simp only [Option.some.injEq, Prod.mk.injEq] at H
    obtain ⟨rfl, rfl⟩ := H
    go_enter Try.func40, Try.ntmps40
    go_wp2_with (first | ((with_reducible refine gate_dst (N := 2) rfl ?_); refine boxeq_ 2 #[.int .i64 a0_0, .int .i64 a0_1] 30 ?_; intro gb101 hg w21 hbox hb; have BK101 := A_ (hbox); have GW101 := ge_ HB hg; replace HB := st_ HB hb; have GE101 := GW101; clear hb hbox hg) | ((with_reducible refine gate_dst (N := 4) rfl ?_); refine boxeq_ 4 #[.int .i64 0, .int .i64 0] 23 ?_; intro gb102 hg w22 hbox hb; have BK102 := A_ (hbox); have GW102 := ge_ HB hg; replace HB := st_ HB hb; have GE102 := GW102; have NB101_102 := ne_ BK101 hg; replace BK101 := bb_ BK101 hb; have NB102_101 := A_ NB101_102.out.symm; clear hb hbox hg; have hnb23 := NB101_102.out; have hnc23 := NB102_101.out; have hcz24_0 : w22.cell? ⟨gb101, 0, none⟩ = some (.int .i64 a0_0) := (blk_cell BK101.out 0).trans rfl; have hcz24_1 : w22.cell? ⟨gb101, 1, none⟩ = some (.int .i64 a0_1) := (blk_cell BK101.out 1).trans rfl; have hfz24_0 := blk_frozen BK101.out 0; have hfz24_1 := blk_frozen BK101.out 1) | ((with_reducible refine gate_callee (f := 20) rfl ?_); refine goesLq_ 7 rfl Try.func20 #[.agg #[.int .i64 a0_0, .int .i64 a0_1], .int .i64 a1] ?_; (with_reducible refine (grid_In.calls a0_0 a0_1 a1 false _ A3.out).mono ?_); rintro e w25 ⟨rfl, hb⟩; refine ⟨_, rfl, ?_⟩; replace BK101 := bb_ BK101 hb; replace BK102 := bb_ BK102 hb; replace HB := st_ HB hb; (try clear hb); (try clear hb2); (try clear hk); (try clear hi); have hcz26_0 : w25.cell? ⟨gb102, 0, none⟩ = some (.int .i64 0) := (blk_cell BK102.out 0).trans rfl; have hcz26_1 : w25.cell? ⟨gb102, 1, none⟩ = some (.int .i64 0) := (blk_cell BK102.out 1).trans rfl; have hfz26_0 := blk_frozen BK102.out 0; have hfz26_1 := blk_frozen BK102.out 1))
    refine bodyPost_ret (results_cell_row rfl _ _ gb102 23 #[.int .i64 0, .int .i64 0] (0, 0) _ rfl (by (with_reducible repeat (first | refine blk_drewN ?_ _ | refine blk_drew ?_ | refine blk_alloc ?_ _)); refine blk_put (cs := #[.int .i64 0, .int .i64 0]) ?_ 1 _ rfl; (with_reducible repeat (first | refine blk_drewN ?_ _ | refine blk_drew ?_ | refine blk_alloc ?_ _)); refine blk_put (cs := #[.int .i64 0, .int .i64 0]) ?_ 0 _ rfl; (with_reducible repeat (first | refine blk_drewN ?_ _ | refine blk_drew ?_ | refine blk_alloc ?_ _)); exact BK102.out) Try.underlying23 rfl (by kernel_rfl)) rfl ?_
    exact ⟨by first | rfl | (simp [errW_none, errW_some] <;> rfl) | (simp [*, errW_none, errW_some] <;> rfl), l_ HB⟩

end Go.Proofs.Ytglkjeeiiflpjaa.F
