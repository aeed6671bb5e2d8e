-- PRINTED by print.py (a twelfth state) out of the translation. Not trusted: Lean checks it.
import Derived.Test.YtglkjeeiiflpjaaF0
import Derived.Test.YtglkjeeiiflpjaaB3
import Derived.Test.YtglkjeeiiflpjaaFS
import Derived.Test.YtglkjeeiiflpjaaF40
import Derived.Test.YtglkjeeiiflpjaaHIn
namespace Go.Proofs.Ytglkjeeiiflpjaa.F
open Go.RowKit Go.Proofs.YtglkjeeiiflpjaaW.PrintWords Go.Proofs.YtglkjeeiiflpjaaW.PrintLast Go.Proofs.YtglkjeeiiflpjaaW.PrintMore
attribute [local go_sem] max2_int min2_int max_two min_two max_three min_three max_four min_four   -- for this text's walks alone
set_option linter.unusedVariables false
set_option linter.unusedSimpArgs false

/-! ### grid_Sides: function 22 -/
def grid_Sides.f (a0_0 : Int) (a0_1 : Int) (a1 : Int) : Option (Int × Int × Int × Int) := (grid_In.f a0_0 a0_1 a1).bind fun t104 => (if t104 = true then ((grid_Center.f a0_0 a0_1 a1).bind fun bt105 => ((grid_rung.f a1).bind fun t107 => (if 0 ≤ t107 then (some (wrap64 ((wrap64 (2 * bt105.1)) - (shl .i64 1 t107)), wrap64 ((wrap64 (2 * bt105.2)) - (shl .i64 1 t107)), wrap64 ((wrap64 (2 * bt105.1)) + (shl .i64 1 t107)), wrap64 ((wrap64 (2 * bt105.2)) + (shl .i64 1 t107)))) else (none)))) else (some (0, 0, 0, 0)))
def grid_Sides.T3 : Bool × List (List Nat × List Nat) := (true, [([], []), ([], []), ([0, 1], [0, 1]), ([], []), ([3, 2], [3]), ([4], [4]), ([], []), ([6, 2, 4, 0, 1, 2, 6], [2, 6]), ([5, 7, 0, 1, 2, 3, 4, 5, 6, 7], [5])])
def grid_Sides.B3 : List Nat := [0, 0, 3, 0, 15, 31, 0, 95, 255]
theorem grid_Sides.tab3 : rtab .any (opsOf Try.f22 3) = grid_Sides.T3 := by kernel_rfl
theorem grid_Sides.bits3 : waitsOk grid_Sides.T3.2 grid_Sides.B3 = true := by kernel_rfl
def grid_Sides.T4 : Bool × List (List Nat × List Nat) := (true, [([], []), ([0], [0]), ([1], [1]), ([], []), ([2, 3], [2, 3]), ([], []), ([5], [5]), ([6], [6]), ([], []), ([7, 8], [7, 8]), ([4, 9], [4, 9]), ([], []), ([11], [11]), ([12], [12]), ([], []), ([13, 14], [13, 14]), ([], []), ([16], [16]), ([17], [17]), ([], []), ([18, 19], [18, 19]), ([15, 20], [15, 20]), ([10, 0, 1, 2, 3, 4, 5, 6, 7, 8, 9, 10], [10]), ([21, 22, 0, 1, 2, 3, 4, 5, 6, 7, 8, 9, 10, 11, 12, 13, 14, 15, 16, 17, 18, 19, 20, 21, 22], [21])])
def grid_Sides.B4 : List Nat := [0, 1, 3, 0, 15, 0, 32, 96, 0, 480, 1023, 0, 2048, 6144, 0, 30720, 0, 65536, 196608, 0, 983040, 2095104, 2047, 8388607]
theorem grid_Sides.tab4 : rtab .any (opsOf Try.f22 4) = grid_Sides.T4 := by kernel_rfl
theorem grid_Sides.bits4 : waitsOk grid_Sides.T4.2 grid_Sides.B4 = true := by kernel_rfl
set_option maxHeartbeats 8000000 in
set_option maxRecDepth 100000 in
theorem grid_Sides.calls (a0_0 : Int) (a0_1 : Int) (a1 : Int) (r1 : Int) (r2 : Int) (r3 : Int) (r4 : Int) (w : World) (h : grid_Sides.f a0_0 a0_1 a1 = some (r1, r2, r3, r4)) :
    Calls Try.prog 22 #[.agg #[.int .i64 a0_0, .int .i64 a0_1], .int .i64 a1] w fun e w' => e = .returned (.tuple #[.agg #[.int .i64 r1, .int .i64 r2], .agg #[.int .i64 r3, .int .i64 r4]]) ∧ Below w.heap.size w w' := by
  have hu30 := Try.underlying30
  have hu23 := Try.underlying23
  have HB := A_ (Below.refl w.heap.size w)
  have H : ((grid_In.f a0_0 a0_1 a1).bind fun t104 => (if t104 = true then ((grid_Center.f a0_0 a0_1 a1).bind fun bt105 => ((grid_rung.f a1).bind fun t107 => (if 0 ≤ t107 then (some (wrap64 ((wrap64 (2 * bt105.1)) - (shl .i64 1 t107)), wrap64 ((wrap64 (2 * bt105.2)) - (shl .i64 1 t107)), wrap64 ((wrap64 (2 * bt105.1)) + (shl .i64 1 t107)), wrap64 ((wrap64 (2 * bt105.2)) + (shl .i64 1 t107)))) else (none)))) else (some (0, 0, 0, 0)))) = some (r1, r2, r3, r4) := h
  clear h
  replace H := Option.bind_eq_some_iff.mp H
  obtain ⟨t104, A30, H⟩ := H
  replace H : (if t104 = true then ((grid_Center.f a0_0 a0_1 a1).bind fun bt105 => ((grid_rung.f a1).bind fun t107 => (if 0 ≤ t107 then (some (wrap64 ((wrap64 (2 * bt105.1)) - (shl .i64 1 t107)), wrap64 ((wrap64 (2 * bt105.2)) - (shl .i64 1 t107)), wrap64 ((wrap64 (2 * bt105.1)) + (shl .i64 1 t107)), wrap64 ((wrap64 (2 * bt105.2)) + (shl .i64 1 t107)))) else (none)))) else (some (0, 0, 0, 0))) = some (r1, r2, r3, r4) := H
  have A3 := A_ A30
  clear A30
  by_cases c4 : t104 = true
  · subst c4
    have H1 : ((grid_Center.f a0_0 a0_1 a1).bind fun bt105 => ((grid_rung.f a1).bind fun t107 => (if 0 ≤ t107 then (some (wrap64 ((wrap64 (2 * bt105.1)) - (shl .i64 1 t107)), wrap64 ((wrap64 (2 * bt105.2)) - (shl .i64 1 t107)), wrap64 ((wrap64 (2 * bt105.1)) + (shl .i64 1 t107)), wrap64 ((wrap64 (2 * bt105.2)) + (shl .i64 1 t107)))) else (none)))) = some (r1, r2, r3, r4) := by rw [if_pos rfl] at H; exact H
    clear H
    have H := H1
    clear H1
    replace H := Option.bind_eq_some_iff.mp H
    obtain ⟨⟨t105, t106⟩, A50, H⟩ := H
    replace H : ((grid_rung.f a1).bind fun t107 => (if 0 ≤ t107 then (some (wrap64 ((wrap64 (2 * t105)) - (shl .i64 1 t107)), wrap64 ((wrap64 (2 * t106)) - (shl .i64 1 t107)), wrap64 ((wrap64 (2 * t105)) + (shl .i64 1 t107)), wrap64 ((wrap64 (2 * t106)) + (shl .i64 1 t107)))) else (none))) = some (r1, r2, r3, r4) := H
    have A5 := A_ A50
    clear A50
    replace H := Option.bind_eq_some_iff.mp H
    obtain ⟨t107, A60, H⟩ := H
    replace H : (if 0 ≤ t107 then (some (wrap64 ((wrap64 (2 * t105)) - (shl .i64 1 t107)), wrap64 ((wrap64 (2 * t106)) - (shl .i64 1 t107)), wrap64 ((wrap64 (2 * t105)) + (shl .i64 1 t107)), wrap64 ((wrap64 (2 * t106)) + (shl .i64 1 t107)))) else (none)) = some (r1, r2, r3, r4) := H
    have A6 := A_ A60
    clear A60
    by_cases c7 : 0 ≤ t107
    · rw [if_pos c7] at H
      have c7b0 := eq_true c7
      have c7b1 : decide (0 ≤ t107) = true := decide_eq_true c7
      clear c7
      obtain ⟨ji8, hji8⟩ : ∃ j_ : Int, (shl .i64 1 t107) = j_ := ⟨_, rfl⟩
      replace H : (some (wrap64 ((wrap64 (2 * t105)) - (ji8)), wrap64 ((wrap64 (2 * t106)) - (ji8)), wrap64 ((wrap64 (2 * t105)) + (ji8)), wrap64 ((wrap64 (2 * t106)) + (ji8)))) = some (r1, r2, r3, r4) := by first | (rw [hji8] at H; exact H) | (simp only [hji8] at H ⊢; exact H)
      (try rw [hji8] at A3)
      (try rw [hji8] at A5)
      (try rw [hji8] at A6)
      have hji8_ : (IntKind.i64.wrap (1 * 2 ^ min t107.toNat 64)) = ji8 := hji8
      have hji8z : t107 ≤ 64 → (IntKind.i64.wrap (1 * 2 ^ t107.toNat)) = ji8 := shl_small hji8
      have hji8u : (IntKind.i64.wrap (2 ^ min t107.toNat 64)) = ji8 := by have h_ := hji8_; rw [Int.one_mul] at h_; exact h_
      have hji8v : t107 ≤ 64 → (IntKind.i64.wrap (2 ^ t107.toNat)) = ji8 := fun hle_ => by have h_ := hji8z hle_; rw [Int.one_mul] at h_; exact h_
      have hji8y : (wrap64 (1 * 2 ^ min t107.toNat 64)) = ji8 := (i64_w _).symm.trans hji8_
      have hji8x : t107 ≤ 64 → (wrap64 (1 * 2 ^ t107.toNat)) = ji8 := fun h_ => (i64_w _).symm.trans (hji8z h_)
      simp only [Option.some.injEq, Prod.mk.injEq] at H
      obtain ⟨rfl, rfl, rfl, rfl⟩ := H
      go_enter Try.func22, Try.ntmps22
      try go_wp2_with (first | ((with_reducible refine gate_dst (N := 2) rfl ?_); refine boxeq_ 2 #[.int .i64 a0_0, .int .i64 a0_1] 30 ?_; intro gb101 hg w9 hbox hb; have BK101 := A_ (hbox); have GW101 := ge_ HB hg; replace HB := st_ HB hb; have GE101 := GW101; clear hb hbox hg) | ((with_reducible refine gate_dst (N := 4) rfl ?_); refine boxeq_ 4 #[.int .i64 0, .int .i64 0] 23 ?_; intro gb102 hg w10 hbox hb; have BK102 := A_ (hbox); have GW102 := ge_ HB hg; replace HB := st_ HB hb; have GE102 := GW102; have NB101_102 := ne_ BK101 hg; replace BK101 := bb_ BK101 hb; have NB102_101 := A_ NB101_102.out.symm; clear hb hbox hg) | ((with_reducible refine gate_dst (N := 5) rfl ?_); refine boxeq_ 5 #[.int .i64 0, .int .i64 0] 23 ?_; intro gb103 hg w11 hbox hb; have BK103 := A_ (hbox); have GW103 := ge_ HB hg; replace HB := st_ HB hb; have GE103 := GW103; have NB101_103 := ne_ BK101 hg; replace BK101 := bb_ BK101 hb; have NB103_101 := A_ NB101_103.out.symm; have NB102_103 := ne_ BK102 hg; replace BK102 := bb_ BK102 hb; have NB103_102 := A_ NB102_103.out.symm; clear hb hbox hg; have hnb12 := NB101_102.out; have hnc12 := NB102_101.out; have hnb13 := NB101_103.out; have hnc13 := NB103_101.out; have hcz14_0 : w11.cell? ⟨gb101, 0, none⟩ = some (.int .i64 a0_0) := (blk_cell BK101.out 0).trans rfl; have hcz14_1 : w11.cell? ⟨gb101, 1, none⟩ = some (.int .i64 a0_1) := (blk_cell BK101.out 1).trans rfl; have hfz14_0 := blk_frozen BK101.out 0; have hfz14_1 := blk_frozen BK101.out 1) | ((with_reducible refine gate_callee (f := 20) rfl ?_); refine goesLq_ 10 rfl Try.func20 #[.agg #[.int .i64 a0_0, .int .i64 a0_1], .int .i64 a1] ?_; (with_reducible refine (grid_In.calls a0_0 a0_1 a1 true _ A3.out).mono ?_); rintro e w15 ⟨rfl, hb⟩; refine ⟨_, rfl, ?_⟩; replace BK101 := bb_ BK101 hb; replace BK102 := bb_ BK102 hb; replace BK103 := bb_ BK103 hb; replace HB := st_ HB hb; (try clear hb); (try clear hb2); (try clear hk); (try clear hi)))
      replace BK101 := A_ (blk_drew BK101.out)
      replace BK102 := A_ (blk_drew BK102.out)
      replace BK103 := A_ (blk_drew BK103.out)
      replace HB := A_ (below_drew1 HB.out)
      refine start_ (n := 9) (S := fun w' => w'.cell? ⟨gb101, 0, none⟩ = some (.int .i64 a0_0) ∧ w'.cell? ⟨gb101, 1, none⟩ = some (.int .i64 a0_1)) (ds := []) (Array.replicate 9 false) (by kernel_rfl) rfl rfl ⟨(blk_cell BK101.out 0).trans rfl, (blk_cell BK101.out 1).trans rfl⟩ (fun hHeld => ?_); refine with_tabW grid_Sides.tab3 grid_Sides.bits3 (fun HT_ HW_ => ?_)
      generalize w15.drew = w16 at BK101 BK102 BK103 HB hHeld ⊢
      refine pureq_ 1 15 HT_ ?_
      refine pureq_ 3 17 HT_ ?_
      refine takeq_ 0 14 HT_ HW_ hHeld ?_
      refine join_ (σ := Nat) 2 (bb 9 127) (fun s_ => [(16, .agg #[.int .i64 t105, .int .i64 t106]), (18, .int .i64 t107), (6, .pointer (some ⟨s_, 0, none⟩)), (19, .int .i64 ji8)]) (fun s_ w' => (w'.cell? ⟨gb101, 0, none⟩ = some (.int .i64 a0_0) ∧ w'.cell? ⟨gb101, 1, none⟩ = some (.int .i64 a0_1)) ∧ (w'.heap[gb101]? = some (.cells #[.int .i64 a0_0, .int .i64 a0_1] 30 (0, 0))) ∧ (w'.heap[gb102]? = some (.cells #[.int .i64 0, .int .i64 0] 23 (0, 0))) ∧ (w'.heap[gb103]? = some (.cells #[.int .i64 0, .int .i64 0] 23 (0, 0))) ∧ (w'.heap[s_]? = some (.cells #[.int .i64 0, .int .i64 0] 23 (0, 0))) ∧ (w.heap.size ≤ s_) ∧ (w.heap.size ≤ s_) ∧ (gb101 ≠ s_) ∧ (s_ ≠ gb101) ∧ (gb102 ≠ s_) ∧ (s_ ≠ gb102) ∧ (gb103 ≠ s_) ∧ (s_ ≠ gb103) ∧ (Below w.heap.size w w')) ?_ ?_
      rotate_left
      · intro hCont
        refine twoq_ 2 6 (some 16) (some 6) HT_ (fun K hK => ?_) (fun K hK => ?_)
        · skip
          refine goesq_ Try.func40 #[.agg #[.int .i64 a0_0, .int .i64 a0_1], .int .i64 a1] ?_
          with_reducible refine (grid_Center.calls a0_0 a0_1 a1 t105 t106 _ A5.out).mono ?_
          rintro e w17 ⟨rfl, hb⟩
          refine ⟨_, rfl, ?_⟩
          replace BK101 := bb_ BK101 hb
          replace BK102 := bb_ BK102 hb
          replace BK103 := bb_ BK103 hb
          replace HB := st_ HB hb
          try clear hb
          refine hK.out _ _ ⟨(blk_cell BK101.out 0).trans rfl, (blk_cell BK101.out 1).trans rfl⟩ (fun hHeld => ?_)
          clear hK K
          refine normq_ 16 ?_
          refine twoq_ 4 6 (some 18) (some 6) HT_ (fun K hK => ?_) (fun K hK => ?_)
          · skip
            refine goesq_ Try.func38 #[.int .i64 a1] ?_
            with_reducible refine (grid_rung.calls a1 t107 _ A6.out).mono ?_
            rintro e w18 ⟨rfl, hb⟩
            refine ⟨_, rfl, ?_⟩
            replace BK101 := bb_ BK101 hb
            replace BK102 := bb_ BK102 hb
            replace BK103 := bb_ BK103 hb
            replace HB := st_ HB hb
            try clear hb
            refine hK.out _ _ ⟨(blk_cell BK101.out 0).trans rfl, (blk_cell BK101.out 1).trans rfl⟩ (fun hHeld => ?_)
            clear hK K
            refine normq_ 18 ?_
            refine pureq_ 5 19 HT_ ?_
            refine oneq_ 6 (some 6) HT_ (fun K hK => ?_)
            refine boxsq_ 6 #[.int .i64 0, .int .i64 0] 23 ?_
            intro gb108 hg w19 hbox hb
            have BK108 := A_ (hbox)
            have GW108 := ge_ HB hg
            replace HB := st_ HB hb
            have GE108 := GW108
            have NB101_108 := ne_ BK101 hg
            replace BK101 := bb_ BK101 hb
            have NB108_101 := A_ NB101_108.out.symm
            have NB102_108 := ne_ BK102 hg
            replace BK102 := bb_ BK102 hb
            have NB108_102 := A_ NB102_108.out.symm
            have NB103_108 := ne_ BK103 hg
            replace BK103 := bb_ BK103 hb
            have NB108_103 := A_ NB103_108.out.symm
            clear hb hbox hg
            refine hK.out _ _ ⟨(blk_cell BK101.out 0).trans rfl, (blk_cell BK101.out 1).trans rfl⟩ (fun hHeld => ?_)
            clear hK K
            refine normq_ 6 ?_
            exact normp_ (hCont (gb108) _ ⟨hHeld, (b_ BK101), (b_ BK102), (b_ BK103), (b_ BK108), GW108.out, GE108.out, NB101_108.out, NB108_101.out, NB102_108.out, NB108_102.out, NB103_108.out, NB108_103.out, (l_ HB)⟩)
          · skip
            refine boxsq_ 6 #[.int .i64 0, .int .i64 0] 23 ?_
            intro gb108 hg w18 hbox hb
            have BK108 := A_ (hbox)
            have GW108 := ge_ HB hg
            replace HB := st_ HB hb
            have GE108 := GW108
            have NB101_108 := ne_ BK101 hg
            replace BK101 := bb_ BK101 hb
            have NB108_101 := A_ NB101_108.out.symm
            have NB102_108 := ne_ BK102 hg
            replace BK102 := bb_ BK102 hb
            have NB108_102 := A_ NB102_108.out.symm
            have NB103_108 := ne_ BK103 hg
            replace BK103 := bb_ BK103 hb
            have NB108_103 := A_ NB103_108.out.symm
            clear hb hbox hg
            refine hK.out _ _ ⟨(blk_cell BK101.out 0).trans rfl, (blk_cell BK101.out 1).trans rfl⟩ (fun hHeld => ?_)
            clear hK K
            refine normq_ 6 ?_
            refine oneq_ 4 (some 18) HT_ (fun K hK => ?_)
            refine goesq_ Try.func38 #[.int .i64 a1] ?_
            with_reducible refine (grid_rung.calls a1 t107 _ A6.out).mono ?_
            rintro e w19 ⟨rfl, hb⟩
            refine ⟨_, rfl, ?_⟩
            replace BK101 := bb_ BK101 hb
            replace BK102 := bb_ BK102 hb
            replace BK103 := bb_ BK103 hb
            replace BK108 := bb_ BK108 hb
            replace HB := st_ HB hb
            try clear hb
            refine hK.out _ _ ⟨(blk_cell BK101.out 0).trans rfl, (blk_cell BK101.out 1).trans rfl⟩ (fun hHeld => ?_)
            clear hK K
            refine normq_ 18 ?_
            refine pureq_ 5 19 HT_ ?_
            exact normp_ (hCont (gb108) _ ⟨hHeld, (b_ BK101), (b_ BK102), (b_ BK103), (b_ BK108), GW108.out, GE108.out, NB101_108.out, NB108_101.out, NB102_108.out, NB108_102.out, NB103_108.out, NB108_103.out, (l_ HB)⟩)
        · skip
          refine boxsq_ 6 #[.int .i64 0, .int .i64 0] 23 ?_
          intro gb108 hg w17 hbox hb
          have BK108 := A_ (hbox)
          have GW108 := ge_ HB hg
          replace HB := st_ HB hb
          have GE108 := GW108
          have NB101_108 := ne_ BK101 hg
          replace BK101 := bb_ BK101 hb
          have NB108_101 := A_ NB101_108.out.symm
          have NB102_108 := ne_ BK102 hg
          replace BK102 := bb_ BK102 hb
          have NB108_102 := A_ NB102_108.out.symm
          have NB103_108 := ne_ BK103 hg
          replace BK103 := bb_ BK103 hb
          have NB108_103 := A_ NB103_108.out.symm
          clear hb hbox hg
          refine hK.out _ _ ⟨(blk_cell BK101.out 0).trans rfl, (blk_cell BK101.out 1).trans rfl⟩ (fun hHeld => ?_)
          clear hK K
          refine normq_ 6 ?_
          refine oneq_ 2 (some 16) HT_ (fun K hK => ?_)
          refine goesq_ Try.func40 #[.agg #[.int .i64 a0_0, .int .i64 a0_1], .int .i64 a1] ?_
          with_reducible refine (grid_Center.calls a0_0 a0_1 a1 t105 t106 _ A5.out).mono ?_
          rintro e w18 ⟨rfl, hb⟩
          refine ⟨_, rfl, ?_⟩
          replace BK101 := bb_ BK101 hb
          replace BK102 := bb_ BK102 hb
          replace BK103 := bb_ BK103 hb
          replace BK108 := bb_ BK108 hb
          replace HB := st_ HB hb
          try clear hb
          refine hK.out _ _ ⟨(blk_cell BK101.out 0).trans rfl, (blk_cell BK101.out 1).trans rfl⟩ (fun hHeld => ?_)
          clear hK K
          refine normq_ 16 ?_
          refine oneq_ 4 (some 18) HT_ (fun K hK => ?_)
          refine goesq_ Try.func38 #[.int .i64 a1] ?_
          with_reducible refine (grid_rung.calls a1 t107 _ A6.out).mono ?_
          rintro e w19 ⟨rfl, hb⟩
          refine ⟨_, rfl, ?_⟩
          replace BK101 := bb_ BK101 hb
          replace BK102 := bb_ BK102 hb
          replace BK103 := bb_ BK103 hb
          replace BK108 := bb_ BK108 hb
          replace HB := st_ HB hb
          try clear hb
          refine hK.out _ _ ⟨(blk_cell BK101.out 0).trans rfl, (blk_cell BK101.out 1).trans rfl⟩ (fun hHeld => ?_)
          clear hK K
          refine normq_ 18 ?_
          refine pureq_ 5 19 HT_ ?_
          exact normp_ (hCont (gb108) _ ⟨hHeld, (b_ BK101), (b_ BK102), (b_ BK103), (b_ BK108), GW108.out, GE108.out, NB101_108.out, NB108_101.out, NB102_108.out, NB108_102.out, NB103_108.out, NB108_103.out, (l_ HB)⟩)
      rintro gb108 w20 ⟨hS_, h0_, h1_, h2_, h3_, h4_, h5_, h6_, h7_, h8_, h9_, h10_, h11_, h12_⟩
      have n0_ : Aside0 (w20.heap[gb101]? = some (.cells #[.int .i64 a0_0, .int .i64 a0_1] 30 (0, 0))) := ⟨h0_⟩
      have n1_ : Aside0 (w20.heap[gb102]? = some (.cells #[.int .i64 0, .int .i64 0] 23 (0, 0))) := ⟨h1_⟩
      have n2_ : Aside0 (w20.heap[gb103]? = some (.cells #[.int .i64 0, .int .i64 0] 23 (0, 0))) := ⟨h2_⟩
      have n3_ : Aside0 (w20.heap[gb108]? = some (.cells #[.int .i64 0, .int .i64 0] 23 (0, 0))) := ⟨h3_⟩
      have n4_ : Aside0 (w.heap.size ≤ gb108) := ⟨h4_⟩
      have n5_ : Aside0 (w.heap.size ≤ gb108) := ⟨h5_⟩
      have n6_ : Aside0 (gb101 ≠ gb108) := ⟨h6_⟩
      have n7_ : Aside0 (gb108 ≠ gb101) := ⟨h7_⟩
      have n8_ : Aside0 (gb102 ≠ gb108) := ⟨h8_⟩
      have n9_ : Aside0 (gb108 ≠ gb102) := ⟨h9_⟩
      have n10_ : Aside0 (gb103 ≠ gb108) := ⟨h10_⟩
      have n11_ : Aside0 (gb108 ≠ gb103) := ⟨h11_⟩
      have n12_ : Aside0 (Below w.heap.size w w20) := ⟨h12_⟩
      clear BK101 BK102 BK103 HB h0_ h1_ h2_ h3_ h4_ h5_ h6_ h7_ h8_ h9_ h10_ h11_ h12_
      have BK101 := n0_
      have BK102 := n1_
      have BK103 := n2_
      have BK108 := n3_
      have GW108 := n4_
      have GE108 := n5_
      have NB101_108 := n6_
      have NB108_101 := n7_
      have NB102_108 := n8_
      have NB108_102 := n9_
      have NB103_108 := n10_
      have NB108_103 := n11_
      have HB := n12_
      clear n0_ n1_ n2_ n3_ n4_ n5_ n6_ n7_ n8_ n9_ n10_ n11_ n12_
      have hHeld : w20.cell? ⟨gb101, 0, none⟩ = some (.int .i64 a0_0) ∧ w20.cell? ⟨gb101, 1, none⟩ = some (.int .i64 a0_1) := hS_
      refine norm_ (a' := ?_) ?_ ?_
      rotate_left
      · simp only [putAll, Act.put, List.setIfInBounds_toArray, List.set_cons_zero, List.set_cons_succ]
        rfl
      refine oneq_ 7 none HT_ (fun K hK => ?_)
      have hs21 : w20.cell? ⟨gb108, 0, none⟩ = some (.int .i64 0) := (blk_cell BK108.out 0).trans rfl
      have hfs21 := blk_frozen BK108.out 0
      have hns21_0 := NB101_108.out
      have hns21_1 := NB102_108.out
      have hns21_2 := NB103_108.out
      have hms21_0 := NB108_101.out
      have hms21_1 := NB108_102.out
      have hms21_2 := NB108_103.out
      have hs22 : w20.cell? ⟨gb108, 1, none⟩ = some (.int .i64 0) := (blk_cell BK108.out 1).trans rfl
      have hfs22 := blk_frozen BK108.out 1
      have hns22_0 := NB101_108.out
      have hns22_1 := NB102_108.out
      have hns22_2 := NB103_108.out
      have hms22_0 := NB108_101.out
      have hms22_1 := NB108_102.out
      have hms22_2 := NB108_103.out
      refine skip_ (w1 := ?_) (by rfl) rfl ?_ ?_
      rotate_left
      · go_simp
        rfl
      refine hK.out _ _ ⟨((cell_far (p := ⟨gb108, _, none⟩) NB101_108.out _).trans (((cell_far (p := ⟨gb108, _, none⟩) NB101_108.out _).trans (hHeld.1)))), ((cell_far (p := ⟨gb108, _, none⟩) NB101_108.out _).trans (((cell_far (p := ⟨gb108, _, none⟩) NB101_108.out _).trans (hHeld.2))))⟩ (fun hHeld => ?_)
      clear hK K
      refine pureq_ 8 7 HT_ ?_
      refine done_ (done_of HT_.out (by kernel_rfl)) ?_
      try go_wp2
      have n0_ : Aside0 (((w20.setCell ⟨gb108, 0, none⟩ (.int .i64 t105)).setCell ⟨gb108, 1, none⟩ (.int .i64 t106)).heap[gb101]? = some (.cells #[.int .i64 a0_0, .int .i64 a0_1] 30 (0, 0))) := ⟨by (with_reducible repeat (first | refine blk_drewN ?_ _ | refine blk_drew ?_ | refine blk_alloc ?_ _)); refine blk_far ?_ NB101_108.out _; (with_reducible repeat (first | refine blk_drewN ?_ _ | refine blk_drew ?_ | refine blk_alloc ?_ _)); refine blk_far ?_ NB101_108.out _; (with_reducible repeat (first | refine blk_drewN ?_ _ | refine blk_drew ?_ | refine blk_alloc ?_ _)); exact BK101.out⟩
      have n1_ : Aside0 (((w20.setCell ⟨gb108, 0, none⟩ (.int .i64 t105)).setCell ⟨gb108, 1, none⟩ (.int .i64 t106)).heap[gb102]? = some (.cells #[.int .i64 0, .int .i64 0] 23 (0, 0))) := ⟨by (with_reducible repeat (first | refine blk_drewN ?_ _ | refine blk_drew ?_ | refine blk_alloc ?_ _)); refine blk_far ?_ NB102_108.out _; (with_reducible repeat (first | refine blk_drewN ?_ _ | refine blk_drew ?_ | refine blk_alloc ?_ _)); refine blk_far ?_ NB102_108.out _; (with_reducible repeat (first | refine blk_drewN ?_ _ | refine blk_drew ?_ | refine blk_alloc ?_ _)); exact BK102.out⟩
      have n2_ : Aside0 (((w20.setCell ⟨gb108, 0, none⟩ (.int .i64 t105)).setCell ⟨gb108, 1, none⟩ (.int .i64 t106)).heap[gb103]? = some (.cells #[.int .i64 0, .int .i64 0] 23 (0, 0))) := ⟨by (with_reducible repeat (first | refine blk_drewN ?_ _ | refine blk_drew ?_ | refine blk_alloc ?_ _)); refine blk_far ?_ NB103_108.out _; (with_reducible repeat (first | refine blk_drewN ?_ _ | refine blk_drew ?_ | refine blk_alloc ?_ _)); refine blk_far ?_ NB103_108.out _; (with_reducible repeat (first | refine blk_drewN ?_ _ | refine blk_drew ?_ | refine blk_alloc ?_ _)); exact BK103.out⟩
      have n3_ : Aside0 (((w20.setCell ⟨gb108, 0, none⟩ (.int .i64 t105)).setCell ⟨gb108, 1, none⟩ (.int .i64 t106)).heap[gb108]? = some (.cells #[.int .i64 t105, .int .i64 t106] 23 (0, 0))) := ⟨by (with_reducible repeat (first | refine blk_drewN ?_ _ | refine blk_drew ?_ | refine blk_alloc ?_ _)); refine blk_put (cs := #[.int .i64 t105, .int .i64 0]) ?_ 1 _ rfl; (with_reducible repeat (first | refine blk_drewN ?_ _ | refine blk_drew ?_ | refine blk_alloc ?_ _)); refine blk_put (cs := #[.int .i64 0, .int .i64 0]) ?_ 0 _ rfl; (with_reducible repeat (first | refine blk_drewN ?_ _ | refine blk_drew ?_ | refine blk_alloc ?_ _)); exact BK108.out⟩
      have n4_ : Aside0 (Below w.heap.size w ((w20.setCell ⟨gb108, 0, none⟩ (.int .i64 t105)).setCell ⟨gb108, 1, none⟩ (.int .i64 t106))) := ⟨l_ HB⟩
      generalize ((w20.setCell ⟨gb108, 0, none⟩ (.int .i64 t105)).setCell ⟨gb108, 1, none⟩ (.int .i64 t106)) = w23 at n0_ n1_ n2_ n3_ n4_ ⊢
      have BK101 := n0_
      have BK102 := n1_
      have BK103 := n2_
      have BK108 := n3_
      have HB := n4_
      clear n0_ n1_ n2_ n3_ n4_
      replace BK101 := A_ (blk_drew BK101.out)
      replace BK102 := A_ (blk_drew BK102.out)
      replace BK103 := A_ (blk_drew BK103.out)
      replace BK108 := A_ (blk_drew BK108.out)
      replace HB := A_ (below_drew1 HB.out)
      refine start_ (n := 24) (S := fun w' => w'.cell? ⟨gb108, 0, none⟩ = some (.int .i64 t105) ∧ w'.cell? ⟨gb108, 1, none⟩ = some (.int .i64 t106)) (ds := []) (Array.replicate 24 false) (by kernel_rfl) rfl rfl ⟨(blk_cell BK108.out 0).trans rfl, (blk_cell BK108.out 1).trans rfl⟩ (fun hHeld => ?_); refine with_tabW grid_Sides.tab4 grid_Sides.bits4 (fun HT_ HW_ => ?_)
      generalize w23.drew = w24 at BK101 BK102 BK103 BK108 HB hHeld ⊢
      refine pureq_ 0 20 HT_ ?_
      refine pureq_ 3 23 HT_ ?_
      refine pureq_ 5 25 HT_ ?_
      refine pureq_ 8 28 HT_ ?_
      refine pureq_ 11 31 HT_ ?_
      refine pureq_ 14 34 HT_ ?_
      refine pureq_ 16 36 HT_ ?_
      refine pureq_ 19 39 HT_ ?_
      refine takeq_ 1 21 HT_ HW_ hHeld ?_
      refine pureq_ 2 22 HT_ ?_
      refine pureq_ 4 24 HT_ ?_
      refine takeq_ 6 26 HT_ HW_ hHeld ?_
      refine pureq_ 7 27 HT_ ?_
      refine pureq_ 9 29 HT_ ?_
      refine pureq_ 10 30 HT_ ?_
      refine takeq_ 12 32 HT_ HW_ hHeld ?_
      refine pureq_ 13 33 HT_ ?_
      refine pureq_ 15 35 HT_ ?_
      refine takeq_ 17 37 HT_ HW_ hHeld ?_
      refine pureq_ 18 38 HT_ ?_
      refine pureq_ 20 40 HT_ ?_
      refine pureq_ 21 41 HT_ ?_
      refine oneq_ 22 none HT_ (fun K hK => ?_)
      have hs25 : w24.cell? ⟨gb102, 0, none⟩ = some (.int .i64 0) := (blk_cell BK102.out 0).trans rfl
      have hfs25 := blk_frozen BK102.out 0
      have hns25_0 := NB101_102.out
      have hns25_2 := NB103_102.out
      have hns25_3 := NB108_102.out
      have hms25_0 := NB102_101.out
      have hms25_2 := NB102_103.out
      have hms25_3 := NB102_108.out
      have hs26 : w24.cell? ⟨gb102, 1, none⟩ = some (.int .i64 0) := (blk_cell BK102.out 1).trans rfl
      have hfs26 := blk_frozen BK102.out 1
      have hns26_0 := NB101_102.out
      have hns26_2 := NB103_102.out
      have hns26_3 := NB108_102.out
      have hms26_0 := NB102_101.out
      have hms26_2 := NB102_103.out
      have hms26_3 := NB102_108.out
      refine skip_ (w1 := ?_) (by rfl) rfl ?_ ?_
      rotate_left
      · go_simp
        rfl
      refine hK.out _ _ ⟨((cell_far (p := ⟨gb102, _, none⟩) NB108_102.out _).trans (((cell_far (p := ⟨gb102, _, none⟩) NB108_102.out _).trans (hHeld.1)))), ((cell_far (p := ⟨gb102, _, none⟩) NB108_102.out _).trans (((cell_far (p := ⟨gb102, _, none⟩) NB108_102.out _).trans (hHeld.2))))⟩ (fun hHeld => ?_)
      clear hK K
      refine oneq_ 23 none HT_ (fun K hK => ?_)
      have hs27 : w24.cell? ⟨gb103, 0, none⟩ = some (.int .i64 0) := (blk_cell BK103.out 0).trans rfl
      have hfs27 := blk_frozen BK103.out 0
      have hns27_0 := NB101_103.out
      have hns27_1 := NB102_103.out
      have hns27_3 := NB108_103.out
      have hms27_0 := NB103_101.out
      have hms27_1 := NB103_102.out
      have hms27_3 := NB103_108.out
      have hs28 : w24.cell? ⟨gb103, 1, none⟩ = some (.int .i64 0) := (blk_cell BK103.out 1).trans rfl
      have hfs28 := blk_frozen BK103.out 1
      have hns28_0 := NB101_103.out
      have hns28_1 := NB102_103.out
      have hns28_3 := NB108_103.out
      have hms28_0 := NB103_101.out
      have hms28_1 := NB103_102.out
      have hms28_3 := NB103_108.out
      refine skip_ (w1 := ?_) (by rfl) rfl ?_ ?_
      rotate_left
      · go_simp
        rfl
      refine hK.out _ _ ⟨((cell_far (p := ⟨gb103, _, none⟩) NB108_103.out _).trans (((cell_far (p := ⟨gb103, _, none⟩) NB108_103.out _).trans (hHeld.1)))), ((cell_far (p := ⟨gb103, _, none⟩) NB108_103.out _).trans (((cell_far (p := ⟨gb103, _, none⟩) NB108_103.out _).trans (hHeld.2))))⟩ (fun hHeld => ?_)
      clear hK K
      refine done_ (done_of HT_.out (by kernel_rfl)) ?_
      try go_wp2
      refine bodyPost_ret (results_cc rfl _ _ gb102 gb103 23 23 #[.int .i64 (wrap64 ((wrap64 (2 * t105)) - (ji8))), .int .i64 (wrap64 ((wrap64 (2 * t106)) - (ji8)))] #[.int .i64 (wrap64 ((wrap64 (2 * t105)) + (ji8))), .int .i64 (wrap64 ((wrap64 (2 * t106)) + (ji8)))] (0, 0) (0, 0) _ _ rfl (by (with_reducible repeat (first | refine blk_drewN ?_ _ | refine blk_drew ?_ | refine blk_alloc ?_ _)); refine blk_far ?_ NB102_103.out _; (with_reducible repeat (first | refine blk_drewN ?_ _ | refine blk_drew ?_ | refine blk_alloc ?_ _)); refine blk_far ?_ NB102_103.out _; (with_reducible repeat (first | refine blk_drewN ?_ _ | refine blk_drew ?_ | refine blk_alloc ?_ _)); refine blk_put (cs := #[.int .i64 (wrap64 ((wrap64 (2 * t105)) - (ji8))), .int .i64 0]) ?_ 1 _ rfl; (with_reducible repeat (first | refine blk_drewN ?_ _ | refine blk_drew ?_ | refine blk_alloc ?_ _)); refine blk_put (cs := #[.int .i64 0, .int .i64 0]) ?_ 0 _ rfl; (with_reducible repeat (first | refine blk_drewN ?_ _ | refine blk_drew ?_ | refine blk_alloc ?_ _)); exact BK102.out) Try.underlying23 rfl (by kernel_rfl) rfl (by (with_reducible repeat (first | refine blk_drewN ?_ _ | refine blk_drew ?_ | refine blk_alloc ?_ _)); refine blk_put (cs := #[.int .i64 (wrap64 ((wrap64 (2 * t105)) + (ji8))), .int .i64 0]) ?_ 1 _ rfl; (with_reducible repeat (first | refine blk_drewN ?_ _ | refine blk_drew ?_ | refine blk_alloc ?_ _)); refine blk_put (cs := #[.int .i64 0, .int .i64 0]) ?_ 0 _ rfl; (with_reducible repeat (first | refine blk_drewN ?_ _ | refine blk_drew ?_ | refine blk_alloc ?_ _)); refine blk_far ?_ NB103_102.out _; (with_reducible repeat (first | refine blk_drewN ?_ _ | refine blk_drew ?_ | refine blk_alloc ?_ _)); refine blk_far ?_ NB103_102.out _; (with_reducible repeat (first | refine blk_drewN ?_ _ | refine blk_drew ?_ | refine blk_alloc ?_ _)); exact BK103.out) Try.underlying23 rfl (by kernel_rfl)) rfl ?_
      exact ⟨by first | rfl | (simp [errW_none, errW_some] <;> rfl) | (simp only [← hji8]; first | rfl | (simp [errW_none, errW_some] <;> rfl)) | (simp [*, errW_none, errW_some] <;> rfl), l_ HB⟩
    · rw [if_neg c7] at H
      exact absurd H (by simp)
  · replace c4 := Bool.eq_false_iff.mpr c4
    subst c4
    have H1 : (some (0, 0, 0, 0)) = some (r1, r2, r3, r4) := by rw [if_neg (show ¬ (false = true) by decide)] at H; exact H
    clear H
    have H := H1
    clear H1
    simp only [Option.some.injEq, Prod.mk.injEq] at H
    obtain ⟨rfl, rfl, rfl, rfl⟩ := H
    go_enter Try.func22, Try.ntmps22
    go_wp2_with (first | ((with_reducible refine gate_dst (N := 2) rfl ?_); refine boxeq_ 2 #[.int .i64 a0_0, .int .i64 a0_1] 30 ?_; intro gb101 hg w29 hbox hb; have BK101 := A_ (hbox); have GW101 := ge_ HB hg; replace HB := st_ HB hb; have GE101 := GW101; clear hb hbox hg) | ((with_reducible refine gate_dst (N := 4) rfl ?_); refine boxeq_ 4 #[.int .i64 0, .int .i64 0] 23 ?_; intro gb102 hg w30 hbox hb; have BK102 := A_ (hbox); have GW102 := ge_ HB hg; replace HB := st_ HB hb; have GE102 := GW102; have NB101_102 := ne_ BK101 hg; replace BK101 := bb_ BK101 hb; have NB102_101 := A_ NB101_102.out.symm; clear hb hbox hg) | ((with_reducible refine gate_dst (N := 5) rfl ?_); refine boxeq_ 5 #[.int .i64 0, .int .i64 0] 23 ?_; intro gb103 hg w31 hbox hb; have BK103 := A_ (hbox); have GW103 := ge_ HB hg; replace HB := st_ HB hb; have GE103 := GW103; have NB101_103 := ne_ BK101 hg; replace BK101 := bb_ BK101 hb; have NB103_101 := A_ NB101_103.out.symm; have NB102_103 := ne_ BK102 hg; replace BK102 := bb_ BK102 hb; have NB103_102 := A_ NB102_103.out.symm; clear hb hbox hg; have hnb32 := NB101_102.out; have hnc32 := NB102_101.out; have hnb33 := NB101_103.out; have hnc33 := NB103_101.out; have hcz34_0 : w31.cell? ⟨gb101, 0, none⟩ = some (.int .i64 a0_0) := (blk_cell BK101.out 0).trans rfl; have hcz34_1 : w31.cell? ⟨gb101, 1, none⟩ = some (.int .i64 a0_1) := (blk_cell BK101.out 1).trans rfl; have hfz34_0 := blk_frozen BK101.out 0; have hfz34_1 := blk_frozen BK101.out 1) | ((with_reducible refine gate_callee (f := 20) rfl ?_); refine goesLq_ 10 rfl Try.func20 #[.agg #[.int .i64 a0_0, .int .i64 a0_1], .int .i64 a1] ?_; (with_reducible refine (grid_In.calls a0_0 a0_1 a1 false _ A3.out).mono ?_); rintro e w35 ⟨rfl, hb⟩; refine ⟨_, rfl, ?_⟩; replace BK101 := bb_ BK101 hb; replace BK102 := bb_ BK102 hb; replace BK103 := bb_ BK103 hb; replace HB := st_ HB hb; (try clear hb); (try clear hb2); (try clear hk); (try clear hi); have hnb36 := NB102_103.out; have hnc36 := NB103_102.out; have hcz37_0 : w35.cell? ⟨gb102, 0, none⟩ = some (.int .i64 0) := (blk_cell BK102.out 0).trans rfl; have hcz37_1 : w35.cell? ⟨gb102, 1, none⟩ = some (.int .i64 0) := (blk_cell BK102.out 1).trans rfl; have hfz37_0 := blk_frozen BK102.out 0; have hfz37_1 := blk_frozen BK102.out 1; have hcz38_0 : w35.cell? ⟨gb103, 0, none⟩ = some (.int .i64 0) := (blk_cell BK103.out 0).trans rfl; have hcz38_1 : w35.cell? ⟨gb103, 1, none⟩ = some (.int .i64 0) := (blk_cell BK103.out 1).trans rfl; have hfz38_0 := blk_frozen BK103.out 0; have hfz38_1 := blk_frozen BK103.out 1))
    refine bodyPost_ret (results_cc rfl _ _ gb102 gb103 23 23 #[.int .i64 0, .int .i64 0] #[.int .i64 0, .int .i64 0] (0, 0) (0, 0) _ _ rfl (by (with_reducible repeat (first | refine blk_drewN ?_ _ | refine blk_drew ?_ | refine blk_alloc ?_ _)); refine blk_far ?_ NB102_103.out _; (with_reducible repeat (first | refine blk_drewN ?_ _ | refine blk_drew ?_ | refine blk_alloc ?_ _)); refine blk_far ?_ NB102_103.out _; (with_reducible repeat (first | refine blk_drewN ?_ _ | refine blk_drew ?_ | refine blk_alloc ?_ _)); refine blk_put (cs := #[.int .i64 0, .int .i64 0]) ?_ 1 _ rfl; (with_reducible repeat (first | refine blk_drewN ?_ _ | refine blk_drew ?_ | refine blk_alloc ?_ _)); refine blk_put (cs := #[.int .i64 0, .int .i64 0]) ?_ 0 _ rfl; (with_reducible repeat (first | refine blk_drewN ?_ _ | refine blk_drew ?_ | refine blk_alloc ?_ _)); exact BK102.out) Try.underlying23 rfl (by kernel_rfl) rfl (by (with_reducible repeat (first | refine blk_drewN ?_ _ | refine blk_drew ?_ | refine blk_alloc ?_ _)); refine blk_put (cs := #[.int .i64 0, .int .i64 0]) ?_ 1 _ rfl; (with_reducible repeat (first | refine blk_drewN ?_ _ | refine blk_drew ?_ | refine blk_alloc ?_ _)); refine blk_put (cs := #[.int .i64 0, .int .i64 0]) ?_ 0 _ rfl; (with_reducible repeat (first | refine blk_drewN ?_ _ | refine blk_drew ?_ | refine blk_alloc ?_ _)); refine blk_far ?_ NB103_102.out _; (with_reducible repeat (first | refine blk_drewN ?_ _ | refine blk_drew ?_ | refine blk_alloc ?_ _)); refine blk_far ?_ NB103_102.out _; (with_reducible repeat (first | refine blk_drewN ?_ _ | refine blk_drew ?_ | refine blk_alloc ?_ _)); exact BK103.out) Try.underlying23 rfl (by kernel_rfl)) rfl ?_
    exact ⟨by first | rfl | (simp [errW_none, errW_some] <;> rfl) | (simp [*, errW_none, errW_some] <;> rfl), l_ HB⟩

end Go.Proofs.Ytglkjeeiiflpjaa.F
