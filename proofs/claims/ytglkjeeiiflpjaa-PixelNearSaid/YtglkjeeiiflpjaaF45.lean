-- PRINTED by print.py (a twelfth state) out of the translation. Not trusted: Lean checks it.
import Derived.Test.YtglkjeeiiflpjaaF0
import Derived.Test.YtglkjeeiiflpjaaB3
namespace Go.Proofs.Ytglkjeeiiflpjaa.F
open Go.RowKit Go.Proofs.YtglkjeeiiflpjaaW.PrintWords Go.Proofs.YtglkjeeiiflpjaaW.PrintLast Go.Proofs.YtglkjeeiiflpjaaW.PrintMore
attribute [local go_sem] max2_int min2_int max_two min_two max_three min_three max_four min_four   -- for this text's walks alone
set_option linter.unusedVariables false
set_option linter.unusedSimpArgs false

/-! ### cobwebref01_trim: function 45 -/
def cobwebref01_trim.l0 : Nat → List Int → Bool → List Int → Option (Bool × List Int)
  | 0, _, _, _ => none
  | k + 1, x3, x102000, x102001 => if (x3.length : Int) > 0 then (if 0 ≤ (wrap64 ((x3.length : Int) - 1)) then (if (wrap64 ((x3.length : Int) - 1)) < (x3.length : Int) then (if (rd x3 (wrap64 ((x3.length : Int) - 1))) = 0 then (if (wrap64 ((x3.length : Int) - 1)) ≤ (x3.length : Int) then (cobwebref01_trim.l0 k (x3.take ((wrap64 ((x3.length : Int) - 1)) : Int).toNat) x102000 x102001) else (none)) else (if x102000 = true then (some (decide ((x3.length : Int) > 0), x3)) else (some (false, x3)))) else (none)) else (none)) else (if x102000 = true then (some (decide ((x3.length : Int) > 0), x3)) else (some (false, x3)))
def cobwebref01_trim.f (k : Nat) (a0_0 : Bool) (l0_1 : List Int) : Option (Bool × List Int) := cobwebref01_trim.l0 k l0_1 a0_0 l0_1
theorem cobwebref01_trim.mono_l : ∀ k, (∀ y0 y1 y2, LeO (cobwebref01_trim.l0 k y0 y1 y2) (cobwebref01_trim.l0 (k + 1) y0 y1 y2))
  | 0 => fun _ _ _ r h => by simp [cobwebref01_trim.l0] at h
  | k + 1 => by
    have ih0 := cobwebref01_trim.mono_l k
    · intro y0 y1 y2
      unfold cobwebref01_trim.l0
      repeat' first
      | (with_reducible exact ih0 _ _ _)
      | (with_reducible exact LeO.refl _)
      | (with_reducible exact LeO.none _)
      | (with_reducible refine LeO.ite ?_ ?_)
      | (with_reducible refine LeO.bind ?_ (fun _ => ?_))
      | exact ih0 _ _ _
      | exact LeO.none _
      | refine LeO.ite ?_ ?_
      | refine LeO.bind ?_ (fun _ => ?_)
theorem cobwebref01_trim.mono : ∀ a0 a1 k, LeO (cobwebref01_trim.f k a0 a1) (cobwebref01_trim.f (k + 1) a0 a1) := by
  intro a0 a1 k
  have ih0 := cobwebref01_trim.mono_l k
  unfold cobwebref01_trim.f
  repeat' first
      | (with_reducible exact ih0 _ _ _)
      | (with_reducible exact LeO.refl _)
      | (with_reducible exact LeO.none _)
      | (with_reducible refine LeO.ite ?_ ?_)
      | (with_reducible refine LeO.bind ?_ (fun _ => ?_))
      | exact ih0 _ _ _
      | exact LeO.none _
      | refine LeO.ite ?_ ?_
      | refine LeO.bind ?_ (fun _ => ?_)
set_option maxHeartbeats 8000000 in
set_option maxRecDepth 100000 in
theorem cobwebref01_trim.calls (k : Nat) (a0_0 : Bool) (P0_1_ : Nat → Prop) (A0_1 : Option Addr) (c0_1 : Nat) (l0_1 : List Int) (r1 : Bool) (r2 : List Int) (w : World) (hs0_1 : Kd.V (Kd.int .i64) 3 w w.heap.size (fun k_ => P0_1_ k_) (.slice A0_1 l0_1.length c0_1) l0_1) (h : cobwebref01_trim.f k a0_0 l0_1 = some (r1, r2)) :
    Calls Try.prog 45 #[.agg #[.bool a0_0, .slice A0_1 l0_1.length c0_1]] w fun e w' => ∃ v1_ : Value, e = .returned (.agg #[.bool r1, v1_]) ∧ Kd.V (Kd.int .i64) 3 w' w.heap.size (fun k_ => (P0_1_ k_ ∨ w.heap.size ≤ k_)) v1_ r2 ∧ Below w.heap.size w w' := by
  have hu55 := Try.underlying55
  have HO0_1 := A_ (show Kd.V (Kd.int .i64) 3 w w.heap.size (fun k_ => (P0_1_ k_ ∨ w.heap.size ≤ k_)) (.slice A0_1 l0_1.length c0_1) l0_1 from Kd.V_mono hs0_1 (fun k_ hk => .inl hk))
  have HB := A_ (Below.refl w.heap.size w)
  have H : (cobwebref01_trim.l0 k l0_1 a0_0 l0_1) = some (r1, r2) := h
  clear h
  have H' := A_ H
  clear H
  go_enter Try.func45, Try.ntmps45
  go_wp2_with (first | ((with_reducible refine gate_dst (N := 1) rfl ?_); (try (refine gate_guard (by rfl) ?_; dsimp only)); refine boxeq_ 1 #[.bool a0_0, .slice A0_1 l0_1.length c0_1] 55 ?_; intro gb101 hg w2 hbox hb; replace HO0_1 := A_ (Kd.V_below (Kd.V_elderB (v_ HO0_1.out) gb101 (Nat.le_of_eq hg.symm)) hb); have BK101 := A_ (hbox); have GW101 := ge_ HB hg; replace HB := st_ HB hb; have GE101 := GW101; clear hb hbox hg) | ((with_reducible refine gate_dst (N := 2) rfl ?_); (try (refine gate_guard (by rfl) ?_; dsimp only)); refine boxeq_ 2 #[.bool false, .slice none 0 0] 55 ?_; intro gb102 hg w3 hbox hb; replace HO0_1 := A_ (Kd.V_below (Kd.V_elderB (v_ HO0_1.out) gb102 (Nat.le_of_eq hg.symm)) hb); have BK102 := A_ (hbox); have GW102 := ge_ HB hg; replace HB := st_ HB hb; have GE102 := GW102; have NB101_102 := ne_ BK101 hg; replace BK101 := bb_ BK101 hb; have NB102_101 := A_ NB101_102.out.symm; clear hb hbox hg; have hnb4 := NB101_102.out; have hnc4 := NB102_101.out; have hcz5_0 : w3.cell? ⟨gb101, 0, none⟩ = some (.bool a0_0) := (blk_cell BK101.out 0).trans rfl; have hcz5_1 : w3.cell? ⟨gb101, 1, none⟩ = some (.slice A0_1 l0_1.length c0_1) := (blk_cell BK101.out 1).trans rfl; have hfz5_0 := blk_frozen BK101.out 0; have hfz5_1 := blk_frozen BK101.out 1))
  go_loopg [3] k (fun kq v3 w' => ∃ (x3_1 : List Int), Aside0 (cobwebref01_trim.l0 kq x3_1 a0_0 l0_1 = some (r1, r2)) ∧ Aside0 (kq ≤ k) ∧ Aside0 (Kd.V (Kd.int .i64) 3 w' w.heap.size (fun k_ => (P0_1_ k_ ∨ w.heap.size ≤ k_) ∧ k_ ≠ gb101 ∧ k_ ≠ gb102) v3 x3_1) ∧ Aside0 (Kd.V (Kd.int .i64) 3 w' w.heap.size (fun k_ => (P0_1_ k_ ∨ w.heap.size ≤ k_) ∧ k_ ≠ gb101 ∧ k_ ≠ gb102) (.slice A0_1 l0_1.length c0_1) l0_1) ∧ Aside0 (w'.heap[gb101]? = some (.cells #[.bool a0_0, (.slice A0_1 l0_1.length c0_1)] 55 (0, 0))) ∧ Aside0 (w'.heap[gb102]? = some (.cells #[.bool false, (.slice none 0 0)] 55 (0, 0))) ∧ Aside0 (Below w.heap.size w w'))
  case atStart => exact ⟨(l0_1), H', ⟨Nat.le_refl _⟩, ⟨by (with_reducible repeat (first | apply Kd.V_alloc | apply Kd.V_drewN | apply Kd.V_drew)); exact Kd.V_mono HO0_1.out (fun _ hk => ⟨hk.1.1, ⟨hk.1.2, hk.2⟩⟩)⟩, ⟨by (with_reducible repeat (first | apply Kd.V_alloc | apply Kd.V_drewN | apply Kd.V_drew)); exact Kd.V_mono HO0_1.out (fun _ hk => ⟨hk.1.1, ⟨hk.1.2, hk.2⟩⟩)⟩, ⟨b_ BK101⟩, ⟨b_ BK102⟩, ⟨l_ HB⟩⟩
  case round =>
    clear H'
    try clear p2
    try clear c4
    try clear hcz5_0
    try clear hcz5_1
    try clear hfz5_0
    try clear hfz5_1
    obtain ⟨x3_1, HA, HK1, HO_3, HO_102001, BK101, BK102, HB⟩ := hrel
    cases gk with
    | zero => exact absurd HA.out (by simp [cobwebref01_trim.l0])
    | succ k1 =>
      have H := HA.out
      clear HA
      simp only [cobwebref01_trim.l0] at H
      by_cases c6 : (x3_1.length : Int) > 0
      · rw [if_pos c6] at H
        have c6b0 : decide (0 < (x3_1.length : Int)) = true := decide_eq_true c6
        have c6b1 : decide (0 < x3_1.length) = true := decide_eq_true (by omega)
        clear c6
        obtain ⟨ji7, hji7⟩ : ∃ j_ : Int, (wrap64 ((x3_1.length : Int) - 1)) = j_ := ⟨_, rfl⟩
        replace H : (if 0 ≤ (ji7) then (if (ji7) < (x3_1.length : Int) then (if (rd x3_1 (ji7)) = 0 then (if (ji7) ≤ (x3_1.length : Int) then (cobwebref01_trim.l0 k1 (x3_1.take ((ji7) : Int).toNat) a0_0 l0_1) else (none)) else (if a0_0 = true then (some (decide ((x3_1.length : Int) > 0), x3_1)) else (some (false, x3_1)))) else (none)) else (none)) = some (r1, r2) := by first | (rw [hji7] at H; exact H) | (simp only [hji7] at H ⊢; exact H)
        have hji7w : (IntKind.i64.wrap ((x3_1.length : Int) - 1)) = ji7 := (i64_w _).trans hji7
        by_cases c8 : 0 ≤ (ji7)
        · rw [if_pos c8] at H
          have c8b0 : decide (0 ≤ (ji7)) = true := decide_eq_true c8
          clear c8
          by_cases c9 : (ji7) < (x3_1.length : Int)
          · rw [if_pos c9] at H
            have c9b0 : decide ((ji7) < (x3_1.length : Int)) = true := decide_eq_true c9
            clear c9
            by_cases c10 : (rd x3_1 (ji7)) = 0
            · rw [if_pos c10] at H
              have c10b0 : ((rd x3_1 (ji7)) == 0) = true := beq_iff_eq.mpr c10
              have c10b1 : ((rd x3_1 (ji7)) != 0) = false := bne_eq_false_iff_eq.mpr c10
              clear c10
              have c11b0 := eq_true (of_decide_eq_true (by first | (with_reducible assumption) | assumption) : 0 ≤ (ji7))
              by_cases c12 : (ji7) ≤ (x3_1.length : Int)
              · rw [if_pos c12] at H
                have c12b0 := eq_true c12
                have c12b1 : decide ((ji7) ≤ (x3_1.length : Int)) = true := decide_eq_true c12
                clear c12
                obtain ⟨y104, hy104⟩ : ∃ y_ : List Int, y_ = (x3_1.take ((ji7) : Int).toNat) := ⟨_, rfl⟩
                replace H : (cobwebref01_trim.l0 k1 y104 a0_0 l0_1) = some (r1, r2) := by first | (rw [hy104]; with_reducible exact H) | (have H2_ := (Option.bind_some _ _).symm.trans H; rw [hy104]; with_reducible exact H2_) | (have H2_ := (Option.bind_some _ _).symm.trans H; with_reducible exact H2_) | with_reducible exact H | (rw [hy104]; exact H) | exact H
                have Ny104 := A_ hy104
                clear hy104
                have H' := A_ H
                clear H
                obtain ⟨Ao13, co13, eo13⟩ := Kd.V_slice HO_3.out
                subst eo13
                have p103 : 0 ≤ ((ji7) : Int) := of_decide_eq_true (by first | (with_reducible assumption) | assumption)
                have q103 : (ji7) < (x3_1.length : Int) := of_decide_eq_true (by first | (with_reducible assumption) | assumption)
                obtain ⟨ad103, e103, hx103_0⟩ := Kd.at_int (Kd.V_reads' HO_3.out).2.2 (ji7) p103 q103
                cases e103
                replace p103 := eq_true p103
                replace q103 := eq_true q103
                have q14 : ((ji7) : Int) ≤ ((x3_1.length : Int) : Int) := of_decide_eq_true (by first | (with_reducible assumption) | assumption)
                obtain ⟨i014, hi014, _, hsz14, _⟩ := info_parts info3
                have hroom14 : x3_1.length ≤ co13 := (Kd.V_reads' HO_3.out).2.1
                have hC14 : Kd.F (Kd.int .i64) _ _ (some ad103) x3_1.length x3_1 := (Kd.V_at (base := w.heap.size) HO_3.out).2.2
                have hcut14 := cut_to (P := Try.prog) 53 3 .i64 Try.underlying53 hi014 (some ad103) x3_1.length co13 (ji7) (of_decide_eq_true (by first | (with_reducible assumption) | assumption)) q14 hroom14
                have hr14 := Kd.F_take (m := ((ji7) : Int).toNat) hC14 (by omega)
                have hy14 : y104.length = ((ji7) : Int).toNat := (by rw [Ny104.out, List.length_take]; omega)
                rw [← Ny104.out] at hr14
                rw [← hy14] at hcut14
                have HO108 := A_ (show Kd.V (Kd.int .i64) 3 _ w.heap.size _ (.slice (some ad103) y104.length co13) y104 from Kd.V_mk (by omega) hr14)
                have HC108 := A_ (show y104.length ≤ co13 from by omega)
                clear hr14 hC14 hroom14 hi014 hsz14
                have KY14 := A_ hy14
                clear hy14
                replace q14 := eq_true q14
                go_wp2
                go_roundg k1
                case measure => have := HK1.out; omega
                case rel => exact ⟨(y104), H', ⟨by have := HK1.out; omega⟩, ⟨by (with_reducible repeat (first | apply Kd.V_alloc | apply Kd.V_drewN | apply Kd.V_drew)); exact HO108.out⟩, ⟨by (with_reducible repeat (first | apply Kd.V_alloc | apply Kd.V_drewN | apply Kd.V_drew)); exact HO_102001.out⟩, ⟨b_ BK101⟩, ⟨b_ BK102⟩, ⟨l_ HB⟩⟩
              · rw [if_neg c12] at H
                exact absurd H (by simp)
            · rw [if_neg c10] at H
              have c10b0 : ((rd x3_1 (ji7)) == 0) = false := beq_eq_false_iff_ne.mpr c10
              have c10b1 : ((rd x3_1 (ji7)) != 0) = true := bne_iff_ne.mpr c10
              by_cases c15 : a0_0 = true
              · subst c15
                have H1 : (some (decide ((x3_1.length : Int) > 0), x3_1)) = some (r1, r2) := by rw [if_pos rfl] at H; exact H
                clear H
                have H := H1
                clear H1
                simp only [Option.some.injEq, Prod.mk.injEq] at H
                obtain ⟨rfl, rfl⟩ := H
                obtain ⟨Ao16, co16, eo16⟩ := Kd.V_slice HO_3.out
                subst eo16
                have p103 : 0 ≤ ((ji7) : Int) := of_decide_eq_true (by first | (with_reducible assumption) | assumption)
                have q103 : (ji7) < (x3_1.length : Int) := of_decide_eq_true (by first | (with_reducible assumption) | assumption)
                obtain ⟨ad103, e103, hx103_0⟩ := Kd.at_int (Kd.V_reads' HO_3.out).2.2 (ji7) p103 q103
                cases e103
                replace p103 := eq_true p103
                replace q103 := eq_true q103
                have hnb17 := NB101_102.out
                have hnc17 := NB102_101.out
                have hcz18_0 : wr.cell? ⟨gb101, 0, none⟩ = some (.bool true) := (blk_cell BK101.out 0).trans rfl
                have hcz18_1 : wr.cell? ⟨gb101, 1, none⟩ = some (.slice A0_1 l0_1.length c0_1) := (blk_cell BK101.out 1).trans rfl
                have hfz18_0 := blk_frozen BK101.out 0
                have hfz18_1 := blk_frozen BK101.out 1
                have hcz19_0 : wr.cell? ⟨gb102, 0, none⟩ = some (.bool false) := (blk_cell BK102.out 0).trans rfl
                have hcz19_1 : wr.cell? ⟨gb102, 1, none⟩ = some (.slice none 0 0) := (blk_cell BK102.out 1).trans rfl
                have hfz19_0 := blk_frozen BK102.out 0
                have hfz19_1 := blk_frozen BK102.out 1
                go_wp2
                refine bodyPost_ret (results_cell_row rfl _ _ gb102 55 #[.bool true, .slice (some ad103) x3_1.length co16] (0, 0) _ rfl (by (with_reducible repeat (first | refine blk_drewN ?_ _ | refine blk_drew ?_ | refine blk_alloc ?_ _)); refine blk_put (cs := #[.bool true, .slice none 0 0]) ?_ 1 _ rfl; (with_reducible repeat (first | refine blk_drewN ?_ _ | refine blk_drew ?_ | refine blk_alloc ?_ _)); refine blk_put (cs := #[.bool false, .slice none 0 0]) ?_ 0 _ rfl; (with_reducible repeat (first | refine blk_drewN ?_ _ | refine blk_drew ?_ | refine blk_alloc ?_ _)); exact BK102.out) Try.underlying55 rfl (by kernel_rfl)) rfl ?_
                exact ⟨_, by first | rfl | (simp [errW_none, errW_some] <;> rfl) | (simp only [← hji7]; first | rfl | (simp [errW_none, errW_some] <;> rfl)) | (simp [*, errW_none, errW_some] <;> rfl), by (with_reducible repeat (first | apply Kd.V_alloc | apply Kd.V_drewN | apply Kd.V_drew)); exact Kd.V_mono (Kd.V_far (p := ⟨gb102, 1, none⟩) (Kd.V_far (p := ⟨gb102, 0, none⟩) (Kd.V_mono HO_3.out (fun k_ hk => (⟨hk, hk.2.2⟩ : _ ∧ k_ ≠ gb102))) (fun _ hk => hk.2) (.bool true)) (fun _ hk => hk.2) (.slice (some ad103) x3_1.length co16)) (fun _ hk => hk.1.1), l_ HB⟩
              · replace c15 := Bool.eq_false_iff.mpr c15
                subst c15
                have H1 : (some (false, x3_1)) = some (r1, r2) := by rw [if_neg (show ¬ (false = true) by decide)] at H; exact H
                clear H
                have H := H1
                clear H1
                simp only [Option.some.injEq, Prod.mk.injEq] at H
                obtain ⟨rfl, rfl⟩ := H
                obtain ⟨Ao20, co20, eo20⟩ := Kd.V_slice HO_3.out
                subst eo20
                have p103 : 0 ≤ ((ji7) : Int) := of_decide_eq_true (by first | (with_reducible assumption) | assumption)
                have q103 : (ji7) < (x3_1.length : Int) := of_decide_eq_true (by first | (with_reducible assumption) | assumption)
                obtain ⟨ad103, e103, hx103_0⟩ := Kd.at_int (Kd.V_reads' HO_3.out).2.2 (ji7) p103 q103
                cases e103
                replace p103 := eq_true p103
                replace q103 := eq_true q103
                have hnb21 := NB101_102.out
                have hnc21 := NB102_101.out
                have hcz22_0 : wr.cell? ⟨gb101, 0, none⟩ = some (.bool false) := (blk_cell BK101.out 0).trans rfl
                have hcz22_1 : wr.cell? ⟨gb101, 1, none⟩ = some (.slice A0_1 l0_1.length c0_1) := (blk_cell BK101.out 1).trans rfl
                have hfz22_0 := blk_frozen BK101.out 0
                have hfz22_1 := blk_frozen BK101.out 1
                have hcz23_0 : wr.cell? ⟨gb102, 0, none⟩ = some (.bool false) := (blk_cell BK102.out 0).trans rfl
                have hcz23_1 : wr.cell? ⟨gb102, 1, none⟩ = some (.slice none 0 0) := (blk_cell BK102.out 1).trans rfl
                have hfz23_0 := blk_frozen BK102.out 0
                have hfz23_1 := blk_frozen BK102.out 1
                go_wp2
                refine bodyPost_ret (results_cell_row rfl _ _ gb102 55 #[.bool false, .slice (some ad103) x3_1.length co20] (0, 0) _ rfl (by (with_reducible repeat (first | refine blk_drewN ?_ _ | refine blk_drew ?_ | refine blk_alloc ?_ _)); refine blk_put (cs := #[.bool false, .slice none 0 0]) ?_ 1 _ rfl; (with_reducible repeat (first | refine blk_drewN ?_ _ | refine blk_drew ?_ | refine blk_alloc ?_ _)); refine blk_put (cs := #[.bool false, .slice none 0 0]) ?_ 0 _ rfl; (with_reducible repeat (first | refine blk_drewN ?_ _ | refine blk_drew ?_ | refine blk_alloc ?_ _)); exact BK102.out) Try.underlying55 rfl (by kernel_rfl)) rfl ?_
                exact ⟨_, by first | rfl | (simp [errW_none, errW_some] <;> rfl) | (simp only [← hji7]; first | rfl | (simp [errW_none, errW_some] <;> rfl)) | (simp [*, errW_none, errW_some] <;> rfl), by (with_reducible repeat (first | apply Kd.V_alloc | apply Kd.V_drewN | apply Kd.V_drew)); exact Kd.V_mono (Kd.V_far (p := ⟨gb102, 1, none⟩) (Kd.V_far (p := ⟨gb102, 0, none⟩) (Kd.V_mono HO_3.out (fun k_ hk => (⟨hk, hk.2.2⟩ : _ ∧ k_ ≠ gb102))) (fun _ hk => hk.2) (.bool false)) (fun _ hk => hk.2) (.slice (some ad103) x3_1.length co20)) (fun _ hk => hk.1.1), l_ HB⟩
          · rw [if_neg c9] at H
            exact absurd H (by simp)
        · rw [if_neg c8] at H
          exact absurd H (by simp)
      · rw [if_neg c6] at H
        have c6b0 : decide (0 < (x3_1.length : Int)) = false := decide_eq_false c6
        have c6b1 : decide (0 < x3_1.length) = false := decide_eq_false (by omega)
        clear c6
        by_cases c24 : a0_0 = true
        · subst c24
          have H1 : (some (decide ((x3_1.length : Int) > 0), x3_1)) = some (r1, r2) := by rw [if_pos rfl] at H; exact H
          clear H
          have H := H1
          clear H1
          simp only [Option.some.injEq, Prod.mk.injEq] at H
          obtain ⟨rfl, rfl⟩ := H
          obtain ⟨Ao25, co25, eo25⟩ := Kd.V_slice HO_3.out
          subst eo25
          have hnb26 := NB101_102.out
          have hnc26 := NB102_101.out
          have hcz27_0 : wr.cell? ⟨gb101, 0, none⟩ = some (.bool true) := (blk_cell BK101.out 0).trans rfl
          have hcz27_1 : wr.cell? ⟨gb101, 1, none⟩ = some (.slice A0_1 l0_1.length c0_1) := (blk_cell BK101.out 1).trans rfl
          have hfz27_0 := blk_frozen BK101.out 0
          have hfz27_1 := blk_frozen BK101.out 1
          have hcz28_0 : wr.cell? ⟨gb102, 0, none⟩ = some (.bool false) := (blk_cell BK102.out 0).trans rfl
          have hcz28_1 : wr.cell? ⟨gb102, 1, none⟩ = some (.slice none 0 0) := (blk_cell BK102.out 1).trans rfl
          have hfz28_0 := blk_frozen BK102.out 0
          have hfz28_1 := blk_frozen BK102.out 1
          go_wp2
          refine bodyPost_ret (results_cell_row rfl _ _ gb102 55 #[.bool false, .slice Ao25 x3_1.length co25] (0, 0) _ rfl (by (with_reducible repeat (first | refine blk_drewN ?_ _ | refine blk_drew ?_ | refine blk_alloc ?_ _)); refine blk_put (cs := #[.bool false, .slice none 0 0]) ?_ 1 _ rfl; (with_reducible repeat (first | refine blk_drewN ?_ _ | refine blk_drew ?_ | refine blk_alloc ?_ _)); refine blk_put (cs := #[.bool false, .slice none 0 0]) ?_ 0 _ rfl; (with_reducible repeat (first | refine blk_drewN ?_ _ | refine blk_drew ?_ | refine blk_alloc ?_ _)); exact BK102.out) Try.underlying55 rfl (by kernel_rfl)) rfl ?_
          exact ⟨_, by first | rfl | (simp [errW_none, errW_some] <;> rfl) | (simp [*, errW_none, errW_some] <;> rfl), by (with_reducible repeat (first | apply Kd.V_alloc | apply Kd.V_drewN | apply Kd.V_drew)); exact Kd.V_mono (Kd.V_far (p := ⟨gb102, 1, none⟩) (Kd.V_far (p := ⟨gb102, 0, none⟩) (Kd.V_mono HO_3.out (fun k_ hk => (⟨hk, hk.2.2⟩ : _ ∧ k_ ≠ gb102))) (fun _ hk => hk.2) (.bool false)) (fun _ hk => hk.2) (.slice Ao25 x3_1.length co25)) (fun _ hk => hk.1.1), l_ HB⟩
        · replace c24 := Bool.eq_false_iff.mpr c24
          subst c24
          have H1 : (some (false, x3_1)) = some (r1, r2) := by rw [if_neg (show ¬ (false = true) by decide)] at H; exact H
          clear H
          have H := H1
          clear H1
          simp only [Option.some.injEq, Prod.mk.injEq] at H
          obtain ⟨rfl, rfl⟩ := H
          obtain ⟨Ao29, co29, eo29⟩ := Kd.V_slice HO_3.out
          subst eo29
          have hnb30 := NB101_102.out
          have hnc30 := NB102_101.out
          have hcz31_0 : wr.cell? ⟨gb101, 0, none⟩ = some (.bool false) := (blk_cell BK101.out 0).trans rfl
          have hcz31_1 : wr.cell? ⟨gb101, 1, none⟩ = some (.slice A0_1 l0_1.length c0_1) := (blk_cell BK101.out 1).trans rfl
          have hfz31_0 := blk_frozen BK101.out 0
          have hfz31_1 := blk_frozen BK101.out 1
          have hcz32_0 : wr.cell? ⟨gb102, 0, none⟩ = some (.bool false) := (blk_cell BK102.out 0).trans rfl
          have hcz32_1 : wr.cell? ⟨gb102, 1, none⟩ = some (.slice none 0 0) := (blk_cell BK102.out 1).trans rfl
          have hfz32_0 := blk_frozen BK102.out 0
          have hfz32_1 := blk_frozen BK102.out 1
          go_wp2
          refine bodyPost_ret (results_cell_row rfl _ _ gb102 55 #[.bool false, .slice Ao29 x3_1.length co29] (0, 0) _ rfl (by (with_reducible repeat (first | refine blk_drewN ?_ _ | refine blk_drew ?_ | refine blk_alloc ?_ _)); refine blk_put (cs := #[.bool false, .slice none 0 0]) ?_ 1 _ rfl; (with_reducible repeat (first | refine blk_drewN ?_ _ | refine blk_drew ?_ | refine blk_alloc ?_ _)); refine blk_put (cs := #[.bool false, .slice none 0 0]) ?_ 0 _ rfl; (with_reducible repeat (first | refine blk_drewN ?_ _ | refine blk_drew ?_ | refine blk_alloc ?_ _)); exact BK102.out) Try.underlying55 rfl (by kernel_rfl)) rfl ?_
          exact ⟨_, by first | rfl | (simp [errW_none, errW_some] <;> rfl) | (simp [*, errW_none, errW_some] <;> rfl), by (with_reducible repeat (first | apply Kd.V_alloc | apply Kd.V_drewN | apply Kd.V_drew)); exact Kd.V_mono (Kd.V_far (p := ⟨gb102, 1, none⟩) (Kd.V_far (p := ⟨gb102, 0, none⟩) (Kd.V_mono HO_3.out (fun k_ hk => (⟨hk, hk.2.2⟩ : _ ∧ k_ ≠ gb102))) (fun _ hk => hk.2) (.bool false)) (fun _ hk => hk.2) (.slice Ao29 x3_1.length co29)) (fun _ hk => hk.1.1), l_ HB⟩

end Go.Proofs.Ytglkjeeiiflpjaa.F
