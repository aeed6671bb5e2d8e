-- PRINTED by print.py (a twelfth state) out of the translation. Not trusted: Lean checks it.
import Derived.Test.YtglkjeeiiflpjaaF0
import Derived.Test.YtglkjeeiiflpjaaB3
namespace Go.Proofs.Ytglkjeeiiflpjaa.F
open Go.RowKit Go.Proofs.YtglkjeeiiflpjaaW.PrintWords Go.Proofs.YtglkjeeiiflpjaaW.PrintLast Go.Proofs.YtglkjeeiiflpjaaW.PrintMore
attribute [local go_sem] max2_int min2_int max_two min_two max_three min_three max_four min_four   -- for this text's walks alone
set_option linter.unusedVariables false
set_option linter.unusedSimpArgs false

/-! ### cobwebref01_Of: function 36 -/
def cobwebref01_Of.l0 : Nat → Int → Bool → List Int → Option (Bool × List Int)
  | 0, _, _, _ => none
  | k + 1, x0, x103000, x103001 => if x0 = 0 then (some (x103000, x103001)) else (if (Int.tmod x0 10000) < 0 then (if x103001.length < 17592186044416 then (cobwebref01_Of.l0 k (wrap64 (Int.tdiv x0 10000)) x103000 (x103001 ++ [wrap64 (-(Int.tmod x0 10000))])) else (none)) else (if x103001.length < 17592186044416 then (cobwebref01_Of.l0 k (wrap64 (Int.tdiv x0 10000)) x103000 (x103001 ++ [Int.tmod x0 10000])) else (none)))
def cobwebref01_Of.f (k : Nat) (a0 : Int) : Option (Bool × List Int) := cobwebref01_Of.l0 k a0 (decide (a0 < 0)) ([] : List Int)
theorem cobwebref01_Of.mono_l : ∀ k, (∀ y0 y1 y2, LeO (cobwebref01_Of.l0 k y0 y1 y2) (cobwebref01_Of.l0 (k + 1) y0 y1 y2))
  | 0 => fun _ _ _ r h => by simp [cobwebref01_Of.l0] at h
  | k + 1 => by
    have ih0 := cobwebref01_Of.mono_l k
    · intro y0 y1 y2
      unfold cobwebref01_Of.l0
      repeat' first
      | (with_reducible exact ih0 _ _ _)
      | (with_reducible exact LeO.refl _)
      | (with_reducible exact LeO.none _)
      | (with_reducible refine LeO.ite ?_ ?_)
      | (with_reducible refine LeO.bind ?_ (fun _ => ?_))
      | exact ih0 _ _ _
      | exact LeO.none _
      | refine LeO.ite ?_ ?_
      | refine LeO.bind ?_ (fun _ => ?_)
theorem cobwebref01_Of.mono : ∀ a0 k, LeO (cobwebref01_Of.f k a0) (cobwebref01_Of.f (k + 1) a0) := by
  intro a0 k
  have ih0 := cobwebref01_Of.mono_l k
  unfold cobwebref01_Of.f
  repeat' first
      | (with_reducible exact ih0 _ _ _)
      | (with_reducible exact LeO.refl _)
      | (with_reducible exact LeO.none _)
      | (with_reducible refine LeO.ite ?_ ?_)
      | (with_reducible refine LeO.bind ?_ (fun _ => ?_))
      | exact ih0 _ _ _
      | exact LeO.none _
      | refine LeO.ite ?_ ?_
      | refine LeO.bind ?_ (fun _ => ?_)
set_option maxHeartbeats 8000000 in
set_option maxRecDepth 100000 in
theorem cobwebref01_Of.calls (k : Nat) (a0 : Int) (r1 : Bool) (r2 : List Int) (w : World) (h : cobwebref01_Of.f k a0 = some (r1, r2)) :
    Calls Try.prog 36 #[.int .i64 a0] w fun e w' => ∃ v1_ : Value, e = .returned (.agg #[.bool r1, v1_]) ∧ Kd.R (Kd.int .i64) 3 w' w.heap.size (fun _ => True) v1_ r2 ∧ Below w.heap.size w w' := by
  have hu55 := Try.underlying55
  have HB := A_ (Below.refl w.heap.size w)
  have H : (cobwebref01_Of.l0 k a0 (decide (a0 < 0)) ([] : List Int)) = some (r1, r2) := h
  clear h
  have H' := A_ H
  clear H
  go_enter Try.func36, Try.ntmps36
  go_wp2_with (first | ((with_reducible refine gate_dst (N := 2) rfl ?_); refine boxeq_ 2 #[.bool false, .slice none 0 0] 55 ?_; intro gb101 hg w2 hbox hb; have BK101 := A_ (hbox); have GW101 := ge_ HB hg; replace HB := st_ HB hb; have GE101 := GW101; clear hb hbox hg) | ((with_reducible refine gate_dst (N := 3) rfl ?_); refine boxeq_ 3 #[.bool false, .slice none 0 0] 55 ?_; intro gb102 hg w3 hbox hb; have BK102 := A_ (hbox); have GW102 := ge_ HB hg; replace HB := st_ HB hb; have GE102 := GW102; have NB101_102 := ne_ BK101 hg; replace BK101 := bb_ BK101 hb; have NB102_101 := A_ NB101_102.out.symm; clear hb hbox hg; have hnb4 := NB102_101.out; have hnc4 := NB101_102.out; have hcz5_0 : w3.cell? ⟨gb102, 0, none⟩ = some (.bool false) := (blk_cell BK102.out 0).trans rfl; have hcz5_1 : w3.cell? ⟨gb102, 1, none⟩ = some (.slice none 0 0) := (blk_cell BK102.out 1).trans rfl; have hfz5_0 := blk_frozen BK102.out 0; have hfz5_1 := blk_frozen BK102.out 1))
  go_loopg [0] k (fun kq v0 w' => ∃ (x0_1 : Int) (x103001_1 : List Int) (u103001 : Value), v0 = .int .i64 x0_1 ∧ Aside0 (cobwebref01_Of.l0 kq x0_1 (decide (a0 < 0)) x103001_1 = some (r1, r2)) ∧ Aside0 (kq ≤ k) ∧ Aside0 (Kd.R (Kd.int .i64) 3 w' w.heap.size (fun _ => True) u103001 x103001_1) ∧ Aside0 (w'.heap[gb101]? = some (.cells #[.bool false, (.slice none 0 0)] 55 (0, 0))) ∧ Aside0 (w'.heap[gb102]? = some (.cells #[.bool (decide (a0 < 0)), u103001] 55 (0, 0))) ∧ Aside0 (Below w.heap.size w w'))
  case atStart => exact ⟨(a0), (([] : List Int)), (.slice none 0 0), (by first | rfl | (simp; done) | (simp [*]; done)), H', ⟨Nat.le_refl _⟩, ⟨by first | exact Kd.R_nil _ _ _ _ _ | exact Kd.N_nil _ _ _ _ _ | exact Kd.V_nil _ _ _ _ _ | exact Kd.Q_nil _ _ _ _ _ | exact Kd.S_nil _ _ _ _ _⟩, ⟨by (with_reducible repeat (first | refine blk_drewN ?_ _ | refine blk_drew ?_ | refine blk_alloc ?_ _)); refine blk_far ?_ NB101_102.out _; (with_reducible repeat (first | refine blk_drewN ?_ _ | refine blk_drew ?_ | refine blk_alloc ?_ _)); refine blk_far ?_ NB101_102.out _; (with_reducible repeat (first | refine blk_drewN ?_ _ | refine blk_drew ?_ | refine blk_alloc ?_ _)); exact BK101.out⟩, ⟨by (with_reducible repeat (first | refine blk_drewN ?_ _ | refine blk_drew ?_ | refine blk_alloc ?_ _)); refine blk_put (cs := #[.bool (decide (a0 < 0)), .slice none 0 0]) ?_ 1 _ rfl; (with_reducible repeat (first | refine blk_drewN ?_ _ | refine blk_drew ?_ | refine blk_alloc ?_ _)); refine blk_put (cs := #[.bool false, .slice none 0 0]) ?_ 0 _ rfl; (with_reducible repeat (first | refine blk_drewN ?_ _ | refine blk_drew ?_ | refine blk_alloc ?_ _)); exact BK102.out⟩, ⟨l_ HB⟩⟩
  case round =>
    clear H'
    try clear p2
    try clear c3
    try clear c4
    try clear hcz5_0
    try clear hcz5_1
    try clear hfz5_0
    try clear hfz5_1
    obtain ⟨x0_1, x103001_1, u103001, rfl, HA, HK1, HO_103001, BK101, BK102, HB⟩ := hrel
    cases gk with
    | zero => exact absurd HA.out (by simp [cobwebref01_Of.l0])
    | succ k1 =>
      have H := HA.out
      clear HA
      simp only [cobwebref01_Of.l0] at H
      by_cases c6 : x0_1 = 0
      · rw [if_pos c6] at H
        have c6b0 : (x0_1 == 0) = true := beq_iff_eq.mpr c6
        have c6b1 : (x0_1 != 0) = false := bne_eq_false_iff_eq.mpr c6
        clear c6
        simp only [Option.some.injEq, Prod.mk.injEq] at H
        obtain ⟨rfl, rfl⟩ := H
        have hnb7 := NB102_101.out
        have hnc7 := NB101_102.out
        have hcz8_0 : wr.cell? ⟨gb102, 0, none⟩ = some (.bool (decide (a0 < 0))) := (blk_cell BK102.out 0).trans rfl
        have hcz8_1 : wr.cell? ⟨gb102, 1, none⟩ = some (u103001) := (blk_cell BK102.out 1).trans rfl
        have hfz8_0 := blk_frozen BK102.out 0
        have hfz8_1 := blk_frozen BK102.out 1
        have hcz9_0 : wr.cell? ⟨gb101, 0, none⟩ = some (.bool false) := (blk_cell BK101.out 0).trans rfl
        have hcz9_1 : wr.cell? ⟨gb101, 1, none⟩ = some (.slice none 0 0) := (blk_cell BK101.out 1).trans rfl
        have hfz9_0 := blk_frozen BK101.out 0
        have hfz9_1 := blk_frozen BK101.out 1
        obtain ⟨Ao10, co10, eo10⟩ := Kd.R_slice HO_103001.out
        subst eo10
        go_wp2
        refine bodyPost_ret (results_cell_row rfl _ _ gb101 55 #[.bool (decide (a0 < 0)), .slice Ao10 x103001_1.length co10] (0, 0) _ rfl (by (with_reducible repeat (first | refine blk_drewN ?_ _ | refine blk_drew ?_ | refine blk_alloc ?_ _)); refine blk_put (cs := #[.bool (decide (a0 < 0)), .slice none 0 0]) ?_ 1 _ rfl; (with_reducible repeat (first | refine blk_drewN ?_ _ | refine blk_drew ?_ | refine blk_alloc ?_ _)); refine blk_put (cs := #[.bool false, .slice none 0 0]) ?_ 0 _ rfl; (with_reducible repeat (first | refine blk_drewN ?_ _ | refine blk_drew ?_ | refine blk_alloc ?_ _)); exact BK101.out) Try.underlying55 rfl (by kernel_rfl)) rfl ?_
        exact ⟨_, by first | rfl | (simp [errW_none, errW_some] <;> rfl) | (simp [*, errW_none, errW_some] <;> rfl), by (with_reducible repeat (first | apply Kd.R_alloc | apply Kd.R_drewN | apply Kd.R_drew)); exact Kd.R_mono (Kd.R_far (p := ⟨gb101, 1, none⟩) (Kd.R_far (p := ⟨gb101, 0, none⟩) (Kd.R_types HO_103001.out BK101.out (by decide)) (fun _ hk => hk.2) (.bool (decide (a0 < 0)))) (fun _ hk => hk.2) (.slice Ao10 x103001_1.length co10)) (fun _ hk => trivial), l_ HB⟩
      · rw [if_neg c6] at H
        have c6b0 : (x0_1 == 0) = false := beq_eq_false_iff_ne.mpr c6
        have c6b1 : (x0_1 != 0) = true := bne_iff_ne.mpr c6
        by_cases c11 : (Int.tmod x0_1 10000) < 0
        · rw [if_pos c11] at H
          have c11b0 : decide ((Int.tmod x0_1 10000) < 0) = true := decide_eq_true c11
          clear c11
          by_cases c12 : x103001_1.length < 17592186044416
          · rw [if_pos c12] at H
            have LMc12 := A_ c12
            clear c12
            obtain ⟨y103, hy103⟩ : ∃ y_ : List Int, y_ = (x103001_1 ++ [wrap64 (-(Int.tmod x0_1 10000))]) := ⟨_, rfl⟩
            replace H : (cobwebref01_Of.l0 k1 (wrap64 (Int.tdiv x0_1 10000)) (decide (a0 < 0)) y103) = some (r1, r2) := by first | (rw [hy103]; with_reducible exact H) | (have H2_ := (Option.bind_some _ _).symm.trans H; rw [hy103]; with_reducible exact H2_) | (have H2_ := (Option.bind_some _ _).symm.trans H; with_reducible exact H2_) | with_reducible exact H | (rw [hy103]; exact H) | exact H
            have Ny103 := A_ hy103
            clear hy103
            have H' := A_ H
            clear H
            have hnb13 := NB102_101.out
            have hnc13 := NB101_102.out
            have hcz14_0 : wr.cell? ⟨gb102, 0, none⟩ = some (.bool (decide (a0 < 0))) := (blk_cell BK102.out 0).trans rfl
            have hcz14_1 : wr.cell? ⟨gb102, 1, none⟩ = some (u103001) := (blk_cell BK102.out 1).trans rfl
            have hfz14_0 := blk_frozen BK102.out 0
            have hfz14_1 := blk_frozen BK102.out 1
            go_wp2_with (first | ((with_reducible refine gate_builtin (b := .append) (xs := #[.tmp 17, .tmp 19]) rfl ?_); at_builtin; refine Kd.R_append (Kd.int .i64) (w0 := w) w.heap.size rfl (.tmp 17) (.tmp 19) 53 3 (.int .i64 0) 8 rfl Try.underlying53 info3 rfl (by decide) (by omega) u103001 x103001_1 (wrap64 (-(Int.tmod x0_1 10000))) [.int .i64 (wrap64 (-(Int.tmod x0_1 10000)))] (fun _ => True) (fun _ => False) rfl rfl ?aP (fun _ hk => hk.elim) ?aF ?aO ?aB ?aS ?aL ?_; (case aP => exact rfl); (case aB => exact (l_ HB)); (case aF => exact (fun _ _ => trivial)); (case aO => exact (r_ HO_103001.out)); (case aS => exact (below_size (l_ HB))); (case aL => have := LMc12.out; omega); intro v104 w15 ho hb hg hat; rw [← Ny103.out] at ho; replace BK101 := A_ (blk_grown (b_ BK101) hg (Kd.R_ne HO_103001.out BK101.out (by decide))); replace BK102 := A_ (blk_grown (g := gb102) (o := .cells #[.bool (decide (a0 < 0)), u103001] 55 (0, 0)) (b_ BK102) hg (Kd.R_ne HO_103001.out BK102.out (by decide))); replace HB := A_ (hb); have HO105 := A_ (ho); clear HO_103001; clear ho hb hg hat; obtain ⟨Ao16, co16, eo16⟩ := Kd.R_slice HO105.out; subst eo16; have hcz17_0 : w15.cell? ⟨gb102, 0, none⟩ = some (.bool (decide (a0 < 0))) := (blk_cell BK102.out 0).trans rfl; have hcz17_1 : w15.cell? ⟨gb102, 1, none⟩ = some (u103001) := (blk_cell BK102.out 1).trans rfl; have hfz17_0 := blk_frozen BK102.out 0; have hfz17_1 := blk_frozen BK102.out 1))
            go_roundg k1
            case measure => have := HK1.out; omega
            case rel => exact ⟨(wrap64 (Int.tdiv x0_1 10000)), (y103), (.slice Ao16 y103.length co16), (by first | rfl | (simp; done) | (simp [*]; done)), H', ⟨by have := HK1.out; omega⟩, ⟨by (with_reducible repeat (first | apply Kd.R_alloc | apply Kd.R_drewN | apply Kd.R_drew)); exact Kd.R_mono (Kd.R_far (p := ⟨gb102, 1, none⟩) (Kd.R_types HO105.out BK102.out (by decide)) (fun _ hk => hk.2) (.slice Ao16 y103.length co16)) (fun _ hk => trivial)⟩, ⟨by (with_reducible repeat (first | refine blk_drewN ?_ _ | refine blk_drew ?_ | refine blk_alloc ?_ _)); refine blk_far ?_ NB101_102.out _; (with_reducible repeat (first | refine blk_drewN ?_ _ | refine blk_drew ?_ | refine blk_alloc ?_ _)); exact BK101.out⟩, ⟨by (with_reducible repeat (first | refine blk_drewN ?_ _ | refine blk_drew ?_ | refine blk_alloc ?_ _)); refine blk_put (cs := #[.bool (decide (a0 < 0)), u103001]) ?_ 1 _ rfl; (with_reducible repeat (first | refine blk_drewN ?_ _ | refine blk_drew ?_ | refine blk_alloc ?_ _)); exact BK102.out⟩, ⟨l_ HB⟩⟩
          · rw [if_neg c12] at H
            exact absurd H (by simp)
        · rw [if_neg c11] at H
          have c11b0 : decide ((Int.tmod x0_1 10000) < 0) = false := decide_eq_false c11
          clear c11
          by_cases c18 : x103001_1.length < 17592186044416
          · rw [if_pos c18] at H
            have LMc18 := A_ c18
            clear c18
            obtain ⟨y106, hy106⟩ : ∃ y_ : List Int, y_ = (x103001_1 ++ [Int.tmod x0_1 10000]) := ⟨_, rfl⟩
            replace H : (cobwebref01_Of.l0 k1 (wrap64 (Int.tdiv x0_1 10000)) (decide (a0 < 0)) y106) = some (r1, r2) := by first | (rw [hy106]; with_reducible exact H) | (have H2_ := (Option.bind_some _ _).symm.trans H; rw [hy106]; with_reducible exact H2_) | (have H2_ := (Option.bind_some _ _).symm.trans H; with_reducible exact H2_) | with_reducible exact H | (rw [hy106]; exact H) | exact H
            have Ny106 := A_ hy106
            clear hy106
            have H' := A_ H
            clear H
            have hnb19 := NB102_101.out
            have hnc19 := NB101_102.out
            have hcz20_0 : wr.cell? ⟨gb102, 0, none⟩ = some (.bool (decide (a0 < 0))) := (blk_cell BK102.out 0).trans rfl
            have hcz20_1 : wr.cell? ⟨gb102, 1, none⟩ = some (u103001) := (blk_cell BK102.out 1).trans rfl
            have hfz20_0 := blk_frozen BK102.out 0
            have hfz20_1 := blk_frozen BK102.out 1
            go_wp2_with (first | ((with_reducible refine gate_builtin (b := .append) (xs := #[.tmp 17, .tmp 19]) rfl ?_); at_builtin; refine Kd.R_append (Kd.int .i64) (w0 := w) w.heap.size rfl (.tmp 17) (.tmp 19) 53 3 (.int .i64 0) 8 rfl Try.underlying53 info3 rfl (by decide) (by omega) u103001 x103001_1 (Int.tmod x0_1 10000) [.int .i64 (Int.tmod x0_1 10000)] (fun _ => True) (fun _ => False) rfl rfl ?aP (fun _ hk => hk.elim) ?aF ?aO ?aB ?aS ?aL ?_; (case aP => exact rfl); (case aB => exact (l_ HB)); (case aF => exact (fun _ _ => trivial)); (case aO => exact (r_ HO_103001.out)); (case aS => exact (below_size (l_ HB))); (case aL => have := LMc18.out; omega); intro v107 w21 ho hb hg hat; rw [← Ny106.out] at ho; replace BK101 := A_ (blk_grown (b_ BK101) hg (Kd.R_ne HO_103001.out BK101.out (by decide))); replace BK102 := A_ (blk_grown (g := gb102) (o := .cells #[.bool (decide (a0 < 0)), u103001] 55 (0, 0)) (b_ BK102) hg (Kd.R_ne HO_103001.out BK102.out (by decide))); replace HB := A_ (hb); have HO108 := A_ (ho); clear HO_103001; clear ho hb hg hat; obtain ⟨Ao22, co22, eo22⟩ := Kd.R_slice HO108.out; subst eo22; have hcz23_0 : w21.cell? ⟨gb102, 0, none⟩ = some (.bool (decide (a0 < 0))) := (blk_cell BK102.out 0).trans rfl; have hcz23_1 : w21.cell? ⟨gb102, 1, none⟩ = some (u103001) := (blk_cell BK102.out 1).trans rfl; have hfz23_0 := blk_frozen BK102.out 0; have hfz23_1 := blk_frozen BK102.out 1))
            go_roundg k1
            case measure => have := HK1.out; omega
            case rel => exact ⟨(wrap64 (Int.tdiv x0_1 10000)), (y106), (.slice Ao22 y106.length co22), (by first | rfl | (simp; done) | (simp [*]; done)), H', ⟨by have := HK1.out; omega⟩, ⟨by (with_reducible repeat (first | apply Kd.R_alloc | apply Kd.R_drewN | apply Kd.R_drew)); exact Kd.R_mono (Kd.R_far (p := ⟨gb102, 1, none⟩) (Kd.R_types HO108.out BK102.out (by decide)) (fun _ hk => hk.2) (.slice Ao22 y106.length co22)) (fun _ hk => trivial)⟩, ⟨by (with_reducible repeat (first | refine blk_drewN ?_ _ | refine blk_drew ?_ | refine blk_alloc ?_ _)); refine blk_far ?_ NB101_102.out _; (with_reducible repeat (first | refine blk_drewN ?_ _ | refine blk_drew ?_ | refine blk_alloc ?_ _)); exact BK101.out⟩, ⟨by (with_reducible repeat (first | refine blk_drewN ?_ _ | refine blk_drew ?_ | refine blk_alloc ?_ _)); refine blk_put (cs := #[.bool (decide (a0 < 0)), u103001]) ?_ 1 _ rfl; (with_reducible repeat (first | refine blk_drewN ?_ _ | refine blk_drew ?_ | refine blk_alloc ?_ _)); exact BK102.out⟩, ⟨l_ HB⟩⟩
          · rw [if_neg c18] at H
            exact absurd H (by simp)

end Go.Proofs.Ytglkjeeiiflpjaa.F
