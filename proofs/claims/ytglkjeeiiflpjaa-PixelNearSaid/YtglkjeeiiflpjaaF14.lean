-- PRINTED by print.py (a twelfth state) out of the translation. Not trusted: Lean checks it.
import Derived.Test.YtglkjeeiiflpjaaF0
import Derived.Test.YtglkjeeiiflpjaaB3
import Derived.Test.YtglkjeeiiflpjaaF22
import Derived.Test.YtglkjeeiiflpjaaFS
import Derived.Test.YtglkjeeiiflpjaaHIn
import Derived.Test.YtglkjeeiiflpjaaHMeets
namespace Go.Proofs.Ytglkjeeiiflpjaa.F
open Go.RowKit Go.Proofs.YtglkjeeiiflpjaaW.PrintWords Go.Proofs.YtglkjeeiiflpjaaW.PrintLast Go.Proofs.YtglkjeeiiflpjaaW.PrintMore
attribute [local go_sem] max2_int min2_int max_two min_two max_three min_three max_four min_four   -- for this text's walks alone
set_option linter.unusedVariables false
set_option linter.unusedSimpArgs false

/-! ### pixel_Hits: function 14 -/
def pixel_Hits.j0 : Nat → Int → Bool → Int → Int → Int → Int → Int → Int → Option (Bool)
  | 0, _, _, _, _, _, _, _, _ => none
  | k + 1, x3, x19, x102000, x102001, x103000, x103001, x104000, x104001 => if x19 = true then (some false) else ((grid_Sides.f x104000 x104001 x3).bind fun bt106 => ((pixel_Meets.f x102000 x102001 x103000 x103001 bt106.1 bt106.2.1 bt106.2.2.1 bt106.2.2.2 0).bind fun t112 => (some t112)))
def pixel_Hits.f (k : Nat) (a0_0 : Int) (a0_1 : Int) (a1_0 : Int) (a1_1 : Int) (a2_0 : Int) (a2_1 : Int) (a3 : Int) : Option (Bool) := (grid_Right.f a3).bind fun t104 => (if t104 = true then ((grid_In.f a2_0 a2_1 a3).bind fun t105 => (pixel_Hits.j0 k a3 (!t105) a0_0 a0_1 a1_0 a1_1 a2_0 a2_1)) else (pixel_Hits.j0 k a3 true a0_0 a0_1 a1_0 a1_1 a2_0 a2_1))
theorem pixel_Hits.mono_l : ∀ k, (∀ y0 y1 y2 y3 y4 y5 y6 y7, LeO (pixel_Hits.j0 k y0 y1 y2 y3 y4 y5 y6 y7) (pixel_Hits.j0 (k + 1) y0 y1 y2 y3 y4 y5 y6 y7))
  | 0 => fun _ _ _ _ _ _ _ _ r h => by simp [pixel_Hits.j0] at h
  | k + 1 => by
    have ih0 := pixel_Hits.mono_l k
    · intro y0 y1 y2 y3 y4 y5 y6 y7
      unfold pixel_Hits.j0
      repeat' first
      | (with_reducible exact ih0 _ _ _ _ _ _ _ _)
      | (with_reducible exact LeO.refl _)
      | (with_reducible exact LeO.none _)
      | (with_reducible refine LeO.ite ?_ ?_)
      | (with_reducible refine LeO.bind ?_ (fun _ => ?_))
      | exact ih0 _ _ _ _ _ _ _ _
      | exact LeO.none _
      | refine LeO.ite ?_ ?_
      | refine LeO.bind ?_ (fun _ => ?_)
theorem pixel_Hits.mono : ∀ a0 a1 a2 a3 a4 a5 a6 k, LeO (pixel_Hits.f k a0 a1 a2 a3 a4 a5 a6) (pixel_Hits.f (k + 1) a0 a1 a2 a3 a4 a5 a6) := by
  intro a0 a1 a2 a3 a4 a5 a6 k
  have ih0 := pixel_Hits.mono_l k
  unfold pixel_Hits.f
  repeat' first
      | (with_reducible exact ih0 _ _ _ _ _ _ _ _)
      | (with_reducible exact LeO.refl _)
      | (with_reducible exact LeO.none _)
      | (with_reducible refine LeO.ite ?_ ?_)
      | (with_reducible refine LeO.bind ?_ (fun _ => ?_))
      | exact ih0 _ _ _ _ _ _ _ _
      | exact LeO.none _
      | refine LeO.ite ?_ ?_
      | refine LeO.bind ?_ (fun _ => ?_)
set_option maxHeartbeats 8000000 in
set_option maxRecDepth 100000 in
theorem pixel_Hits.calls (k : Nat) (a0_0 : Int) (a0_1 : Int) (a1_0 : Int) (a1_1 : Int) (a2_0 : Int) (a2_1 : Int) (a3 : Int) (r : Bool) (w : World) (h : pixel_Hits.f k a0_0 a0_1 a1_0 a1_1 a2_0 a2_1 a3 = some r) :
    Calls Try.prog 14 #[.agg #[.int .i64 a0_0, .int .i64 a0_1], .agg #[.int .i64 a1_0, .int .i64 a1_1], .agg #[.int .i64 a2_0, .int .i64 a2_1], .int .i64 a3] w fun e w' => e = .returned (.bool r) ∧ Below w.heap.size w w' := by
  have hu23 := Try.underlying23
  have hu30 := Try.underlying30
  have HB := A_ (Below.refl w.heap.size w)
  have H : ((grid_Right.f a3).bind fun t104 => (if t104 = true then ((grid_In.f a2_0 a2_1 a3).bind fun t105 => (pixel_Hits.j0 k a3 (!t105) a0_0 a0_1 a1_0 a1_1 a2_0 a2_1)) else (pixel_Hits.j0 k a3 true a0_0 a0_1 a1_0 a1_1 a2_0 a2_1))) = some r := h
  clear h
  have HC5 := A_ H
  clear H
  go_enter Try.func14, Try.ntmps14
  go_upto_region 1 with (first | ((with_reducible refine gate_dst (N := 4) rfl ?_); refine boxeq_ 4 #[.int .i64 a0_0, .int .i64 a0_1] 23 ?_; intro gb101 hg w6 hbox hb; have BK101 := A_ (hbox); have GW101 := ge_ HB hg; replace HB := st_ HB hb; have GE101 := GW101; clear hb hbox hg) | ((with_reducible refine gate_dst (N := 5) rfl ?_); refine boxeq_ 5 #[.int .i64 a1_0, .int .i64 a1_1] 23 ?_; intro gb102 hg w7 hbox hb; have BK102 := A_ (hbox); have GW102 := ge_ HB hg; replace HB := st_ HB hb; have GE102 := GW102; have NB101_102 := ne_ BK101 hg; replace BK101 := bb_ BK101 hb; have NB102_101 := A_ NB101_102.out.symm; clear hb hbox hg) | ((with_reducible refine gate_dst (N := 6) rfl ?_); refine boxeq_ 6 #[.int .i64 a2_0, .int .i64 a2_1] 30 ?_; intro gb103 hg w8 hbox hb; have BK103 := A_ (hbox); have GW103 := ge_ HB hg; replace HB := st_ HB hb; have GE103 := GW103; have NB101_103 := ne_ BK101 hg; replace BK101 := bb_ BK101 hb; have NB103_101 := A_ NB101_103.out.symm; have NB102_103 := ne_ BK102 hg; replace BK102 := bb_ BK102 hb; have NB103_102 := A_ NB102_103.out.symm; clear hb hbox hg))
  (try simp only [Act.put, List.setIfInBounds_toArray, List.set_cons_zero, List.set_cons_succ])
  go_cut [19] (fun v19 wc => ∃ (kq : Nat) (x19_4 : Bool), v19 = .bool x19_4 ∧ Aside0 (pixel_Hits.j0 kq a3 x19_4 a0_0 a0_1 a1_0 a1_1 a2_0 a2_1 = some r) ∧ Aside0 (kq ≤ k) ∧ Aside0 (wc.heap[gb101]? = some (.cells #[.int .i64 a0_0, .int .i64 a0_1] 23 (0, 0))) ∧ Aside0 (wc.heap[gb102]? = some (.cells #[.int .i64 a1_0, .int .i64 a1_1] 23 (0, 0))) ∧ Aside0 (wc.heap[gb103]? = some (.cells #[.int .i64 a2_0, .int .i64 a2_1] 30 (0, 0))) ∧ Aside0 (Below w.heap.size w wc))
  case first =>
    have H := HC5.out
    clear HC5
    replace H := Option.bind_eq_some_iff.mp H
    obtain ⟨t104, A90, H⟩ := H
    replace H : (if t104 = true then ((grid_In.f a2_0 a2_1 a3).bind fun t105 => (pixel_Hits.j0 k a3 (!t105) a0_0 a0_1 a1_0 a1_1 a2_0 a2_1)) else (pixel_Hits.j0 k a3 true a0_0 a0_1 a1_0 a1_1 a2_0 a2_1)) = some r := H
    have A9 := A_ A90
    clear A90
    by_cases c10 : t104 = true
    · subst c10
      have H1 : ((grid_In.f a2_0 a2_1 a3).bind fun t105 => (pixel_Hits.j0 k a3 (!t105) a0_0 a0_1 a1_0 a1_1 a2_0 a2_1)) = some r := by rw [if_pos rfl] at H; exact H
      clear H
      have H := H1
      clear H1
      replace H := Option.bind_eq_some_iff.mp H
      obtain ⟨t105, A110, H⟩ := H
      replace H : (pixel_Hits.j0 k a3 (!t105) a0_0 a0_1 a1_0 a1_1 a2_0 a2_1) = some r := H
      have A11 := A_ A110
      clear A110
      have H' := A_ H
      clear H
      go_wp2_with (first | ((with_reducible refine gate_callee (f := 34) rfl ?_); refine goesLq_ 12 rfl Try.func34 #[.int .i64 a3] ?_; (with_reducible refine (grid_Right.calls a3 true _ A9.out).mono ?_); rintro e w' ⟨rfl, ⟨nd, rfl⟩⟩; refine ⟨_, rfl, ?_⟩; have hnb12 := NB103_101.out; have hnc12 := NB101_103.out; have hnb13 := NB103_102.out; have hnc13 := NB102_103.out; have hcz14_0 : w8.cell? ⟨gb103, 0, none⟩ = some (.int .i64 a2_0) := (blk_cell BK103.out 0).trans rfl; have hcz14_1 : w8.cell? ⟨gb103, 1, none⟩ = some (.int .i64 a2_1) := (blk_cell BK103.out 1).trans rfl; have hfz14_0 := blk_frozen BK103.out 0; have hfz14_1 := blk_frozen BK103.out 1) | (go_at_call 20; (with_reducible refine (grid_In.calls a2_0 a2_1 a3 t105 _ A11.out).mono ?_); rintro e w15 ⟨rfl, hb⟩; replace BK101 := bb_ BK101 hb; replace BK102 := bb_ BK102 hb; replace BK103 := bb_ BK103 hb; replace HB := st_ HB hb; (try clear hb); (try clear hb2); (try clear hk); (try clear hi)))
      go_meet
      case rel => exact ⟨_, (!t105), (by first | rfl | (simp; done) | (simp [*]; done)), H', ⟨by first | omega | exact Nat.le_refl _⟩, ⟨b_ BK101⟩, ⟨b_ BK102⟩, ⟨b_ BK103⟩, ⟨l_ HB⟩⟩
    · replace c10 := Bool.eq_false_iff.mpr c10
      subst c10
      have H1 : (pixel_Hits.j0 k a3 true a0_0 a0_1 a1_0 a1_1 a2_0 a2_1) = some r := by rw [if_neg (show ¬ (false = true) by decide)] at H; exact H
      clear H
      have H := H1
      clear H1
      have H' := A_ H
      clear H
      go_wp2_with (first | ((with_reducible refine gate_callee (f := 34) rfl ?_); refine goesLq_ 12 rfl Try.func34 #[.int .i64 a3] ?_; (with_reducible refine (grid_Right.calls a3 false _ A9.out).mono ?_); rintro e w' ⟨rfl, ⟨nd, rfl⟩⟩; refine ⟨_, rfl, ?_⟩))
      go_meet
      case rel => exact ⟨_, (true), (by first | rfl | (simp; done) | (simp [*]; done)), H', ⟨by first | omega | exact Nat.le_refl _⟩, ⟨b_ BK101⟩, ⟨b_ BK102⟩, ⟨b_ BK103⟩, ⟨l_ HB⟩⟩
  case rest =>
    clear HC5
    try clear c1
    try clear p2
    try clear c3
    try clear c10
    try clear c12
    try clear c13
    try clear c14
    try clear hcz14_0
    try clear hcz14_1
    try clear hfz14_0
    try clear hfz14_1
    obtain ⟨kq, x19_4, rfl, HA, HJ4, BK101, BK102, BK103, HB⟩ := hcut
    cases kq with
    | zero => exact absurd HA.out (by simp [pixel_Hits.j0])
    | succ kj4 =>
      have H := HA.out
      clear HA
      simp only [pixel_Hits.j0] at H
      by_cases c16 : x19_4 = true
      · subst c16
        have H1 : (some false) = some r := by rw [if_pos rfl] at H; exact H
        clear H
        have H := H1
        clear H1
        obtain rfl := Option.some.inj H
        go_wp2
        go_ret
        exact ⟨by first | rfl | (simp [errW_none, errW_some] <;> rfl) | (simp [*, errW_none, errW_some] <;> rfl), l_ HB⟩
      · replace c16 := Bool.eq_false_iff.mpr c16
        subst c16
        have H1 : ((grid_Sides.f a2_0 a2_1 a3).bind fun bt106 => ((pixel_Meets.f a0_0 a0_1 a1_0 a1_1 bt106.1 bt106.2.1 bt106.2.2.1 bt106.2.2.2 0).bind fun t112 => (some t112))) = some r := by rw [if_neg (show ¬ (false = true) by decide)] at H; exact H
        clear H
        have H := H1
        clear H1
        replace H := Option.bind_eq_some_iff.mp H
        obtain ⟨⟨t106, t107, t108, t109⟩, A170, H⟩ := H
        replace H : ((pixel_Meets.f a0_0 a0_1 a1_0 a1_1 t106 t107 t108 t109 0).bind fun t112 => (some t112)) = some r := H
        have A17 := A_ A170
        clear A170
        replace H := Option.bind_eq_some_iff.mp H
        obtain ⟨t112, A180, H⟩ := H
        replace H : (some t112) = some r := H
        have A18 := A_ A180
        clear A180
        obtain rfl := Option.some.inj H
        have hnb19 := NB103_101.out
        have hnc19 := NB101_103.out
        have hnb20 := NB103_102.out
        have hnc20 := NB102_103.out
        have hcz21_0 : wc.cell? ⟨gb103, 0, none⟩ = some (.int .i64 a2_0) := (blk_cell BK103.out 0).trans rfl
        have hcz21_1 : wc.cell? ⟨gb103, 1, none⟩ = some (.int .i64 a2_1) := (blk_cell BK103.out 1).trans rfl
        have hfz21_0 := blk_frozen BK103.out 0
        have hfz21_1 := blk_frozen BK103.out 1
        go_wp2_with (first | ((with_reducible refine gate_callee (f := 22) rfl ?_); refine goesLq_ 23 rfl Try.func22 #[.agg #[.int .i64 a2_0, .int .i64 a2_1], .int .i64 a3] ?_; (with_reducible refine (grid_Sides.calls a2_0 a2_1 a3 t106 t107 t108 t109 _ A17.out).mono ?_); rintro e w22 ⟨rfl, hb⟩; refine ⟨_, rfl, ?_⟩; replace BK101 := bb_ BK101 hb; replace BK102 := bb_ BK102 hb; replace BK103 := bb_ BK103 hb; replace HB := st_ HB hb; (try clear hb); (try clear hb2); (try clear hk); (try clear hi)) | ((with_reducible refine gate_dst (N := 9) rfl ?_); refine boxeq_ 9 #[.int .i64 0, .int .i64 0] 23 ?_; intro gb110 hg w23 hbox hb; have BK110 := A_ (hbox); have GW110 := ge_ HB hg; replace HB := st_ HB hb; have GE110 := GW110; have NB101_110 := ne_ BK101 hg; replace BK101 := bb_ BK101 hb; have NB110_101 := A_ NB101_110.out.symm; have NB102_110 := ne_ BK102 hg; replace BK102 := bb_ BK102 hb; have NB110_102 := A_ NB102_110.out.symm; have NB103_110 := ne_ BK103 hg; replace BK103 := bb_ BK103 hb; have NB110_103 := A_ NB103_110.out.symm; clear hb hbox hg) | ((with_reducible refine gate_dst (N := 10) rfl ?_); refine boxeq_ 10 #[.int .i64 0, .int .i64 0] 23 ?_; intro gb111 hg w24 hbox hb; have BK111 := A_ (hbox); have GW111 := ge_ HB hg; replace HB := st_ HB hb; have GE111 := GW111; have NB101_111 := ne_ BK101 hg; replace BK101 := bb_ BK101 hb; have NB111_101 := A_ NB101_111.out.symm; have NB102_111 := ne_ BK102 hg; replace BK102 := bb_ BK102 hb; have NB111_102 := A_ NB102_111.out.symm; have NB103_111 := ne_ BK103 hg; replace BK103 := bb_ BK103 hb; have NB111_103 := A_ NB103_111.out.symm; have NB110_111 := ne_ BK110 hg; replace BK110 := bb_ BK110 hb; have NB111_110 := A_ NB110_111.out.symm; clear hb hbox hg; have hnb25 := NB110_101.out; have hnc25 := NB101_110.out; have hnb26 := NB110_102.out; have hnc26 := NB102_110.out; have hnb27 := NB110_103.out; have hnc27 := NB103_110.out; have hnb28 := NB110_111.out; have hnc28 := NB111_110.out; have hcz29_0 : w24.cell? ⟨gb110, 0, none⟩ = some (.int .i64 0) := (blk_cell BK110.out 0).trans rfl; have hcz29_1 : w24.cell? ⟨gb110, 1, none⟩ = some (.int .i64 0) := (blk_cell BK110.out 1).trans rfl; have hfz29_0 := blk_frozen BK110.out 0; have hfz29_1 := blk_frozen BK110.out 1; have hnb30 := NB111_101.out; have hnc30 := NB101_111.out; have hnb31 := NB111_102.out; have hnc31 := NB102_111.out; have hnb32 := NB111_103.out; have hnc32 := NB103_111.out; have hcz33_0 : w24.cell? ⟨gb111, 0, none⟩ = some (.int .i64 0) := (blk_cell BK111.out 0).trans rfl; have hcz33_1 : w24.cell? ⟨gb111, 1, none⟩ = some (.int .i64 0) := (blk_cell BK111.out 1).trans rfl; have hfz33_0 := blk_frozen BK111.out 0; have hfz33_1 := blk_frozen BK111.out 1; have hnb34 := NB101_102.out; have hnc34 := NB102_101.out; have hcz35_0 : w24.cell? ⟨gb101, 0, none⟩ = some (.int .i64 a0_0) := (blk_cell BK101.out 0).trans rfl; have hcz35_1 : w24.cell? ⟨gb101, 1, none⟩ = some (.int .i64 a0_1) := (blk_cell BK101.out 1).trans rfl; have hfz35_0 := blk_frozen BK101.out 0; have hfz35_1 := blk_frozen BK101.out 1; have hcz36_0 : w24.cell? ⟨gb102, 0, none⟩ = some (.int .i64 a1_0) := (blk_cell BK102.out 0).trans rfl; have hcz36_1 : w24.cell? ⟨gb102, 1, none⟩ = some (.int .i64 a1_1) := (blk_cell BK102.out 1).trans rfl; have hfz36_0 := blk_frozen BK102.out 0; have hfz36_1 := blk_frozen BK102.out 1) | ((with_reducible refine gate_callee (f := 11) rfl ?_); refine goesLq_ 30 rfl Try.func11 #[.agg #[.int .i64 a0_0, .int .i64 a0_1], .agg #[.int .i64 a1_0, .int .i64 a1_1], .agg #[.int .i64 t106, .int .i64 t107], .agg #[.int .i64 t108, .int .i64 t109], .int .i64 0] ?_; (with_reducible refine (pixel_Meets.calls a0_0 a0_1 a1_0 a1_1 t106 t107 t108 t109 0 t112 _ A18.out).mono ?_); rintro e w37 ⟨rfl, hb⟩; refine ⟨_, rfl, ?_⟩; replace BK101 := A_ (blk_below (g := gb101) (o := .cells #[.int .i64 a0_0, .int .i64 a0_1] 23 (0, 0)) (by (with_reducible repeat (first | refine blk_drewN ?_ _ | refine blk_drew ?_ | refine blk_alloc ?_ _)); refine blk_far ?_ NB101_111.out _; (with_reducible repeat (first | refine blk_drewN ?_ _ | refine blk_drew ?_ | refine blk_alloc ?_ _)); refine blk_far ?_ NB101_111.out _; (with_reducible repeat (first | refine blk_drewN ?_ _ | refine blk_drew ?_ | refine blk_alloc ?_ _)); refine blk_far ?_ NB101_110.out _; (with_reducible repeat (first | refine blk_drewN ?_ _ | refine blk_drew ?_ | refine blk_alloc ?_ _)); refine blk_far ?_ NB101_110.out _; (with_reducible repeat (first | refine blk_drewN ?_ _ | refine blk_drew ?_ | refine blk_alloc ?_ _)); exact BK101.out) hb); replace BK102 := A_ (blk_below (g := gb102) (o := .cells #[.int .i64 a1_0, .int .i64 a1_1] 23 (0, 0)) (by (with_reducible repeat (first | refine blk_drewN ?_ _ | refine blk_drew ?_ | refine blk_alloc ?_ _)); refine blk_far ?_ NB102_111.out _; (with_reducible repeat (first | refine blk_drewN ?_ _ | refine blk_drew ?_ | refine blk_alloc ?_ _)); refine blk_far ?_ NB102_111.out _; (with_reducible repeat (first | refine blk_drewN ?_ _ | refine blk_drew ?_ | refine blk_alloc ?_ _)); refine blk_far ?_ NB102_110.out _; (with_reducible repeat (first | refine blk_drewN ?_ _ | refine blk_drew ?_ | refine blk_alloc ?_ _)); refine blk_far ?_ NB102_110.out _; (with_reducible repeat (first | refine blk_drewN ?_ _ | refine blk_drew ?_ | refine blk_alloc ?_ _)); exact BK102.out) hb); replace BK103 := A_ (blk_below (g := gb103) (o := .cells #[.int .i64 a2_0, .int .i64 a2_1] 30 (0, 0)) (by (with_reducible repeat (first | refine blk_drewN ?_ _ | refine blk_drew ?_ | refine blk_alloc ?_ _)); refine blk_far ?_ NB103_111.out _; (with_reducible repeat (first | refine blk_drewN ?_ _ | refine blk_drew ?_ | refine blk_alloc ?_ _)); refine blk_far ?_ NB103_111.out _; (with_reducible repeat (first | refine blk_drewN ?_ _ | refine blk_drew ?_ | refine blk_alloc ?_ _)); refine blk_far ?_ NB103_110.out _; (with_reducible repeat (first | refine blk_drewN ?_ _ | refine blk_drew ?_ | refine blk_alloc ?_ _)); refine blk_far ?_ NB103_110.out _; (with_reducible repeat (first | refine blk_drewN ?_ _ | refine blk_drew ?_ | refine blk_alloc ?_ _)); exact BK103.out) hb); replace BK110 := A_ (blk_below (g := gb110) (o := .cells #[.int .i64 t106, .int .i64 t107] 23 (0, 0)) (by (with_reducible repeat (first | refine blk_drewN ?_ _ | refine blk_drew ?_ | refine blk_alloc ?_ _)); refine blk_far ?_ NB110_111.out _; (with_reducible repeat (first | refine blk_drewN ?_ _ | refine blk_drew ?_ | refine blk_alloc ?_ _)); refine blk_far ?_ NB110_111.out _; (with_reducible repeat (first | refine blk_drewN ?_ _ | refine blk_drew ?_ | refine blk_alloc ?_ _)); refine blk_put (cs := #[.int .i64 t106, .int .i64 0]) ?_ 1 _ rfl; (with_reducible repeat (first | refine blk_drewN ?_ _ | refine blk_drew ?_ | refine blk_alloc ?_ _)); refine blk_put (cs := #[.int .i64 0, .int .i64 0]) ?_ 0 _ rfl; (with_reducible repeat (first | refine blk_drewN ?_ _ | refine blk_drew ?_ | refine blk_alloc ?_ _)); exact BK110.out) hb); replace BK111 := A_ (blk_below (g := gb111) (o := .cells #[.int .i64 t108, .int .i64 t109] 23 (0, 0)) (by (with_reducible repeat (first | refine blk_drewN ?_ _ | refine blk_drew ?_ | refine blk_alloc ?_ _)); refine blk_put (cs := #[.int .i64 t108, .int .i64 0]) ?_ 1 _ rfl; (with_reducible repeat (first | refine blk_drewN ?_ _ | refine blk_drew ?_ | refine blk_alloc ?_ _)); refine blk_put (cs := #[.int .i64 0, .int .i64 0]) ?_ 0 _ rfl; (with_reducible repeat (first | refine blk_drewN ?_ _ | refine blk_drew ?_ | refine blk_alloc ?_ _)); refine blk_far ?_ NB111_110.out _; (with_reducible repeat (first | refine blk_drewN ?_ _ | refine blk_drew ?_ | refine blk_alloc ?_ _)); refine blk_far ?_ NB111_110.out _; (with_reducible repeat (first | refine blk_drewN ?_ _ | refine blk_drew ?_ | refine blk_alloc ?_ _)); exact BK111.out) hb); replace HB := st_ HB hb; (try clear hb); (try clear hb2); (try clear hk); (try clear hi)))
        go_ret
        exact ⟨by first | rfl | (simp [errW_none, errW_some] <;> rfl) | (simp [*, errW_none, errW_some] <;> rfl), l_ HB⟩

end Go.Proofs.Ytglkjeeiiflpjaa.F
