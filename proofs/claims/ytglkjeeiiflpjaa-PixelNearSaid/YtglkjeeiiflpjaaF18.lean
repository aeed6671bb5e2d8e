-- PRINTED by print.py (a twelfth state) out of the translation. Not trusted: Lean checks it.
import Derived.Test.YtglkjeeiiflpjaaF0
import Derived.Test.YtglkjeeiiflpjaaB3
import Derived.Test.YtglkjeeiiflpjaaFS
import Derived.Test.YtglkjeeiiflpjaaHMeets
namespace Go.Proofs.Ytglkjeeiiflpjaa.F
open Go.RowKit Go.Proofs.YtglkjeeiiflpjaaW.PrintWords Go.Proofs.YtglkjeeiiflpjaaW.PrintLast Go.Proofs.YtglkjeeiiflpjaaW.PrintMore
attribute [local go_sem] max2_int min2_int max_two min_two max_three min_three max_four min_four   -- for this text's walks alone
set_option linter.unusedVariables false
set_option linter.unusedSimpArgs false

/-! ### pixel_Near: function 18 -/
def pixel_Near.f (a0_0 : Int) (a0_1 : Int) (a1_0 : Int) (a1_1 : Int) (a2_0 : Int) (a2_1 : Int) (a3 : Int) : Option (Bool) := (cross_Right.f a2_0 a2_1).bind fun t104 => (if t104 = true then (if a3 < 0 then (some false) else (if a3 > 268435456 then (some false) else ((pixel_Meets.f a0_0 a0_1 a1_0 a1_1 (wrap64 ((wrap64 (2 * a2_0)) - a3)) (wrap64 ((wrap64 (2 * a2_1)) - a3)) (wrap64 ((wrap64 (2 * a2_0)) + a3)) (wrap64 ((wrap64 (2 * a2_1)) + a3)) 1).bind fun t105 => (some t105)))) else (some false))
set_option maxHeartbeats 8000000 in
set_option maxRecDepth 100000 in
theorem pixel_Near.calls (a0_0 : Int) (a0_1 : Int) (a1_0 : Int) (a1_1 : Int) (a2_0 : Int) (a2_1 : Int) (a3 : Int) (r : Bool) (w : World) (h : pixel_Near.f a0_0 a0_1 a1_0 a1_1 a2_0 a2_1 a3 = some r) :
    Calls Try.prog 18 #[.agg #[.int .i64 a0_0, .int .i64 a0_1], .agg #[.int .i64 a1_0, .int .i64 a1_1], .agg #[.int .i64 a2_0, .int .i64 a2_1], .int .i64 a3] w fun e w' => e = .returned (.bool r) ∧ Below w.heap.size w w' := by
  have hu23 := Try.underlying23
  have HB := A_ (Below.refl w.heap.size w)
  have H : ((cross_Right.f a2_0 a2_1).bind fun t104 => (if t104 = true then (if a3 < 0 then (some false) else (if a3 > 268435456 then (some false) else ((pixel_Meets.f a0_0 a0_1 a1_0 a1_1 (wrap64 ((wrap64 (2 * a2_0)) - a3)) (wrap64 ((wrap64 (2 * a2_1)) - a3)) (wrap64 ((wrap64 (2 * a2_0)) + a3)) (wrap64 ((wrap64 (2 * a2_1)) + a3)) 1).bind fun t105 => (some t105)))) else (some false))) = some r := h
  clear h
  replace H := Option.bind_eq_some_iff.mp H
  obtain ⟨t104, A50, H⟩ := H
  replace H : (if t104 = true then (if a3 < 0 then (some false) else (if a3 > 268435456 then (some false) else ((pixel_Meets.f a0_0 a0_1 a1_0 a1_1 (wrap64 ((wrap64 (2 * a2_0)) - a3)) (wrap64 ((wrap64 (2 * a2_1)) - a3)) (wrap64 ((wrap64 (2 * a2_0)) + a3)) (wrap64 ((wrap64 (2 * a2_1)) + a3)) 1).bind fun t105 => (some t105)))) else (some false)) = some r := H
  have A5 := A_ A50
  clear A50
  by_cases c6 : t104 = true
  · subst c6
    have H1 : (if a3 < 0 then (some false) else (if a3 > 268435456 then (some false) else ((pixel_Meets.f a0_0 a0_1 a1_0 a1_1 (wrap64 ((wrap64 (2 * a2_0)) - a3)) (wrap64 ((wrap64 (2 * a2_1)) - a3)) (wrap64 ((wrap64 (2 * a2_0)) + a3)) (wrap64 ((wrap64 (2 * a2_1)) + a3)) 1).bind fun t105 => (some t105)))) = some r := by rw [if_pos rfl] at H; exact H
    clear H
    have H := H1
    clear H1
    by_cases c7 : a3 < 0
    · rw [if_pos c7] at H
      have c7b0 : decide (a3 < 0) = true := decide_eq_true c7
      clear c7
      obtain rfl := Option.some.inj H
      go_enter Try.func18, Try.ntmps18
      go_wp2_with (first | ((with_reducible refine gate_dst (N := 4) rfl ?_); refine boxeq_ 4 #[.int .i64 a0_0, .int .i64 a0_1] 23 ?_; intro gb101 hg w8 hbox hb; have BK101 := A_ (hbox); have GW101 := ge_ HB hg; replace HB := st_ HB hb; have GE101 := GW101; clear hb hbox hg) | ((with_reducible refine gate_dst (N := 5) rfl ?_); refine boxeq_ 5 #[.int .i64 a1_0, .int .i64 a1_1] 23 ?_; intro gb102 hg w9 hbox hb; have BK102 := A_ (hbox); have GW102 := ge_ HB hg; replace HB := st_ HB hb; have GE102 := GW102; have NB101_102 := ne_ BK101 hg; replace BK101 := bb_ BK101 hb; have NB102_101 := A_ NB101_102.out.symm; clear hb hbox hg) | ((with_reducible refine gate_dst (N := 6) rfl ?_); refine boxeq_ 6 #[.int .i64 a2_0, .int .i64 a2_1] 23 ?_; intro gb103 hg w10 hbox hb; have BK103 := A_ (hbox); have GW103 := ge_ HB hg; replace HB := st_ HB hb; have GE103 := GW103; have NB101_103 := ne_ BK101 hg; replace BK101 := bb_ BK101 hb; have NB103_101 := A_ NB101_103.out.symm; have NB102_103 := ne_ BK102 hg; replace BK102 := bb_ BK102 hb; have NB103_102 := A_ NB102_103.out.symm; clear hb hbox hg; have hnb11 := NB103_101.out; have hnc11 := NB101_103.out; have hnb12 := NB103_102.out; have hnc12 := NB102_103.out; have hcz13_0 : w10.cell? ⟨gb103, 0, none⟩ = some (.int .i64 a2_0) := (blk_cell BK103.out 0).trans rfl; have hcz13_1 : w10.cell? ⟨gb103, 1, none⟩ = some (.int .i64 a2_1) := (blk_cell BK103.out 1).trans rfl; have hfz13_0 := blk_frozen BK103.out 0; have hfz13_1 := blk_frozen BK103.out 1) | ((with_reducible refine gate_callee (f := 23) rfl ?_); refine goesLq_ 10 rfl Try.func23 #[.agg #[.int .i64 a2_0, .int .i64 a2_1]] ?_; (with_reducible refine (cross_Right.calls a2_0 a2_1 true _ A5.out).mono ?_); rintro e w14 ⟨rfl, hb⟩; refine ⟨_, rfl, ?_⟩; replace BK101 := bb_ BK101 hb; replace BK102 := bb_ BK102 hb; replace BK103 := bb_ BK103 hb; replace HB := st_ HB hb; (try clear hb); (try clear hb2); (try clear hk); (try clear hi)))
      go_ret
      exact ⟨by first | rfl | (simp [errW_none, errW_some] <;> rfl) | (simp [*, errW_none, errW_some] <;> rfl), l_ HB⟩
    · rw [if_neg c7] at H
      have c7b0 : decide (a3 < 0) = false := decide_eq_false c7
      clear c7
      by_cases c15 : a3 > 268435456
      · rw [if_pos c15] at H
        have c15b0 : decide (268435456 < a3) = true := decide_eq_true c15
        clear c15
        obtain rfl := Option.some.inj H
        go_enter Try.func18, Try.ntmps18
        go_wp2_with (first | ((with_reducible refine gate_dst (N := 4) rfl ?_); refine boxeq_ 4 #[.int .i64 a0_0, .int .i64 a0_1] 23 ?_; intro gb101 hg w16 hbox hb; have BK101 := A_ (hbox); have GW101 := ge_ HB hg; replace HB := st_ HB hb; have GE101 := GW101; clear hb hbox hg) | ((with_reducible refine gate_dst (N := 5) rfl ?_); refine boxeq_ 5 #[.int .i64 a1_0, .int .i64 a1_1] 23 ?_; intro gb102 hg w17 hbox hb; have BK102 := A_ (hbox); have GW102 := ge_ HB hg; replace HB := st_ HB hb; have GE102 := GW102; have NB101_102 := ne_ BK101 hg; replace BK101 := bb_ BK101 hb; have NB102_101 := A_ NB101_102.out.symm; clear hb hbox hg) | ((with_reducible refine gate_dst (N := 6) rfl ?_); refine boxeq_ 6 #[.int .i64 a2_0, .int .i64 a2_1] 23 ?_; intro gb103 hg w18 hbox hb; have BK103 := A_ (hbox); have GW103 := ge_ HB hg; replace HB := st_ HB hb; have GE103 := GW103; have NB101_103 := ne_ BK101 hg; replace BK101 := bb_ BK101 hb; have NB103_101 := A_ NB101_103.out.symm; have NB102_103 := ne_ BK102 hg; replace BK102 := bb_ BK102 hb; have NB103_102 := A_ NB102_103.out.symm; clear hb hbox hg; have hnb19 := NB103_101.out; have hnc19 := NB101_103.out; have hnb20 := NB103_102.out; have hnc20 := NB102_103.out; have hcz21_0 : w18.cell? ⟨gb103, 0, none⟩ = some (.int .i64 a2_0) := (blk_cell BK103.out 0).trans rfl; have hcz21_1 : w18.cell? ⟨gb103, 1, none⟩ = some (.int .i64 a2_1) := (blk_cell BK103.out 1).trans rfl; have hfz21_0 := blk_frozen BK103.out 0; have hfz21_1 := blk_frozen BK103.out 1) | ((with_reducible refine gate_callee (f := 23) rfl ?_); refine goesLq_ 10 rfl Try.func23 #[.agg #[.int .i64 a2_0, .int .i64 a2_1]] ?_; (with_reducible refine (cross_Right.calls a2_0 a2_1 true _ A5.out).mono ?_); rintro e w22 ⟨rfl, hb⟩; refine ⟨_, rfl, ?_⟩; replace BK101 := bb_ BK101 hb; replace BK102 := bb_ BK102 hb; replace BK103 := bb_ BK103 hb; replace HB := st_ HB hb; (try clear hb); (try clear hb2); (try clear hk); (try clear hi)))
        go_ret
        exact ⟨by first | rfl | (simp [errW_none, errW_some] <;> rfl) | (simp [*, errW_none, errW_some] <;> rfl), l_ HB⟩
      · rw [if_neg c15] at H
        have c15b0 : decide (268435456 < a3) = false := decide_eq_false c15
        clear c15
        replace H := Option.bind_eq_some_iff.mp H
        obtain ⟨t105, A230, H⟩ := H
        replace H : (some t105) = some r := H
        have A23 := A_ A230
        clear A230
        obtain rfl := Option.some.inj H
        go_enter Try.func18, Try.ntmps18
        go_wp2_with (first | ((with_reducible refine gate_dst (N := 4) rfl ?_); refine boxeq_ 4 #[.int .i64 a0_0, .int .i64 a0_1] 23 ?_; intro gb101 hg w24 hbox hb; have BK101 := A_ (hbox); have GW101 := ge_ HB hg; replace HB := st_ HB hb; have GE101 := GW101; clear hb hbox hg) | ((with_reducible refine gate_dst (N := 5) rfl ?_); refine boxeq_ 5 #[.int .i64 a1_0, .int .i64 a1_1] 23 ?_; intro gb102 hg w25 hbox hb; have BK102 := A_ (hbox); have GW102 := ge_ HB hg; replace HB := st_ HB hb; have GE102 := GW102; have NB101_102 := ne_ BK101 hg; replace BK101 := bb_ BK101 hb; have NB102_101 := A_ NB101_102.out.symm; clear hb hbox hg) | ((with_reducible refine gate_dst (N := 6) rfl ?_); refine boxeq_ 6 #[.int .i64 a2_0, .int .i64 a2_1] 23 ?_; intro gb103 hg w26 hbox hb; have BK103 := A_ (hbox); have GW103 := ge_ HB hg; replace HB := st_ HB hb; have GE103 := GW103; have NB101_103 := ne_ BK101 hg; replace BK101 := bb_ BK101 hb; have NB103_101 := A_ NB101_103.out.symm; have NB102_103 := ne_ BK102 hg; replace BK102 := bb_ BK102 hb; have NB103_102 := A_ NB102_103.out.symm; clear hb hbox hg; have hnb27 := NB103_101.out; have hnc27 := NB101_103.out; have hnb28 := NB103_102.out; have hnc28 := NB102_103.out; have hcz29_0 : w26.cell? ⟨gb103, 0, none⟩ = some (.int .i64 a2_0) := (blk_cell BK103.out 0).trans rfl; have hcz29_1 : w26.cell? ⟨gb103, 1, none⟩ = some (.int .i64 a2_1) := (blk_cell BK103.out 1).trans rfl; have hfz29_0 := blk_frozen BK103.out 0; have hfz29_1 := blk_frozen BK103.out 1) | ((with_reducible refine gate_callee (f := 23) rfl ?_); refine goesLq_ 10 rfl Try.func23 #[.agg #[.int .i64 a2_0, .int .i64 a2_1]] ?_; (with_reducible refine (cross_Right.calls a2_0 a2_1 true _ A5.out).mono ?_); rintro e w30 ⟨rfl, hb⟩; refine ⟨_, rfl, ?_⟩; replace BK101 := bb_ BK101 hb; replace BK102 := bb_ BK102 hb; replace BK103 := bb_ BK103 hb; replace HB := st_ HB hb; (try clear hb); (try clear hb2); (try clear hk); (try clear hi); have hnb31 := NB101_102.out; have hnc31 := NB102_101.out; have hcz32_0 : w30.cell? ⟨gb101, 0, none⟩ = some (.int .i64 a0_0) := (blk_cell BK101.out 0).trans rfl; have hcz32_1 : w30.cell? ⟨gb101, 1, none⟩ = some (.int .i64 a0_1) := (blk_cell BK101.out 1).trans rfl; have hfz32_0 := blk_frozen BK101.out 0; have hfz32_1 := blk_frozen BK101.out 1; have hcz33_0 : w30.cell? ⟨gb102, 0, none⟩ = some (.int .i64 a1_0) := (blk_cell BK102.out 0).trans rfl; have hcz33_1 : w30.cell? ⟨gb102, 1, none⟩ = some (.int .i64 a1_1) := (blk_cell BK102.out 1).trans rfl; have hfz33_0 := blk_frozen BK102.out 0; have hfz33_1 := blk_frozen BK102.out 1; have hcz34_0 : w30.cell? ⟨gb103, 0, none⟩ = some (.int .i64 a2_0) := (blk_cell BK103.out 0).trans rfl; have hcz34_1 : w30.cell? ⟨gb103, 1, none⟩ = some (.int .i64 a2_1) := (blk_cell BK103.out 1).trans rfl; have hfz34_0 := blk_frozen BK103.out 0; have hfz34_1 := blk_frozen BK103.out 1) | ((with_reducible refine gate_callee (f := 11) rfl ?_); refine goesLq_ 44 rfl Try.func11 #[.agg #[.int .i64 a0_0, .int .i64 a0_1], .agg #[.int .i64 a1_0, .int .i64 a1_1], .agg #[.int .i64 (wrap64 ((wrap64 (2 * a2_0)) - a3)), .int .i64 (wrap64 ((wrap64 (2 * a2_1)) - a3))], .agg #[.int .i64 (wrap64 ((wrap64 (2 * a2_0)) + a3)), .int .i64 (wrap64 ((wrap64 (2 * a2_1)) + a3))], .int .i64 1] ?_; (with_reducible refine (pixel_Meets.calls a0_0 a0_1 a1_0 a1_1 (wrap64 ((wrap64 (2 * a2_0)) - a3)) (wrap64 ((wrap64 (2 * a2_1)) - a3)) (wrap64 ((wrap64 (2 * a2_0)) + a3)) (wrap64 ((wrap64 (2 * a2_1)) + a3)) 1 t105 _ A23.out).mono ?_); rintro e w35 ⟨rfl, hb⟩; refine ⟨_, rfl, ?_⟩; replace BK101 := bb_ BK101 hb; replace BK102 := bb_ BK102 hb; replace BK103 := bb_ BK103 hb; replace HB := st_ HB hb; (try clear hb); (try clear hb2); (try clear hk); (try clear hi)))
        go_ret
        exact ⟨by first | rfl | (simp [errW_none, errW_some] <;> rfl) | (simp [*, errW_none, errW_some] <;> rfl), l_ HB⟩
  · replace c6 := Bool.eq_false_iff.mpr c6
    subst c6
    have H1 : (some false) = some r := by rw [if_neg (show ¬ (false = true) by decide)] at H; exact H
    clear H
    have H := H1
    clear H1
    obtain rfl := Option.some.inj H
    go_enter Try.func18, Try.ntmps18
    go_wp2_with (first | ((with_reducible refine gate_dst (N := 4) rfl ?_); refine boxeq_ 4 #[.int .i64 a0_0, .int .i64 a0_1] 23 ?_; intro gb101 hg w36 hbox hb; have BK101 := A_ (hbox); have GW101 := ge_ HB hg; replace HB := st_ HB hb; have GE101 := GW101; clear hb hbox hg) | ((with_reducible refine gate_dst (N := 5) rfl ?_); refine boxeq_ 5 #[.int .i64 a1_0, .int .i64 a1_1] 23 ?_; intro gb102 hg w37 hbox hb; have BK102 := A_ (hbox); have GW102 := ge_ HB hg; replace HB := st_ HB hb; have GE102 := GW102; have NB101_102 := ne_ BK101 hg; replace BK101 := bb_ BK101 hb; have NB102_101 := A_ NB101_102.out.symm; clear hb hbox hg) | ((with_reducible refine gate_dst (N := 6) rfl ?_); refine boxeq_ 6 #[.int .i64 a2_0, .int .i64 a2_1] 23 ?_; intro gb103 hg w38 hbox hb; have BK103 := A_ (hbox); have GW103 := ge_ HB hg; replace HB := st_ HB hb; have GE103 := GW103; have NB101_103 := ne_ BK101 hg; replace BK101 := bb_ BK101 hb; have NB103_101 := A_ NB101_103.out.symm; have NB102_103 := ne_ BK102 hg; replace BK102 := bb_ BK102 hb; have NB103_102 := A_ NB102_103.out.symm; clear hb hbox hg; have hnb39 := NB103_101.out; have hnc39 := NB101_103.out; have hnb40 := NB103_102.out; have hnc40 := NB102_103.out; have hcz41_0 : w38.cell? ⟨gb103, 0, none⟩ = some (.int .i64 a2_0) := (blk_cell BK103.out 0).trans rfl; have hcz41_1 : w38.cell? ⟨gb103, 1, none⟩ = some (.int .i64 a2_1) := (blk_cell BK103.out 1).trans rfl; have hfz41_0 := blk_frozen BK103.out 0; have hfz41_1 := blk_frozen BK103.out 1) | ((with_reducible refine gate_callee (f := 23) rfl ?_); refine goesLq_ 10 rfl Try.func23 #[.agg #[.int .i64 a2_0, .int .i64 a2_1]] ?_; (with_reducible refine (cross_Right.calls a2_0 a2_1 false _ A5.out).mono ?_); rintro e w42 ⟨rfl, hb⟩; refine ⟨_, rfl, ?_⟩; replace BK101 := bb_ BK101 hb; replace BK102 := bb_ BK102 hb; replace BK103 := bb_ BK103 hb; replace HB := st_ HB hb; (try clear hb); (try clear hb2); (try clear hk); (try clear hi)))
    go_ret
    exact ⟨by first | rfl | (simp [errW_none, errW_some] <;> rfl) | (simp [*, errW_none, errW_some] <;> rfl), l_ HB⟩

end Go.Proofs.Ytglkjeeiiflpjaa.F
