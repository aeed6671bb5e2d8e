-- PRINTED by print.py (a twelfth state) out of the translation. Not trusted: Lean checks it.
import Derived.Test.YtglkjeeiiflpjaaF0
import Derived.Test.YtglkjeeiiflpjaaB3
import Derived.Test.YtglkjeeiiflpjaaFS
import Derived.Test.YtglkjeeiiflpjaaF35
import Derived.Test.YtglkjeeiiflpjaaF36
namespace Go.Proofs.Ytglkjeeiiflpjaa.F
open Go.RowKit Go.Proofs.YtglkjeeiiflpjaaW.PrintWords Go.Proofs.YtglkjeeiiflpjaaW.PrintLast Go.Proofs.YtglkjeeiiflpjaaW.PrintMore
attribute [local go_sem] max2_int min2_int max_two min_two max_three min_three max_four min_four   -- for this text's walks alone
set_option linter.unusedVariables false
set_option linter.unusedSimpArgs false

/-! ### cobwebref03_In: function 16 -/
def cobwebref03_In.f (k : Nat) (a0_0 : Int) (a0_1 : Int) (a1 : Int) : Option (Bool) := (cobwebref01_Of.f k a0_0).bind fun bt102 => ((cobwebref03_Rung.f a1).bind fun t106 => ((cobwebref03_near.f k bt102.1 bt102.2 t106).bind fun t107 => (if t107 = true then ((cobwebref01_Of.f k a0_1).bind fun bt108 => ((cobwebref03_Rung.f a1).bind fun t112 => ((cobwebref03_near.f k bt108.1 bt108.2 t112).bind fun t113 => (some t113)))) else (some false))))
theorem cobwebref03_In.mono : ∀ a0 a1 a2 k, LeO (cobwebref03_In.f k a0 a1 a2) (cobwebref03_In.f (k + 1) a0 a1 a2) := by
  intro a0 a1 a2 k
  unfold cobwebref03_In.f
  repeat' first
      | (with_reducible exact cobwebref01_Of.mono _ _)
      | (with_reducible exact cobwebref03_near.mono _ _ _ _)
      | (with_reducible exact LeO.refl _)
      | (with_reducible exact LeO.none _)
      | (with_reducible refine LeO.ite ?_ ?_)
      | (with_reducible refine LeO.bind ?_ (fun _ => ?_))
      | exact cobwebref01_Of.mono _ _
      | exact cobwebref03_near.mono _ _ _ _
      | exact LeO.none _
      | refine LeO.ite ?_ ?_
      | refine LeO.bind ?_ (fun _ => ?_)
set_option maxHeartbeats 8000000 in
set_option maxRecDepth 100000 in
theorem cobwebref03_In.calls (k : Nat) (a0_0 : Int) (a0_1 : Int) (a1 : Int) (r : Bool) (w : World) (h : cobwebref03_In.f k a0_0 a0_1 a1 = some r) :
    Calls Try.prog 16 #[.agg #[.int .i64 a0_0, .int .i64 a0_1], .int .i64 a1] w fun e w' => e = .returned (.bool r) ∧ Below w.heap.size w w' := by
  have hu34 := Try.underlying34
  have HB := A_ (Below.refl w.heap.size w)
  have H : ((cobwebref01_Of.f k a0_0).bind fun bt102 => ((cobwebref03_Rung.f a1).bind fun t106 => ((cobwebref03_near.f k bt102.1 bt102.2 t106).bind fun t107 => (if t107 = true then ((cobwebref01_Of.f k a0_1).bind fun bt108 => ((cobwebref03_Rung.f a1).bind fun t112 => ((cobwebref03_near.f k bt108.1 bt108.2 t112).bind fun t113 => (some t113)))) else (some false))))) = some r := h
  clear h
  replace H := Option.bind_eq_some_iff.mp H
  obtain ⟨⟨t102, t103⟩, A30, H⟩ := H
  replace H : ((cobwebref03_Rung.f a1).bind fun t106 => ((cobwebref03_near.f k t102 t103 t106).bind fun t107 => (if t107 = true then ((cobwebref01_Of.f k a0_1).bind fun bt108 => ((cobwebref03_Rung.f a1).bind fun t112 => ((cobwebref03_near.f k bt108.1 bt108.2 t112).bind fun t113 => (some t113)))) else (some false)))) = some r := H
  have A3 := A_ A30
  clear A30
  replace H := Option.bind_eq_some_iff.mp H
  obtain ⟨t106, A40, H⟩ := H
  replace H : ((cobwebref03_near.f k t102 t103 t106).bind fun t107 => (if t107 = true then ((cobwebref01_Of.f k a0_1).bind fun bt108 => ((cobwebref03_Rung.f a1).bind fun t112 => ((cobwebref03_near.f k bt108.1 bt108.2 t112).bind fun t113 => (some t113)))) else (some false))) = some r := H
  have A4 := A_ A40
  clear A40
  replace H := Option.bind_eq_some_iff.mp H
  obtain ⟨t107, A50, H⟩ := H
  replace H : (if t107 = true then ((cobwebref01_Of.f k a0_1).bind fun bt108 => ((cobwebref03_Rung.f a1).bind fun t112 => ((cobwebref03_near.f k bt108.1 bt108.2 t112).bind fun t113 => (some t113)))) else (some false)) = some r := H
  have A5 := A_ A50
  clear A50
  by_cases c6 : t107 = true
  · subst c6
    have H1 : ((cobwebref01_Of.f k a0_1).bind fun bt108 => ((cobwebref03_Rung.f a1).bind fun t112 => ((cobwebref03_near.f k bt108.1 bt108.2 t112).bind fun t113 => (some t113)))) = some r := by rw [if_pos rfl] at H; exact H
    clear H
    have H := H1
    clear H1
    replace H := Option.bind_eq_some_iff.mp H
    obtain ⟨⟨t108, t109⟩, A70, H⟩ := H
    replace H : ((cobwebref03_Rung.f a1).bind fun t112 => ((cobwebref03_near.f k t108 t109 t112).bind fun t113 => (some t113))) = some r := H
    have A7 := A_ A70
    clear A70
    replace H := Option.bind_eq_some_iff.mp H
    obtain ⟨t112, A80, H⟩ := H
    replace H : ((cobwebref03_near.f k t108 t109 t112).bind fun t113 => (some t113)) = some r := H
    have A8 := A_ A80
    clear A80
    replace H := Option.bind_eq_some_iff.mp H
    obtain ⟨t113, A90, H⟩ := H
    replace H : (some t113) = some r := H
    have A9 := A_ A90
    clear A90
    obtain rfl := Option.some.inj H
    go_enter Try.func16, Try.ntmps16
    go_wp2_with (first | ((with_reducible refine gate_dst (N := 2) rfl ?_); refine boxeq_ 2 #[.int .i64 a0_0, .int .i64 a0_1] 34 ?_; intro gb101 hg w10 hbox hb; have BK101 := A_ (hbox); have GW101 := ge_ HB hg; replace HB := st_ HB hb; have GE101 := GW101; clear hb hbox hg; have hcz11_0 : w10.cell? ⟨gb101, 0, none⟩ = some (.int .i64 a0_0) := (blk_cell BK101.out 0).trans rfl; have hcz11_1 : w10.cell? ⟨gb101, 1, none⟩ = some (.int .i64 a0_1) := (blk_cell BK101.out 1).trans rfl; have hfz11_0 := blk_frozen BK101.out 0; have hfz11_1 := blk_frozen BK101.out 1) | ((with_reducible refine gate_callee (f := 36) rfl ?_); refine goesLq_ 7 rfl Try.func36 #[.int .i64 a0_0] ?_; (with_reducible refine (cobwebref01_Of.calls k a0_0 t102 t103 _ A3.out).mono ?_); rintro e w12 ⟨v104, rfl, ho0, hb⟩; refine ⟨_, rfl, ?_⟩; have HO105 := A_ (Kd.R_lower ho0 (below_size (l_ HB))); replace BK101 := bb_ BK101 hb; replace HB := st_ HB hb; (try clear hb); (try clear hb2); (try clear hk); (try clear hi); (try clear ho0)) | ((with_reducible refine gate_callee (f := 15) rfl ?_); refine goesLq_ 9 rfl Try.func15 #[.int .i64 a1] ?_; (with_reducible refine (cobwebref03_Rung.calls a1 t106 _ A4.out).mono ?_); rintro e w' ⟨rfl, ⟨nd, rfl⟩⟩; refine ⟨_, rfl, ?_⟩; obtain ⟨Ao13, co13, eo13⟩ := Kd.R_slice HO105.out; subst eo13) | ((with_reducible refine gate_callee (f := 35) rfl ?_); refine goesLq_ 10 rfl Try.func35 #[.agg #[.bool t102, .slice Ao13 t103.length co13], .int .i64 t106] ?_; (with_reducible refine (cobwebref03_near.calls k t102 _ _ t103 t106 true _ ?side1 ?side2 A5.out).mono ?_); (case side1 => exact c_ (Kd.R_reads' HO105.out).2.2); (case side2 => exact (Kd.R_reads' HO105.out).2.1); rintro e w14 ⟨rfl, hb⟩; refine ⟨_, rfl, ?_⟩; replace HO105 := A_ (Kd.R_below (r_ HO105.out) hb); replace BK101 := bb_ BK101 hb; replace HB := st_ HB hb; (try clear hb); (try clear hb2); (try clear hk); (try clear hi); have hcz15_0 : w14.cell? ⟨gb101, 0, none⟩ = some (.int .i64 a0_0) := (blk_cell BK101.out 0).trans rfl; have hcz15_1 : w14.cell? ⟨gb101, 1, none⟩ = some (.int .i64 a0_1) := (blk_cell BK101.out 1).trans rfl; have hfz15_0 := blk_frozen BK101.out 0; have hfz15_1 := blk_frozen BK101.out 1) | (go_at_call 36; (with_reducible refine (cobwebref01_Of.calls k a0_1 t108 t109 _ A7.out).mono ?_); rintro e w16 ⟨v110, rfl, ho0, hb⟩; have HO111 := A_ (Kd.R_lower (Kd.R_new' ho0 (Kd.R_lt (r_ HO105.out))) (below_size (l_ HB))); replace HO105 := A_ (Kd.R_elder' (r_ HO105.out) (Kd.R_base ho0) hb); replace BK101 := bb_ BK101 hb; replace HB := st_ HB hb; (try clear hb); (try clear hb2); (try clear hk); (try clear hi); (try clear ho0)) | (go_at_call 15; (with_reducible refine (cobwebref03_Rung.calls a1 t112 _ A8.out).mono ?_); rintro e w' ⟨rfl, ⟨nd, rfl⟩⟩; obtain ⟨Ao17, co17, eo17⟩ := Kd.R_slice HO111.out; subst eo17) | (go_at_call 35; (with_reducible refine (cobwebref03_near.calls k t108 _ _ t109 t112 t113 _ ?side1 ?side2 A9.out).mono ?_); (case side1 => exact c_ (Kd.R_reads' HO111.out).2.2); (case side2 => exact (Kd.R_reads' HO111.out).2.1); rintro e w18 ⟨rfl, hb⟩; replace HO105 := A_ (Kd.R_below (r_ HO105.out) hb); replace HO111 := A_ (Kd.R_below (r_ HO111.out) hb); replace BK101 := bb_ BK101 hb; replace HB := st_ HB hb; (try clear hb); (try clear hb2); (try clear hk); (try clear hi)))
    go_ret
    exact ⟨by first | rfl | (simp [errW_none, errW_some] <;> rfl) | (simp [*, errW_none, errW_some] <;> rfl), l_ HB⟩
  · replace c6 := Bool.eq_false_iff.mpr c6
    subst c6
    have H1 : (some false) = some r := by rw [if_neg (show ¬ (false = true) by decide)] at H; exact H
    clear H
    have H := H1
    clear H1
    obtain rfl := Option.some.inj H
    go_enter Try.func16, Try.ntmps16
    go_wp2_with (first | ((with_reducible refine gate_dst (N := 2) rfl ?_); refine boxeq_ 2 #[.int .i64 a0_0, .int .i64 a0_1] 34 ?_; intro gb101 hg w19 hbox hb; have BK101 := A_ (hbox); have GW101 := ge_ HB hg; replace HB := st_ HB hb; have GE101 := GW101; clear hb hbox hg; have hcz20_0 : w19.cell? ⟨gb101, 0, none⟩ = some (.int .i64 a0_0) := (blk_cell BK101.out 0).trans rfl; have hcz20_1 : w19.cell? ⟨gb101, 1, none⟩ = some (.int .i64 a0_1) := (blk_cell BK101.out 1).trans rfl; have hfz20_0 := blk_frozen BK101.out 0; have hfz20_1 := blk_frozen BK101.out 1) | ((with_reducible refine gate_callee (f := 36) rfl ?_); refine goesLq_ 7 rfl Try.func36 #[.int .i64 a0_0] ?_; (with_reducible refine (cobwebref01_Of.calls k a0_0 t102 t103 _ A3.out).mono ?_); rintro e w21 ⟨v104, rfl, ho0, hb⟩; refine ⟨_, rfl, ?_⟩; have HO105 := A_ (Kd.R_lower ho0 (below_size (l_ HB))); replace BK101 := bb_ BK101 hb; replace HB := st_ HB hb; (try clear hb); (try clear hb2); (try clear hk); (try clear hi); (try clear ho0)) | ((with_reducible refine gate_callee (f := 15) rfl ?_); refine goesLq_ 9 rfl Try.func15 #[.int .i64 a1] ?_; (with_reducible refine (cobwebref03_Rung.calls a1 t106 _ A4.out).mono ?_); rintro e w' ⟨rfl, ⟨nd, rfl⟩⟩; refine ⟨_, rfl, ?_⟩; obtain ⟨Ao22, co22, eo22⟩ := Kd.R_slice HO105.out; subst eo22) | ((with_reducible refine gate_callee (f := 35) rfl ?_); refine goesLq_ 10 rfl Try.func35 #[.agg #[.bool t102, .slice Ao22 t103.length co22], .int .i64 t106] ?_; (with_reducible refine (cobwebref03_near.calls k t102 _ _ t103 t106 false _ ?side1 ?side2 A5.out).mono ?_); (case side1 => exact c_ (Kd.R_reads' HO105.out).2.2); (case side2 => exact (Kd.R_reads' HO105.out).2.1); rintro e w23 ⟨rfl, hb⟩; refine ⟨_, rfl, ?_⟩; replace HO105 := A_ (Kd.R_below (r_ HO105.out) hb); replace BK101 := bb_ BK101 hb; replace HB := st_ HB hb; (try clear hb); (try clear hb2); (try clear hk); (try clear hi)))
    go_ret
    exact ⟨by first | rfl | (simp [errW_none, errW_some] <;> rfl) | (simp [*, errW_none, errW_some] <;> rfl), l_ HB⟩

end Go.Proofs.Ytglkjeeiiflpjaa.F
