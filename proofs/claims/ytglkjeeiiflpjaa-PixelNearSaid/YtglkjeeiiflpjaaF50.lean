-- PRINTED by print.py (a twelfth state) out of the translation. Not trusted: Lean checks it.
import Derived.Test.YtglkjeeiiflpjaaF0
import Derived.Test.YtglkjeeiiflpjaaB3
import Derived.Test.YtglkjeeiiflpjaaF31
import Derived.Test.YtglkjeeiiflpjaaF36
namespace Go.Proofs.Ytglkjeeiiflpjaa.F
open Go.RowKit Go.Proofs.YtglkjeeiiflpjaaW.PrintWords Go.Proofs.YtglkjeeiiflpjaaW.PrintLast Go.Proofs.YtglkjeeiiflpjaaW.PrintMore
attribute [local go_sem] max2_int min2_int max_two min_two max_three min_three max_four min_four   -- for this text's walks alone
set_option linter.unusedVariables false
set_option linter.unusedSimpArgs false

/-! ### cobwebref01_Power: function 50 -/
def cobwebref01_Power.l0 : Nat → Int → Int → Bool → List Int → Option (Bool × List Int)
  | 0, _, _, _, _ => none
  | k + 1, x0, x4, x107000, x107001 => if x4 < x0 then ((cobwebref01_Add.f k x107000 x107001 x107000 x107001).bind fun bt107 => (cobwebref01_Power.l0 k x0 (wrap64 (x4 + 1)) bt107.1 bt107.2)) else (some (x107000, x107001))
def cobwebref01_Power.f (k : Nat) (a0 : Int) : Option (Bool × List Int) := (cobwebref01_Of.f k 1).bind fun bt102 => (cobwebref01_Power.l0 k a0 0 bt102.1 bt102.2)
theorem cobwebref01_Power.mono_l : ∀ k, (∀ y0 y1 y2 y3, LeO (cobwebref01_Power.l0 k y0 y1 y2 y3) (cobwebref01_Power.l0 (k + 1) y0 y1 y2 y3))
  | 0 => fun _ _ _ _ r h => by simp [cobwebref01_Power.l0] at h
  | k + 1 => by
    have ih0 := cobwebref01_Power.mono_l k
    · intro y0 y1 y2 y3
      unfold cobwebref01_Power.l0
      repeat' first
      | (with_reducible exact ih0 _ _ _ _)
      | (with_reducible exact cobwebref01_Add.mono _ _ _ _ _)
      | (with_reducible exact cobwebref01_Of.mono _ _)
      | (with_reducible exact LeO.refl _)
      | (with_reducible exact LeO.none _)
      | (with_reducible refine LeO.ite ?_ ?_)
      | (with_reducible refine LeO.bind ?_ (fun _ => ?_))
      | exact ih0 _ _ _ _
      | exact cobwebref01_Add.mono _ _ _ _ _
      | exact cobwebref01_Of.mono _ _
      | exact LeO.none _
      | refine LeO.ite ?_ ?_
      | refine LeO.bind ?_ (fun _ => ?_)
theorem cobwebref01_Power.mono : ∀ a0 k, LeO (cobwebref01_Power.f k a0) (cobwebref01_Power.f (k + 1) a0) := by
  intro a0 k
  have ih0 := cobwebref01_Power.mono_l k
  unfold cobwebref01_Power.f
  repeat' first
      | (with_reducible exact ih0 _ _ _ _)
      | (with_reducible exact cobwebref01_Add.mono _ _ _ _ _)
      | (with_reducible exact cobwebref01_Of.mono _ _)
      | (with_reducible exact LeO.refl _)
      | (with_reducible exact LeO.none _)
      | (with_reducible refine LeO.ite ?_ ?_)
      | (with_reducible refine LeO.bind ?_ (fun _ => ?_))
      | exact ih0 _ _ _ _
      | exact cobwebref01_Add.mono _ _ _ _ _
      | exact cobwebref01_Of.mono _ _
      | exact LeO.none _
      | refine LeO.ite ?_ ?_
      | refine LeO.bind ?_ (fun _ => ?_)
set_option maxHeartbeats 8000000 in
set_option maxRecDepth 100000 in
theorem cobwebref01_Power.calls (k : Nat) (a0 : Int) (r1 : Bool) (r2 : List Int) (w : World) (h : cobwebref01_Power.f k a0 = some (r1, r2)) :
    Calls Try.prog 50 #[.int .i64 a0] w fun e w' => ∃ v1_ : Value, e = .returned (.agg #[.bool r1, v1_]) ∧ Kd.V (Kd.int .i64) 3 w' w.heap.size (fun k_ => (w.heap.size ≤ k_)) v1_ r2 ∧ Below w.heap.size w w' := by
  have hu55 := Try.underlying55
  have HB := A_ (Below.refl w.heap.size w)
  have H : ((cobwebref01_Of.f k 1).bind fun bt102 => (cobwebref01_Power.l0 k a0 0 bt102.1 bt102.2)) = some (r1, r2) := h
  clear h
  replace H := Option.bind_eq_some_iff.mp H
  obtain ⟨⟨t102, t103⟩, A20, H⟩ := H
  replace H : (cobwebref01_Power.l0 k a0 0 t102 t103) = some (r1, r2) := H
  have A2 := A_ A20
  clear A20
  have H' := A_ H
  clear H
  go_enter Try.func50, Try.ntmps50
  go_wp2_with (first | ((with_reducible refine gate_dst (N := 2) rfl ?_); refine boxeq_ 2 #[.bool false, .slice none 0 0] 55 ?_; intro gb101 hg w3 hbox hb; have BK101 := A_ (hbox); have GW101 := ge_ HB hg; replace HB := st_ HB hb; have GE101 := GW101; clear hb hbox hg) | ((with_reducible refine gate_callee (f := 36) rfl ?_); refine goesLq_ 5 rfl Try.func36 #[.int .i64 1] ?_; (with_reducible refine (cobwebref01_Of.calls k 1 t102 t103 _ A2.out).mono ?_); rintro e w4 ⟨v104, rfl, ho0, hb⟩; refine ⟨_, rfl, ?_⟩; have HO105 := A_ (Kd.R_lower (Kd.R_newM (M := fun k_ => (w.heap.size ≤ k_)) ho0 (below_size (l_ HB)) (fun k_ h_ => h_)) (below_size (l_ HB))); replace BK101 := bb_ BK101 hb; replace HB := st_ HB hb; (try clear hb); (try clear hb2); (try clear hk); (try clear hi); (try clear ho0)) | ((with_reducible refine gate_dst (N := 3) rfl ?_); refine boxeq_ 3 #[.bool false, .slice none 0 0] 55 ?_; intro gb106 hg w5 hbox hb; replace HO105 := A_ (Kd.R_below (r_ HO105.out) hb); have BK106 := A_ (hbox); have GW106 := ge_ HB hg; replace HB := st_ HB hb; have GE106 := GW106; have NB101_106 := ne_ BK101 hg; replace BK101 := bb_ BK101 hb; have NB106_101 := A_ NB101_106.out.symm; clear hb hbox hg; have hnb6 := NB106_101.out; have hnc6 := NB101_106.out; have hcz7_0 : w5.cell? ⟨gb106, 0, none⟩ = some (.bool false) := (blk_cell BK106.out 0).trans rfl; have hcz7_1 : w5.cell? ⟨gb106, 1, none⟩ = some (.slice none 0 0) := (blk_cell BK106.out 1).trans rfl; have hfz7_0 := blk_frozen BK106.out 0; have hfz7_1 := blk_frozen BK106.out 1; obtain ⟨Ao8, co8, eo8⟩ := Kd.R_slice HO105.out; subst eo8))
  go_loopg [4] k (fun kq v4 w' => ∃ (x4_1 : Int) (x107000_1 : Bool) (x107001_1 : List Int) (u107001 : Value), v4 = .int .i64 x4_1 ∧ Aside0 (cobwebref01_Power.l0 kq a0 x4_1 x107000_1 x107001_1 = some (r1, r2)) ∧ Aside0 (kq ≤ k) ∧ Aside0 (Kd.V (Kd.int .i64) 3 w' w.heap.size (fun k_ => (w.heap.size ≤ k_) ∧ k_ ≠ gb101 ∧ k_ ≠ gb106) u107001 x107001_1) ∧ Aside0 (w'.heap[gb101]? = some (.cells #[.bool false, (.slice none 0 0)] 55 (0, 0))) ∧ Aside0 (w'.heap[gb106]? = some (.cells #[.bool x107000_1, u107001] 55 (0, 0))) ∧ Aside0 (Below w.heap.size w w'))
  case atStart => exact ⟨(0), (t102), (t103), (.slice Ao8 t103.length co8), (by first | rfl | (simp; done) | (simp [*]; done)), H', ⟨Nat.le_refl _⟩, ⟨Kd.R_V (by (with_reducible repeat (first | apply Kd.R_alloc | apply Kd.R_drewN | apply Kd.R_drew)); exact Kd.R_mono (Kd.R_far (p := ⟨gb106, 1, none⟩) (Kd.R_far (p := ⟨gb106, 0, none⟩) (Kd.R_types (Kd.R_types (Kd.R_types HO105.out BK101.out (by decide)) BK106.out (by decide)) BK106.out (by decide)) (fun _ hk => hk.2) (.bool t102)) (fun _ hk => hk.2) (.slice Ao8 t103.length co8)) (fun _ hk => ⟨hk.1.1.1.1, ⟨hk.1.1.2, hk.1.2⟩⟩))⟩, ⟨by (with_reducible repeat (first | refine blk_drewN ?_ _ | refine blk_drew ?_ | refine blk_alloc ?_ _)); refine blk_far ?_ NB101_106.out _; (with_reducible repeat (first | refine blk_drewN ?_ _ | refine blk_drew ?_ | refine blk_alloc ?_ _)); refine blk_far ?_ NB101_106.out _; (with_reducible repeat (first | refine blk_drewN ?_ _ | refine blk_drew ?_ | refine blk_alloc ?_ _)); exact BK101.out⟩, ⟨by (with_reducible repeat (first | refine blk_drewN ?_ _ | refine blk_drew ?_ | refine blk_alloc ?_ _)); refine blk_put (cs := #[.bool t102, .slice none 0 0]) ?_ 1 _ rfl; (with_reducible repeat (first | refine blk_drewN ?_ _ | refine blk_drew ?_ | refine blk_alloc ?_ _)); refine blk_put (cs := #[.bool false, .slice none 0 0]) ?_ 0 _ rfl; (with_reducible repeat (first | refine blk_drewN ?_ _ | refine blk_drew ?_ | refine blk_alloc ?_ _)); exact BK106.out⟩, ⟨l_ HB⟩⟩
  case round =>
    clear H'
    try clear p2
    try clear c3
    try clear c5
    try clear c6
    try clear hcz7_0
    try clear hcz7_1
    try clear hfz7_0
    try clear hfz7_1
    obtain ⟨x4_1, x107000_1, x107001_1, u107001, rfl, HA, HK1, HO_107001, BK101, BK106, HB⟩ := hrel
    cases gk with
    | zero => exact absurd HA.out (by simp [cobwebref01_Power.l0])
    | succ k1 =>
      have H := HA.out
      clear HA
      simp only [cobwebref01_Power.l0] at H
      by_cases c9 : x4_1 < a0
      · rw [if_pos c9] at H
        have c9b0 : decide (x4_1 < a0) = true := decide_eq_true c9
        clear c9
        replace H := Option.bind_eq_some_iff.mp H
        obtain ⟨⟨t107, t108⟩, A100, H⟩ := H
        replace H : (cobwebref01_Power.l0 k1 a0 (wrap64 (x4_1 + 1)) t107 t108) = some (r1, r2) := H
        have A10 := A_ A100
        clear A100
        have H' := A_ H
        clear H
        have hnb11 := NB106_101.out
        have hnc11 := NB101_106.out
        have hcz12_0 : wr.cell? ⟨gb106, 0, none⟩ = some (.bool x107000_1) := (blk_cell BK106.out 0).trans rfl
        have hcz12_1 : wr.cell? ⟨gb106, 1, none⟩ = some (u107001) := (blk_cell BK106.out 1).trans rfl
        have hfz12_0 := blk_frozen BK106.out 0
        have hfz12_1 := blk_frozen BK106.out 1
        obtain ⟨Ao13, co13, eo13⟩ := Kd.V_slice HO_107001.out
        subst eo13
        go_wp2_with (first | ((with_reducible refine gate_callee (f := 31) rfl ?_); refine goesLq_ 13 rfl Try.func31 #[.agg #[.bool x107000_1, .slice Ao13 x107001_1.length co13], .agg #[.bool x107000_1, .slice Ao13 x107001_1.length co13]] ?_; (with_reducible refine (cobwebref01_Add.calls k1 x107000_1 _ _ x107001_1 x107000_1 _ _ x107001_1 t107 t108 _ ?side1 ?side2 ?side3 ?side4 A10.out).mono ?_); (case side1 => exact c_ (Kd.V_reads' HO_107001.out).2.2); (case side2 => exact (Kd.V_reads' HO_107001.out).2.1); (case side3 => exact c_ (Kd.V_reads' HO_107001.out).2.2); (case side4 => exact (Kd.V_reads' HO_107001.out).2.1); rintro e w14 ⟨v109, rfl, ho0, hb⟩; refine ⟨_, rfl, ?_⟩; replace HO_107001 := A_ (Kd.V_below (v_ HO_107001.out) hb); have HO110 := A_ (Kd.V_lower (Kd.V_mono (ok' := fun k_ => (w.heap.size ≤ k_) ∧ k_ ≠ gb101 ∧ k_ ≠ gb106) ho0 (fun k_ hk_ => ⟨(Nat.le_trans (below_size (l_ HB)) hk_), (Kd.freshB (b_ BK101) k_ hk_), (Kd.freshB (b_ BK106) k_ hk_)⟩)) (below_size (l_ HB))); replace BK101 := bb_ BK101 hb; replace BK106 := bb_ BK106 hb; replace HB := st_ HB hb; (try clear hb); (try clear hb2); (try clear hk); (try clear hi); (try clear ho0); have hcz15_0 : w14.cell? ⟨gb106, 0, none⟩ = some (.bool x107000_1) := (blk_cell BK106.out 0).trans rfl; have hcz15_1 : w14.cell? ⟨gb106, 1, none⟩ = some (.slice Ao13 x107001_1.length co13) := (blk_cell BK106.out 1).trans rfl; have hfz15_0 := blk_frozen BK106.out 0; have hfz15_1 := blk_frozen BK106.out 1; obtain ⟨Ao16, co16, eo16⟩ := Kd.V_slice HO110.out; subst eo16))
        go_roundg k1
        case measure => have := HK1.out; omega
        case rel => exact ⟨(wrap64 (x4_1 + 1)), (t107), (t108), (.slice Ao16 t108.length co16), (by first | rfl | (simp; done) | (simp [*]; done)), H', ⟨by have := HK1.out; omega⟩, ⟨by (with_reducible repeat (first | apply Kd.V_alloc | apply Kd.V_drewN | apply Kd.V_drew)); exact Kd.V_mono (Kd.V_far (p := ⟨gb106, 1, none⟩) (Kd.V_far (p := ⟨gb106, 0, none⟩) (Kd.V_mono HO110.out (fun k_ hk => (⟨hk, hk.2.2⟩ : _ ∧ k_ ≠ gb106))) (fun _ hk => hk.2) (.bool t107)) (fun _ hk => hk.2) (.slice Ao16 t108.length co16)) (fun _ hk => ⟨hk.1.1, ⟨hk.1.2.1, hk.1.2.2⟩⟩)⟩, ⟨by (with_reducible repeat (first | refine blk_drewN ?_ _ | refine blk_drew ?_ | refine blk_alloc ?_ _)); refine blk_far ?_ NB101_106.out _; (with_reducible repeat (first | refine blk_drewN ?_ _ | refine blk_drew ?_ | refine blk_alloc ?_ _)); refine blk_far ?_ NB101_106.out _; (with_reducible repeat (first | refine blk_drewN ?_ _ | refine blk_drew ?_ | refine blk_alloc ?_ _)); exact BK101.out⟩, ⟨by (with_reducible repeat (first | refine blk_drewN ?_ _ | refine blk_drew ?_ | refine blk_alloc ?_ _)); refine blk_put (cs := #[.bool t107, .slice Ao13 x107001_1.length co13]) ?_ 1 _ rfl; (with_reducible repeat (first | refine blk_drewN ?_ _ | refine blk_drew ?_ | refine blk_alloc ?_ _)); refine blk_put (cs := #[.bool x107000_1, .slice Ao13 x107001_1.length co13]) ?_ 0 _ rfl; (with_reducible repeat (first | refine blk_drewN ?_ _ | refine blk_drew ?_ | refine blk_alloc ?_ _)); exact BK106.out⟩, ⟨l_ HB⟩⟩
      · rw [if_neg c9] at H
        have c9b0 : decide (x4_1 < a0) = false := decide_eq_false c9
        clear c9
        simp only [Option.some.injEq, Prod.mk.injEq] at H
        obtain ⟨rfl, rfl⟩ := H
        have hnb17 := NB106_101.out
        have hnc17 := NB101_106.out
        have hcz18_0 : wr.cell? ⟨gb106, 0, none⟩ = some (.bool x107000_1) := (blk_cell BK106.out 0).trans rfl
        have hcz18_1 : wr.cell? ⟨gb106, 1, none⟩ = some (u107001) := (blk_cell BK106.out 1).trans rfl
        have hfz18_0 := blk_frozen BK106.out 0
        have hfz18_1 := blk_frozen BK106.out 1
        have hcz19_0 : wr.cell? ⟨gb101, 0, none⟩ = some (.bool false) := (blk_cell BK101.out 0).trans rfl
        have hcz19_1 : wr.cell? ⟨gb101, 1, none⟩ = some (.slice none 0 0) := (blk_cell BK101.out 1).trans rfl
        have hfz19_0 := blk_frozen BK101.out 0
        have hfz19_1 := blk_frozen BK101.out 1
        obtain ⟨Ao20, co20, eo20⟩ := Kd.V_slice HO_107001.out
        subst eo20
        go_wp2
        refine bodyPost_ret (results_cell_row rfl _ _ gb101 55 #[.bool x107000_1, .slice Ao20 x107001_1.length co20] (0, 0) _ rfl (by (with_reducible repeat (first | refine blk_drewN ?_ _ | refine blk_drew ?_ | refine blk_alloc ?_ _)); refine blk_put (cs := #[.bool x107000_1, .slice none 0 0]) ?_ 1 _ rfl; (with_reducible repeat (first | refine blk_drewN ?_ _ | refine blk_drew ?_ | refine blk_alloc ?_ _)); refine blk_put (cs := #[.bool false, .slice none 0 0]) ?_ 0 _ rfl; (with_reducible repeat (first | refine blk_drewN ?_ _ | refine blk_drew ?_ | refine blk_alloc ?_ _)); exact BK101.out) Try.underlying55 rfl (by kernel_rfl)) rfl ?_
        exact ⟨_, by first | rfl | (simp [errW_none, errW_some] <;> rfl) | (simp [*, errW_none, errW_some] <;> rfl), by (with_reducible repeat (first | apply Kd.V_alloc | apply Kd.V_drewN | apply Kd.V_drew)); exact Kd.V_mono (Kd.V_far (p := ⟨gb101, 1, none⟩) (Kd.V_far (p := ⟨gb101, 0, none⟩) (Kd.V_mono HO_107001.out (fun k_ hk => (⟨hk, hk.2.1⟩ : _ ∧ k_ ≠ gb101))) (fun _ hk => hk.2) (.bool x107000_1)) (fun _ hk => hk.2) (.slice Ao20 x107001_1.length co20)) (fun _ hk => hk.1.1), l_ HB⟩

end Go.Proofs.Ytglkjeeiiflpjaa.F
