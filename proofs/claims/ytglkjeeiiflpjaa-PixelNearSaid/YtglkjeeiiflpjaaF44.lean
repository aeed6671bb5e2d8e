-- PRINTED by print.py (a twelfth state) out of the translation. Not trusted: Lean checks it.
import Derived.Test.YtglkjeeiiflpjaaF0
import Derived.Test.YtglkjeeiiflpjaaB3
import Derived.Test.YtglkjeeiiflpjaaF45
import Derived.Test.YtglkjeeiiflpjaaFS
namespace Go.Proofs.Ytglkjeeiiflpjaa.F
open Go.RowKit Go.Proofs.YtglkjeeiiflpjaaW.PrintWords Go.Proofs.YtglkjeeiiflpjaaW.PrintLast Go.Proofs.YtglkjeeiiflpjaaW.PrintMore
attribute [local go_sem] max2_int min2_int max_two min_two max_three min_three max_four min_four   -- for this text's walks alone
set_option linter.unusedVariables false
set_option linter.unusedSimpArgs false

/-! ### cobwebref01_Mul: function 44 -/
mutual
def cobwebref01_Mul.l0 : Nat → List Int → Int → Bool → List Int → Bool → List Int → Option (Bool × List Int)
  | 0, _, _, _, _, _, _ => none
  | k + 1, x5, x6, x102000, x102001, x103000, x103001 => if x6 < (x102001.length : Int) then (cobwebref01_Mul.l1 k x5 x6 0 0 x102000 x102001 x103000 x103001) else ((cobwebref01_trim.f k (x102000 != x103000) x5).bind fun bt107 => (some (bt107.1, bt107.2)))
def cobwebref01_Mul.l1 : Nat → List Int → Int → Int → Int → Bool → List Int → Bool → List Int → Option (Bool × List Int)
  | 0, _, _, _, _, _, _, _, _ => none
  | k + 1, x5, x6, x7, x8, x102000, x102001, x103000, x103001 => if x8 < (x103001.length : Int) then (cobwebref01_Mul.j2 k x5 x6 x7 x8 true x102000 x102001 x103000 x103001) else (cobwebref01_Mul.j2 k x5 x6 x7 x8 (decide (x7 > 0)) x102000 x102001 x103000 x103001)
def cobwebref01_Mul.j2 : Nat → List Int → Int → Int → Int → Bool → Bool → List Int → Bool → List Int → Option (Bool × List Int)
  | 0, _, _, _, _, _, _, _, _, _ => none
  | k + 1, x5, x6, x7, x8, x33, x102000, x102001, x103000, x103001 => if x33 = true then (if 0 ≤ (wrap64 (x6 + x8)) then (if (wrap64 (x6 + x8)) < (x5.length : Int) then (if 0 ≤ x6 then (if x6 < (x102001.length : Int) then ((cobwebref01_digit.f x103001 x8).bind fun t113 => ((cobwebref01_base.f).bind fun t114 => (if t114 = 0 then (none) else ((cobwebref01_base.f).bind fun t116 => (if t116 = 0 then (none) else (cobwebref01_Mul.l1 k (x5.set ((wrap64 (x6 + x8)) : Int).toNat (Int.tmod (wrap64 ((wrap64 (x7 + (rd x5 (wrap64 (x6 + x8))))) + (wrap64 ((rd x102001 x6) * t113)))) t114)) x6 (wrap64 (Int.tdiv (wrap64 ((wrap64 (x7 + (rd x5 (wrap64 (x6 + x8))))) + (wrap64 ((rd x102001 x6) * t113)))) t116)) (wrap64 (x8 + 1)) x102000 x102001 x103000 x103001)))))) else (none)) else (none)) else (none)) else (none)) else (cobwebref01_Mul.l0 k x5 (wrap64 (x6 + 1)) x102000 x102001 x103000 x103001)
end
def cobwebref01_Mul.f (k : Nat) (a0_0 : Bool) (l0_1 : List Int) (a1_0 : Bool) (l1_1 : List Int) : Option (Bool × List Int) := if 0 ≤ (wrap64 ((wrap64 ((l0_1.length : Int) + (l1_1.length : Int))) + 1)) then (if (wrap64 ((wrap64 ((l0_1.length : Int) + (l1_1.length : Int))) + 1) : Int).toNat ≤ 35184372088832 then (cobwebref01_Mul.l0 k (List.replicate (wrap64 ((wrap64 ((l0_1.length : Int) + (l1_1.length : Int))) + 1) : Int).toNat 0) 0 a0_0 l0_1 a1_0 l1_1) else (none)) else (none)
theorem cobwebref01_Mul.mono_l : ∀ k, (∀ y0 y1 y2 y3 y4 y5, LeO (cobwebref01_Mul.l0 k y0 y1 y2 y3 y4 y5) (cobwebref01_Mul.l0 (k + 1) y0 y1 y2 y3 y4 y5)) ∧ (∀ y0 y1 y2 y3 y4 y5 y6 y7, LeO (cobwebref01_Mul.l1 k y0 y1 y2 y3 y4 y5 y6 y7) (cobwebref01_Mul.l1 (k + 1) y0 y1 y2 y3 y4 y5 y6 y7)) ∧ (∀ y0 y1 y2 y3 y4 y5 y6 y7 y8, LeO (cobwebref01_Mul.j2 k y0 y1 y2 y3 y4 y5 y6 y7 y8) (cobwebref01_Mul.j2 (k + 1) y0 y1 y2 y3 y4 y5 y6 y7 y8))
  | 0 => ⟨fun _ _ _ _ _ _ r h => by simp [cobwebref01_Mul.l0] at h, fun _ _ _ _ _ _ _ _ r h => by simp [cobwebref01_Mul.l1] at h, fun _ _ _ _ _ _ _ _ _ r h => by simp [cobwebref01_Mul.j2] at h⟩
  | k + 1 => by
    obtain ⟨ih0, ih1, ih2⟩ := cobwebref01_Mul.mono_l k
    refine ⟨?_, ?_, ?_⟩
    · intro y0 y1 y2 y3 y4 y5
      unfold cobwebref01_Mul.l0
      repeat' first
      | (with_reducible exact ih0 _ _ _ _ _ _)
      | (with_reducible exact ih1 _ _ _ _ _ _ _ _)
      | (with_reducible exact ih2 _ _ _ _ _ _ _ _ _)
      | (with_reducible exact cobwebref01_trim.mono _ _ _)
      | (with_reducible exact LeO.refl _)
      | (with_reducible exact LeO.none _)
      | (with_reducible refine LeO.ite ?_ ?_)
      | (with_reducible refine LeO.bind ?_ (fun _ => ?_))
      | exact ih0 _ _ _ _ _ _
      | exact ih1 _ _ _ _ _ _ _ _
      | exact ih2 _ _ _ _ _ _ _ _ _
      | exact cobwebref01_trim.mono _ _ _
      | exact LeO.none _
      | refine LeO.ite ?_ ?_
      | refine LeO.bind ?_ (fun _ => ?_)
    · intro y0 y1 y2 y3 y4 y5 y6 y7
      unfold cobwebref01_Mul.l1
      repeat' first
      | (with_reducible exact ih0 _ _ _ _ _ _)
      | (with_reducible exact ih1 _ _ _ _ _ _ _ _)
      | (with_reducible exact ih2 _ _ _ _ _ _ _ _ _)
      | (with_reducible exact cobwebref01_trim.mono _ _ _)
      | (with_reducible exact LeO.refl _)
      | (with_reducible exact LeO.none _)
      | (with_reducible refine LeO.ite ?_ ?_)
      | (with_reducible refine LeO.bind ?_ (fun _ => ?_))
      | exact ih0 _ _ _ _ _ _
      | exact ih1 _ _ _ _ _ _ _ _
      | exact ih2 _ _ _ _ _ _ _ _ _
      | exact cobwebref01_trim.mono _ _ _
      | exact LeO.none _
      | refine LeO.ite ?_ ?_
      | refine LeO.bind ?_ (fun _ => ?_)
    · intro y0 y1 y2 y3 y4 y5 y6 y7 y8
      unfold cobwebref01_Mul.j2
      repeat' first
      | (with_reducible exact ih0 _ _ _ _ _ _)
      | (with_reducible exact ih1 _ _ _ _ _ _ _ _)
      | (with_reducible exact ih2 _ _ _ _ _ _ _ _ _)
      | (with_reducible exact cobwebref01_trim.mono _ _ _)
      | (with_reducible exact LeO.refl _)
      | (with_reducible exact LeO.none _)
      | (with_reducible refine LeO.ite ?_ ?_)
      | (with_reducible refine LeO.bind ?_ (fun _ => ?_))
      | exact ih0 _ _ _ _ _ _
      | exact ih1 _ _ _ _ _ _ _ _
      | exact ih2 _ _ _ _ _ _ _ _ _
      | exact cobwebref01_trim.mono _ _ _
      | exact LeO.none _
      | refine LeO.ite ?_ ?_
      | refine LeO.bind ?_ (fun _ => ?_)
theorem cobwebref01_Mul.mono : ∀ a0 a1 a2 a3 k, LeO (cobwebref01_Mul.f k a0 a1 a2 a3) (cobwebref01_Mul.f (k + 1) a0 a1 a2 a3) := by
  intro a0 a1 a2 a3 k
  obtain ⟨ih0, ih1, ih2⟩ := cobwebref01_Mul.mono_l k
  unfold cobwebref01_Mul.f
  repeat' first
      | (with_reducible exact ih0 _ _ _ _ _ _)
      | (with_reducible exact ih1 _ _ _ _ _ _ _ _)
      | (with_reducible exact ih2 _ _ _ _ _ _ _ _ _)
      | (with_reducible exact cobwebref01_trim.mono _ _ _)
      | (with_reducible exact LeO.refl _)
      | (with_reducible exact LeO.none _)
      | (with_reducible refine LeO.ite ?_ ?_)
      | (with_reducible refine LeO.bind ?_ (fun _ => ?_))
      | exact ih0 _ _ _ _ _ _
      | exact ih1 _ _ _ _ _ _ _ _
      | exact ih2 _ _ _ _ _ _ _ _ _
      | exact cobwebref01_trim.mono _ _ _
      | exact LeO.none _
      | refine LeO.ite ?_ ?_
      | refine LeO.bind ?_ (fun _ => ?_)
set_option maxHeartbeats 8000000 in
set_option maxRecDepth 100000 in
theorem cobwebref01_Mul.calls (k : Nat) (a0_0 : Bool) (A0_1 : Option Addr) (c0_1 : Nat) (l0_1 : List Int) (a1_0 : Bool) (A1_1 : Option Addr) (c1_1 : Nat) (l1_1 : List Int) (r1 : Bool) (r2 : List Int) (w : World) (hr0_1 : Kd.C (Kd.int .i64) w A0_1 l0_1.length l0_1) (hc0_1 : l0_1.length ≤ c0_1) (hr1_1 : Kd.C (Kd.int .i64) w A1_1 l1_1.length l1_1) (hc1_1 : l1_1.length ≤ c1_1) (h : cobwebref01_Mul.f k a0_0 l0_1 a1_0 l1_1 = some (r1, r2)) :
    Calls Try.prog 44 #[.agg #[.bool a0_0, .slice A0_1 l0_1.length c0_1], .agg #[.bool a1_0, .slice A1_1 l1_1.length c1_1]] w fun e w' => ∃ v1_ : Value, e = .returned (.agg #[.bool r1, v1_]) ∧ Kd.V (Kd.int .i64) 3 w' w.heap.size (fun k_ => (w.heap.size ≤ k_)) v1_ r2 ∧ Below w.heap.size w w' := by
  have hu55 := Try.underlying55
  have HR0_1 := A_ hr0_1
  have HC0_1 := A_ hc0_1
  clear hr0_1 hc0_1
  have HR1_1 := A_ hr1_1
  have HC1_1 := A_ hc1_1
  clear hr1_1 hc1_1
  have HB := A_ (Below.refl w.heap.size w)
  have H : (if 0 ≤ (wrap64 ((wrap64 ((l0_1.length : Int) + (l1_1.length : Int))) + 1)) then (if (wrap64 ((wrap64 ((l0_1.length : Int) + (l1_1.length : Int))) + 1) : Int).toNat ≤ 35184372088832 then (cobwebref01_Mul.l0 k (List.replicate (wrap64 ((wrap64 ((l0_1.length : Int) + (l1_1.length : Int))) + 1) : Int).toNat 0) 0 a0_0 l0_1 a1_0 l1_1) else (none)) else (none)) = some (r1, r2) := h
  clear h
  obtain ⟨ji3, hji3⟩ : ∃ j_ : Int, (wrap64 ((wrap64 ((l0_1.length : Int) + (l1_1.length : Int))) + 1)) = j_ := ⟨_, rfl⟩
  replace H : (if 0 ≤ (ji3) then (if (ji3 : Int).toNat ≤ 35184372088832 then (cobwebref01_Mul.l0 k (List.replicate (ji3 : Int).toNat 0) 0 a0_0 l0_1 a1_0 l1_1) else (none)) else (none)) = some (r1, r2) := by first | (rw [hji3] at H; exact H) | (simp only [hji3] at H ⊢; exact H)
  have hji3w : (IntKind.i64.wrap ((wrap64 ((l0_1.length : Int) + (l1_1.length : Int))) + 1)) = ji3 := (i64_w _).trans hji3
  by_cases c4 : 0 ≤ (ji3)
  · rw [if_pos c4] at H
    have c4b0 := eq_true c4
    have c4b1 : decide (0 ≤ (ji3)) = true := decide_eq_true c4
    clear c4
    by_cases c5 : (ji3 : Int).toNat ≤ 35184372088832
    · rw [if_pos c5] at H
      have c5b0 := eq_true c5
      have c5b1 : decide ((ji3 : Int).toNat ≤ 35184372088832) = true := decide_eq_true c5
      clear c5
      obtain ⟨y104, hy104⟩ : ∃ y_ : List Int, y_ = (List.replicate (ji3 : Int).toNat 0) := ⟨_, rfl⟩
      replace H : (cobwebref01_Mul.l0 k y104 0 a0_0 l0_1 a1_0 l1_1) = some (r1, r2) := by first | (rw [hy104]; with_reducible exact H) | (have H2_ := (Option.bind_some _ _).symm.trans H; rw [hy104]; with_reducible exact H2_) | (have H2_ := (Option.bind_some _ _).symm.trans H; with_reducible exact H2_) | with_reducible exact H | (rw [hy104]; exact H) | exact H
      have Ny104 := A_ hy104
      clear hy104
      have H' := A_ H
      clear H
      go_enter Try.func44, Try.ntmps44
      go_wp2_with (first | ((with_reducible refine gate_dst (N := 2) rfl ?_); refine boxeq_ 2 #[.bool a0_0, .slice A0_1 l0_1.length c0_1] 55 ?_; intro gb101 hg w6 hbox hb; have BK101 := A_ (hbox); have GW101 := ge_ HB hg; replace HB := st_ HB hb; have GE101 := GW101; clear hb hbox hg) | ((with_reducible refine gate_dst (N := 3) rfl ?_); refine boxeq_ 3 #[.bool a1_0, .slice A1_1 l1_1.length c1_1] 55 ?_; intro gb102 hg w7 hbox hb; have BK102 := A_ (hbox); have GW102 := ge_ HB hg; replace HB := st_ HB hb; have GE102 := GW102; have NB101_102 := ne_ BK101 hg; replace BK101 := bb_ BK101 hb; have NB102_101 := A_ NB101_102.out.symm; clear hb hbox hg) | ((with_reducible refine gate_dst (N := 4) rfl ?_); refine boxeq_ 4 #[.bool false, .slice none 0 0] 55 ?_; intro gb103 hg w8 hbox hb; have BK103 := A_ (hbox); have GW103 := ge_ HB hg; replace HB := st_ HB hb; have GE103 := GW103; have NB101_103 := ne_ BK101 hg; replace BK101 := bb_ BK101 hb; have NB103_101 := A_ NB101_103.out.symm; have NB102_103 := ne_ BK102 hg; replace BK102 := bb_ BK102 hb; have NB103_102 := A_ NB102_103.out.symm; clear hb hbox hg; have hnb9 := NB101_102.out; have hnc9 := NB102_101.out; have hnb10 := NB101_103.out; have hnc10 := NB103_101.out; have hcz11_0 : w8.cell? ⟨gb101, 0, none⟩ = some (.bool a0_0) := (blk_cell BK101.out 0).trans rfl; have hcz11_1 : w8.cell? ⟨gb101, 1, none⟩ = some (.slice A0_1 l0_1.length c0_1) := (blk_cell BK101.out 1).trans rfl; have hfz11_0 := blk_frozen BK101.out 0; have hfz11_1 := blk_frozen BK101.out 1; have hnb12 := NB102_103.out; have hnc12 := NB103_102.out; have hcz13_0 : w8.cell? ⟨gb102, 0, none⟩ = some (.bool a1_0) := (blk_cell BK102.out 0).trans rfl; have hcz13_1 : w8.cell? ⟨gb102, 1, none⟩ = some (.slice A1_1 l1_1.length c1_1) := (blk_cell BK102.out 1).trans rfl; have hfz13_0 := blk_frozen BK102.out 0; have hfz13_1 := blk_frozen BK102.out 1) | ((with_reducible refine gate_dst (N := 17) rfl ?_); refine Kd.R_make (Kd.int .i64) _ 3 rfl (N := 17) rfl 53 _ _ rfl ji3 rfl rfl Try.underlying53 (.int .i64 0) 8 info3 rfl (by decide) (by omega) 0 (ok := fun _ => True) (okp := fun _ => True) rfl (fun _ hk => hk) trivial (of_decide_eq_true (by first | (with_reducible assumption) | assumption)) (Nat.le_trans (Nat.mul_le_mul_right _ (of_decide_eq_true (by first | (with_reducible assumption) | assumption) : ji3.toNat ≤ 35184372088832)) (by omega)) (Below.refl _ _) (Nat.le_refl _) ?_; intro v105 w14 ho15 hb hg_ hnew_; clear hg_ hnew_; (first | rw [← Ny104.out] at ho15 | (simp only [Int.reduceToNat] at ho15; rw [← Ny104.out] at ho15)); have HO106 := A_ (Kd.R_lower (Kd.R_newM (M := fun k_ => (w.heap.size ≤ k_)) ho15 (below_size (l_ HB)) (fun k_ h_ => h_)) (below_size (l_ HB))); replace BK101 := bb_ BK101 hb; replace BK102 := bb_ BK102 hb; replace BK103 := bb_ BK103 hb; replace HB := st_ HB hb; clear hb ho15))
      repeat (go_quiet (first | ((with_reducible refine gate_dst (N := 2) rfl ?_); refine boxeq_ 2 #[.bool a0_0, .slice A0_1 l0_1.length c0_1] 55 ?_; intro gb101 hg w6 hbox hb; have BK101 := A_ (hbox); have GW101 := ge_ HB hg; replace HB := st_ HB hb; have GE101 := GW101; clear hb hbox hg) | ((with_reducible refine gate_dst (N := 3) rfl ?_); refine boxeq_ 3 #[.bool a1_0, .slice A1_1 l1_1.length c1_1] 55 ?_; intro gb102 hg w7 hbox hb; have BK102 := A_ (hbox); have GW102 := ge_ HB hg; replace HB := st_ HB hb; have GE102 := GW102; have NB101_102 := ne_ BK101 hg; replace BK101 := bb_ BK101 hb; have NB102_101 := A_ NB101_102.out.symm; clear hb hbox hg) | ((with_reducible refine gate_dst (N := 4) rfl ?_); refine boxeq_ 4 #[.bool false, .slice none 0 0] 55 ?_; intro gb103 hg w8 hbox hb; have BK103 := A_ (hbox); have GW103 := ge_ HB hg; replace HB := st_ HB hb; have GE103 := GW103; have NB101_103 := ne_ BK101 hg; replace BK101 := bb_ BK101 hb; have NB103_101 := A_ NB101_103.out.symm; have NB102_103 := ne_ BK102 hg; replace BK102 := bb_ BK102 hb; have NB103_102 := A_ NB102_103.out.symm; clear hb hbox hg; have hnb9 := NB101_102.out; have hnc9 := NB102_101.out; have hnb10 := NB101_103.out; have hnc10 := NB103_101.out; have hcz11_0 : w8.cell? ⟨gb101, 0, none⟩ = some (.bool a0_0) := (blk_cell BK101.out 0).trans rfl; have hcz11_1 : w8.cell? ⟨gb101, 1, none⟩ = some (.slice A0_1 l0_1.length c0_1) := (blk_cell BK101.out 1).trans rfl; have hfz11_0 := blk_frozen BK101.out 0; have hfz11_1 := blk_frozen BK101.out 1; have hnb12 := NB102_103.out; have hnc12 := NB103_102.out; have hcz13_0 : w8.cell? ⟨gb102, 0, none⟩ = some (.bool a1_0) := (blk_cell BK102.out 0).trans rfl; have hcz13_1 : w8.cell? ⟨gb102, 1, none⟩ = some (.slice A1_1 l1_1.length c1_1) := (blk_cell BK102.out 1).trans rfl; have hfz13_0 := blk_frozen BK102.out 0; have hfz13_1 := blk_frozen BK102.out 1) | ((with_reducible refine gate_dst (N := 17) rfl ?_); refine Kd.R_make (Kd.int .i64) _ 3 rfl (N := 17) rfl 53 _ _ rfl ji3 rfl rfl Try.underlying53 (.int .i64 0) 8 info3 rfl (by decide) (by omega) 0 (ok := fun _ => True) (okp := fun _ => True) rfl (fun _ hk => hk) trivial (of_decide_eq_true (by first | (with_reducible assumption) | assumption)) (Nat.le_trans (Nat.mul_le_mul_right _ (of_decide_eq_true (by first | (with_reducible assumption) | assumption) : ji3.toNat ≤ 35184372088832)) (by omega)) (Below.refl _ _) (Nat.le_refl _) ?_; intro v105 w14 ho15 hb hg_ hnew_; clear hg_ hnew_; (first | rw [← Ny104.out] at ho15 | (simp only [Int.reduceToNat] at ho15; rw [← Ny104.out] at ho15)); have HO106 := A_ (Kd.R_lower (Kd.R_newM (M := fun k_ => (w.heap.size ≤ k_)) ho15 (below_size (l_ HB)) (fun k_ h_ => h_)) (below_size (l_ HB))); replace BK101 := bb_ BK101 hb; replace BK102 := bb_ BK102 hb; replace BK103 := bb_ BK103 hb; replace HB := st_ HB hb; clear hb ho15)); try go_wp2_with (first | ((with_reducible refine gate_dst (N := 2) rfl ?_); refine boxeq_ 2 #[.bool a0_0, .slice A0_1 l0_1.length c0_1] 55 ?_; intro gb101 hg w6 hbox hb; have BK101 := A_ (hbox); have GW101 := ge_ HB hg; replace HB := st_ HB hb; have GE101 := GW101; clear hb hbox hg) | ((with_reducible refine gate_dst (N := 3) rfl ?_); refine boxeq_ 3 #[.bool a1_0, .slice A1_1 l1_1.length c1_1] 55 ?_; intro gb102 hg w7 hbox hb; have BK102 := A_ (hbox); have GW102 := ge_ HB hg; replace HB := st_ HB hb; have GE102 := GW102; have NB101_102 := ne_ BK101 hg; replace BK101 := bb_ BK101 hb; have NB102_101 := A_ NB101_102.out.symm; clear hb hbox hg) | ((with_reducible refine gate_dst (N := 4) rfl ?_); refine boxeq_ 4 #[.bool false, .slice none 0 0] 55 ?_; intro gb103 hg w8 hbox hb; have BK103 := A_ (hbox); have GW103 := ge_ HB hg; replace HB := st_ HB hb; have GE103 := GW103; have NB101_103 := ne_ BK101 hg; replace BK101 := bb_ BK101 hb; have NB103_101 := A_ NB101_103.out.symm; have NB102_103 := ne_ BK102 hg; replace BK102 := bb_ BK102 hb; have NB103_102 := A_ NB102_103.out.symm; clear hb hbox hg; have hnb9 := NB101_102.out; have hnc9 := NB102_101.out; have hnb10 := NB101_103.out; have hnc10 := NB103_101.out; have hcz11_0 : w8.cell? ⟨gb101, 0, none⟩ = some (.bool a0_0) := (blk_cell BK101.out 0).trans rfl; have hcz11_1 : w8.cell? ⟨gb101, 1, none⟩ = some (.slice A0_1 l0_1.length c0_1) := (blk_cell BK101.out 1).trans rfl; have hfz11_0 := blk_frozen BK101.out 0; have hfz11_1 := blk_frozen BK101.out 1; have hnb12 := NB102_103.out; have hnc12 := NB103_102.out; have hcz13_0 : w8.cell? ⟨gb102, 0, none⟩ = some (.bool a1_0) := (blk_cell BK102.out 0).trans rfl; have hcz13_1 : w8.cell? ⟨gb102, 1, none⟩ = some (.slice A1_1 l1_1.length c1_1) := (blk_cell BK102.out 1).trans rfl; have hfz13_0 := blk_frozen BK102.out 0; have hfz13_1 := blk_frozen BK102.out 1) | ((with_reducible refine gate_dst (N := 17) rfl ?_); refine Kd.R_make (Kd.int .i64) _ 3 rfl (N := 17) rfl 53 _ _ rfl ji3 rfl rfl Try.underlying53 (.int .i64 0) 8 info3 rfl (by decide) (by omega) 0 (ok := fun _ => True) (okp := fun _ => True) rfl (fun _ hk => hk) trivial (of_decide_eq_true (by first | (with_reducible assumption) | assumption)) (Nat.le_trans (Nat.mul_le_mul_right _ (of_decide_eq_true (by first | (with_reducible assumption) | assumption) : ji3.toNat ≤ 35184372088832)) (by omega)) (Below.refl _ _) (Nat.le_refl _) ?_; intro v105 w14 ho15 hb hg_ hnew_; clear hg_ hnew_; (first | rw [← Ny104.out] at ho15 | (simp only [Int.reduceToNat] at ho15; rw [← Ny104.out] at ho15)); have HO106 := A_ (Kd.R_lower (Kd.R_newM (M := fun k_ => (w.heap.size ≤ k_)) ho15 (below_size (l_ HB)) (fun k_ h_ => h_)) (below_size (l_ HB))); replace BK101 := bb_ BK101 hb; replace BK102 := bb_ BK102 hb; replace BK103 := bb_ BK103 hb; replace HB := st_ HB hb; clear hb ho15)))
      go_loopg [6] k (fun kq v6 w' => ∃ (x5_1 : List Int) (x6_1 : Int), v6 = .int .i64 x6_1 ∧ Aside0 (cobwebref01_Mul.l0 kq x5_1 x6_1 a0_0 l0_1 a1_0 l1_1 = some (r1, r2)) ∧ Aside0 (kq ≤ k) ∧ Aside0 (Kd.R (Kd.int .i64) 3 w' w.heap.size (fun k_ => (w.heap.size ≤ k_)) v105 x5_1) ∧ Aside0 (w'.heap[gb101]? = some (.cells #[.bool a0_0, (.slice A0_1 l0_1.length c0_1)] 55 (0, 0))) ∧ Aside0 (w'.heap[gb102]? = some (.cells #[.bool a1_0, (.slice A1_1 l1_1.length c1_1)] 55 (0, 0))) ∧ Aside0 (w'.heap[gb103]? = some (.cells #[.bool false, (.slice none 0 0)] 55 (0, 0))) ∧ Aside0 (Below w.heap.size w w'))
      case atStart => exact ⟨(y104), (0), (by first | rfl | (simp; done) | (simp [*]; done)), H', ⟨Nat.le_refl _⟩, ⟨by (with_reducible repeat (first | apply Kd.R_alloc | apply Kd.R_drewN | apply Kd.R_drew)); exact Kd.R_mono HO106.out (fun _ hk => hk.1)⟩, ⟨b_ BK101⟩, ⟨b_ BK102⟩, ⟨b_ BK103⟩, ⟨l_ HB⟩⟩
      case round =>
        clear H'
        try clear c1
        try clear p2
        try clear c4
        try clear c4b0
        try clear c4b1
        try clear c5
        try clear c5b0
        try clear c5b1
        try clear p6
        try clear c9
        try clear c10
        try clear c12
        try clear hcz11_0
        try clear hcz11_1
        try clear hcz13_0
        try clear hcz13_1
        try clear hfz11_0
        try clear hfz11_1
        try clear hfz13_0
        try clear hfz13_1
        obtain ⟨x5_1, x6_1, rfl, HA, HK1, HO_5, BK101, BK102, BK103, HB⟩ := hrel
        cases gk with
        | zero => exact absurd HA.out (by simp [cobwebref01_Mul.l0])
        | succ k1 =>
          have H := HA.out
          clear HA
          simp only [cobwebref01_Mul.l0] at H
          by_cases c16 : x6_1 < (l0_1.length : Int)
          · rw [if_pos c16] at H
            have c16b0 : decide (x6_1 < (l0_1.length : Int)) = true := decide_eq_true c16
            clear c16
            have H' := A_ H
            clear H
            have hnb17 := NB101_102.out
            have hnc17 := NB102_101.out
            have hnb18 := NB101_103.out
            have hnc18 := NB103_101.out
            have hcz19_0 : wr.cell? ⟨gb101, 0, none⟩ = some (.bool a0_0) := (blk_cell BK101.out 0).trans rfl
            have hcz19_1 : wr.cell? ⟨gb101, 1, none⟩ = some (.slice A0_1 l0_1.length c0_1) := (blk_cell BK101.out 1).trans rfl
            have hfz19_0 := blk_frozen BK101.out 0
            have hfz19_1 := blk_frozen BK101.out 1
            go_wp2
            repeat (go_quiet (fail); try go_wp2)
            go_loopg [7, 8] k1 (fun kq v7 v8 w' => ∃ (x5_2 : List Int) (x7_2 : Int) (x8_2 : Int), v7 = .int .i64 x7_2 ∧ v8 = .int .i64 x8_2 ∧ Aside0 (cobwebref01_Mul.l1 kq x5_2 x6_1 x7_2 x8_2 a0_0 l0_1 a1_0 l1_1 = some (r1, r2)) ∧ Aside0 (kq ≤ k1) ∧ Aside0 (Kd.R (Kd.int .i64) 3 w' w.heap.size (fun k_ => (w.heap.size ≤ k_)) v105 x5_2) ∧ Aside0 (w'.heap[gb101]? = some (.cells #[.bool a0_0, (.slice A0_1 l0_1.length c0_1)] 55 (0, 0))) ∧ Aside0 (w'.heap[gb102]? = some (.cells #[.bool a1_0, (.slice A1_1 l1_1.length c1_1)] 55 (0, 0))) ∧ Aside0 (w'.heap[gb103]? = some (.cells #[.bool false, (.slice none 0 0)] 55 (0, 0))) ∧ Aside0 (Below w.heap.size w w'))
            case atStart => exact ⟨(x5_1), (0), (0), (by first | rfl | (simp; done) | (simp [*]; done)), (by first | rfl | (simp; done) | (simp [*]; done)), H', ⟨Nat.le_refl _⟩, ⟨by (with_reducible repeat (first | apply Kd.R_alloc | apply Kd.R_drewN | apply Kd.R_drew)); exact HO_5.out⟩, ⟨b_ BK101⟩, ⟨b_ BK102⟩, ⟨b_ BK103⟩, ⟨l_ HB⟩⟩
            case round =>
              clear H'
              try clear c1
              try clear p2
              try clear c4
              try clear c4b0
              try clear c4b1
              try clear c5
              try clear c5b0
              try clear c5b1
              try clear p6
              try clear c9
              try clear c10
              try clear c12
              try clear c16
              try clear c16b0
              try clear c17
              try clear c18
              try clear hcz11_0
              try clear hcz11_1
              try clear hcz13_0
              try clear hcz13_1
              try clear hcz19_0
              try clear hcz19_1
              try clear hfz11_0
              try clear hfz11_1
              try clear hfz13_0
              try clear hfz13_1
              try clear hfz19_0
              try clear hfz19_1
              try clear p2
              try clear p6
              obtain ⟨x5_2, x7_2, x8_2, rfl, rfl, HA, HK2, HO_5, BK101, BK102, BK103, HB⟩ := hrel
              cases gk with
              | zero => exact absurd HA.out (by simp [cobwebref01_Mul.l1])
              | succ k2 =>
                have H := HA.out
                clear HA
                simp only [cobwebref01_Mul.l1] at H
                have HC20 := A_ H
                clear H
                go_upto_region 7 with (fail)
                repeat (go_quiet (fail); go_upto_region 7 with (fail))
                go_cut [33] (fun v33 wc => ∃ (kq : Nat) (x33_19 : Bool), v33 = .bool x33_19 ∧ Aside0 (cobwebref01_Mul.j2 kq x5_2 x6_1 x7_2 x8_2 x33_19 a0_0 l0_1 a1_0 l1_1 = some (r1, r2)) ∧ Aside0 (kq ≤ k2) ∧ Aside0 (Kd.R (Kd.int .i64) 3 wc w.heap.size (fun k_ => (w.heap.size ≤ k_)) v105 x5_2) ∧ Aside0 (wc.heap[gb101]? = some (.cells #[.bool a0_0, (.slice A0_1 l0_1.length c0_1)] 55 (0, 0))) ∧ Aside0 (wc.heap[gb102]? = some (.cells #[.bool a1_0, (.slice A1_1 l1_1.length c1_1)] 55 (0, 0))) ∧ Aside0 (wc.heap[gb103]? = some (.cells #[.bool false, (.slice none 0 0)] 55 (0, 0))) ∧ Aside0 (Below w.heap.size w wc))
                case first =>
                  have H := HC20.out
                  clear HC20
                  by_cases c21 : x8_2 < (l1_1.length : Int)
                  · rw [if_pos c21] at H
                    have c21b0 : decide (x8_2 < (l1_1.length : Int)) = true := decide_eq_true c21
                    clear c21
                    (first | rw [c21b0] | (simp only [i64_w, i32_w]; rw [c21b0]) | skip)
                    have H' := A_ H
                    clear H
                    have hnb22 := NB102_101.out
                    have hnc22 := NB101_102.out
                    have hnb23 := NB102_103.out
                    have hnc23 := NB103_102.out
                    have hcz24_0 : wr.cell? ⟨gb102, 0, none⟩ = some (.bool a1_0) := (blk_cell BK102.out 0).trans rfl
                    have hcz24_1 : wr.cell? ⟨gb102, 1, none⟩ = some (.slice A1_1 l1_1.length c1_1) := (blk_cell BK102.out 1).trans rfl
                    have hfz24_0 := blk_frozen BK102.out 0
                    have hfz24_1 := blk_frozen BK102.out 1
                    go_wp2
                    repeat (go_quiet (fail); try go_wp2)
                    go_meet
                    case rel => exact ⟨_, (true), (by first | rfl | (simp; done) | (simp [*]; done)), H', ⟨by have := HK1.out; have := HK2.out; first | omega | exact Nat.le_refl _⟩, ⟨by (with_reducible repeat (first | apply Kd.R_alloc | apply Kd.R_drewN | apply Kd.R_drew)); exact HO_5.out⟩, ⟨b_ BK101⟩, ⟨b_ BK102⟩, ⟨b_ BK103⟩, ⟨l_ HB⟩⟩
                  · rw [if_neg c21] at H
                    have c21b0 : decide (x8_2 < (l1_1.length : Int)) = false := decide_eq_false c21
                    clear c21
                    (first | rw [c21b0] | (simp only [i64_w, i32_w]; rw [c21b0]) | skip)
                    have H' := A_ H
                    clear H
                    have hnb25 := NB102_101.out
                    have hnc25 := NB101_102.out
                    have hnb26 := NB102_103.out
                    have hnc26 := NB103_102.out
                    have hcz27_0 : wr.cell? ⟨gb102, 0, none⟩ = some (.bool a1_0) := (blk_cell BK102.out 0).trans rfl
                    have hcz27_1 : wr.cell? ⟨gb102, 1, none⟩ = some (.slice A1_1 l1_1.length c1_1) := (blk_cell BK102.out 1).trans rfl
                    have hfz27_0 := blk_frozen BK102.out 0
                    have hfz27_1 := blk_frozen BK102.out 1
                    go_wp2
                    repeat (go_quiet (fail); try go_wp2)
                    go_meet
                    case rel => exact ⟨_, (decide (x7_2 > 0)), (by first | rfl | (simp; done) | (simp [*]; done)), H', ⟨by have := HK1.out; have := HK2.out; first | omega | exact Nat.le_refl _⟩, ⟨by (with_reducible repeat (first | apply Kd.R_alloc | apply Kd.R_drewN | apply Kd.R_drew)); exact HO_5.out⟩, ⟨b_ BK101⟩, ⟨b_ BK102⟩, ⟨b_ BK103⟩, ⟨l_ HB⟩⟩
                case rest =>
                  clear HC20
                  try clear c1
                  try clear c2
                  try clear p2
                  try clear c4
                  try clear c4b0
                  try clear c4b1
                  try clear c5
                  try clear c5b0
                  try clear c5b1
                  try clear p6
                  try clear c9
                  try clear c10
                  try clear c12
                  try clear c16
                  try clear c16b0
                  try clear c17
                  try clear c18
                  try clear c21
                  try clear c21b0
                  try clear c22
                  try clear c23
                  try clear c25
                  try clear c26
                  try clear hcz11_0
                  try clear hcz11_1
                  try clear hcz13_0
                  try clear hcz13_1
                  try clear hcz19_0
                  try clear hcz19_1
                  try clear hcz24_0
                  try clear hcz24_1
                  try clear hcz27_0
                  try clear hcz27_1
                  try clear hfz11_0
                  try clear hfz11_1
                  try clear hfz13_0
                  try clear hfz13_1
                  try clear hfz19_0
                  try clear hfz19_1
                  try clear hfz24_0
                  try clear hfz24_1
                  try clear hfz27_0
                  try clear hfz27_1
                  try clear p2
                  try clear p6
                  obtain ⟨kq, x33_19, rfl, HA, HJ19, HO_5, BK101, BK102, BK103, HB⟩ := hcut
                  cases kq with
                  | zero => exact absurd HA.out (by simp [cobwebref01_Mul.j2])
                  | succ kj19 =>
                    have H := HA.out
                    clear HA
                    simp only [cobwebref01_Mul.j2] at H
                    by_cases c28 : x33_19 = true
                    · subst c28
                      have H1 : (if 0 ≤ (wrap64 (x6_1 + x8_2)) then (if (wrap64 (x6_1 + x8_2)) < (x5_2.length : Int) then (if 0 ≤ x6_1 then (if x6_1 < (l0_1.length : Int) then ((cobwebref01_digit.f l1_1 x8_2).bind fun t113 => ((cobwebref01_base.f).bind fun t114 => (if t114 = 0 then (none) else ((cobwebref01_base.f).bind fun t116 => (if t116 = 0 then (none) else (cobwebref01_Mul.l1 kj19 (x5_2.set ((wrap64 (x6_1 + x8_2)) : Int).toNat (Int.tmod (wrap64 ((wrap64 (x7_2 + (rd x5_2 (wrap64 (x6_1 + x8_2))))) + (wrap64 ((rd l0_1 x6_1) * t113)))) t114)) x6_1 (wrap64 (Int.tdiv (wrap64 ((wrap64 (x7_2 + (rd x5_2 (wrap64 (x6_1 + x8_2))))) + (wrap64 ((rd l0_1 x6_1) * t113)))) t116)) (wrap64 (x8_2 + 1)) a0_0 l0_1 a1_0 l1_1)))))) else (none)) else (none)) else (none)) else (none)) = some (r1, r2) := by rw [if_pos rfl] at H; exact H
                      clear H
                      have H := H1
                      clear H1
                      obtain ⟨ji29, hji29⟩ : ∃ j_ : Int, (wrap64 (x6_1 + x8_2)) = j_ := ⟨_, rfl⟩
                      replace H : (if 0 ≤ (ji29) then (if (ji29) < (x5_2.length : Int) then (if 0 ≤ x6_1 then (if x6_1 < (l0_1.length : Int) then ((cobwebref01_digit.f l1_1 x8_2).bind fun t113 => ((cobwebref01_base.f).bind fun t114 => (if t114 = 0 then (none) else ((cobwebref01_base.f).bind fun t116 => (if t116 = 0 then (none) else (cobwebref01_Mul.l1 kj19 (x5_2.set ((ji29) : Int).toNat (Int.tmod (wrap64 ((wrap64 (x7_2 + (rd x5_2 (ji29)))) + (wrap64 ((rd l0_1 x6_1) * t113)))) t114)) x6_1 (wrap64 (Int.tdiv (wrap64 ((wrap64 (x7_2 + (rd x5_2 (ji29)))) + (wrap64 ((rd l0_1 x6_1) * t113)))) t116)) (wrap64 (x8_2 + 1)) a0_0 l0_1 a1_0 l1_1)))))) else (none)) else (none)) else (none)) else (none)) = some (r1, r2) := by first | (rw [hji29] at H; exact H) | (simp only [hji29] at H ⊢; exact H)
                      have hji29w : (IntKind.i64.wrap (x6_1 + x8_2)) = ji29 := (i64_w _).trans hji29
                      by_cases c30 : 0 ≤ (ji29)
                      · rw [if_pos c30] at H
                        have c30b0 : decide (0 ≤ (ji29)) = true := decide_eq_true c30
                        clear c30
                        by_cases c31 : (ji29) < (x5_2.length : Int)
                        · rw [if_pos c31] at H
                          have c31b0 : decide ((ji29) < (x5_2.length : Int)) = true := decide_eq_true c31
                          clear c31
                          by_cases c32 : 0 ≤ x6_1
                          · rw [if_pos c32] at H
                            have c32b0 : decide (0 ≤ x6_1) = true := decide_eq_true c32
                            clear c32
                            by_cases c33 : x6_1 < (l0_1.length : Int)
                            · rw [if_pos c33] at H
                              have c33b0 : decide (x6_1 < (l0_1.length : Int)) = true := decide_eq_true c33
                              clear c33
                              replace H := Option.bind_eq_some_iff.mp H
                              obtain ⟨t113, A340, H⟩ := H
                              replace H : ((cobwebref01_base.f).bind fun t114 => (if t114 = 0 then (none) else ((cobwebref01_base.f).bind fun t116 => (if t116 = 0 then (none) else (cobwebref01_Mul.l1 kj19 (x5_2.set ((ji29) : Int).toNat (Int.tmod (wrap64 ((wrap64 (x7_2 + (rd x5_2 (ji29)))) + (wrap64 ((rd l0_1 x6_1) * t113)))) t114)) x6_1 (wrap64 (Int.tdiv (wrap64 ((wrap64 (x7_2 + (rd x5_2 (ji29)))) + (wrap64 ((rd l0_1 x6_1) * t113)))) t116)) (wrap64 (x8_2 + 1)) a0_0 l0_1 a1_0 l1_1))))) = some (r1, r2) := H
                              have A34 := A_ A340
                              clear A340
                              replace H := Option.bind_eq_some_iff.mp H
                              obtain ⟨t114, A350, H⟩ := H
                              replace H : (if t114 = 0 then (none) else ((cobwebref01_base.f).bind fun t116 => (if t116 = 0 then (none) else (cobwebref01_Mul.l1 kj19 (x5_2.set ((ji29) : Int).toNat (Int.tmod (wrap64 ((wrap64 (x7_2 + (rd x5_2 (ji29)))) + (wrap64 ((rd l0_1 x6_1) * t113)))) t114)) x6_1 (wrap64 (Int.tdiv (wrap64 ((wrap64 (x7_2 + (rd x5_2 (ji29)))) + (wrap64 ((rd l0_1 x6_1) * t113)))) t116)) (wrap64 (x8_2 + 1)) a0_0 l0_1 a1_0 l1_1)))) = some (r1, r2) := H
                              have A35 := A_ A350
                              clear A350
                              by_cases c36 : t114 = 0
                              · rw [if_pos c36] at H
                                exact absurd H (by simp)
                              · rw [if_neg c36] at H
                                have c36b0 : (t114 == 0) = false := beq_eq_false_iff_ne.mpr c36
                                have c36b1 : (t114 != 0) = true := bne_iff_ne.mpr c36
                                obtain ⟨y115, hy115⟩ : ∃ y_ : List Int, y_ = (x5_2.set ((ji29) : Int).toNat (Int.tmod (wrap64 ((wrap64 (x7_2 + (rd x5_2 (ji29)))) + (wrap64 ((rd l0_1 x6_1) * t113)))) t114)) := ⟨_, rfl⟩
                                replace H : ((cobwebref01_base.f).bind fun t116 => (if t116 = 0 then (none) else (cobwebref01_Mul.l1 kj19 y115 x6_1 (wrap64 (Int.tdiv (wrap64 ((wrap64 (x7_2 + (rd x5_2 (ji29)))) + (wrap64 ((rd l0_1 x6_1) * t113)))) t116)) (wrap64 (x8_2 + 1)) a0_0 l0_1 a1_0 l1_1))) = some (r1, r2) := by first | (rw [hy115]; with_reducible exact H) | (have H2_ := (Option.bind_some _ _).symm.trans H; rw [hy115]; with_reducible exact H2_) | (have H2_ := (Option.bind_some _ _).symm.trans H; with_reducible exact H2_) | with_reducible exact H | (rw [hy115]; exact H) | exact H
                                have Ny115 := A_ hy115
                                clear hy115
                                replace H := Option.bind_eq_some_iff.mp H
                                obtain ⟨t116, A380, H⟩ := H
                                replace H : (if t116 = 0 then (none) else (cobwebref01_Mul.l1 kj19 y115 x6_1 (wrap64 (Int.tdiv (wrap64 ((wrap64 (x7_2 + (rd x5_2 (ji29)))) + (wrap64 ((rd l0_1 x6_1) * t113)))) t116)) (wrap64 (x8_2 + 1)) a0_0 l0_1 a1_0 l1_1)) = some (r1, r2) := H
                                have A38 := A_ A380
                                clear A380
                                by_cases c39 : t116 = 0
                                · rw [if_pos c39] at H
                                  exact absurd H (by simp)
                                · rw [if_neg c39] at H
                                  have c39b0 : (t116 == 0) = false := beq_eq_false_iff_ne.mpr c39
                                  have c39b1 : (t116 != 0) = true := bne_iff_ne.mpr c39
                                  have H' := A_ H
                                  clear H
                                  obtain ⟨Ao40, co40, eo40⟩ := Kd.R_slice HO_5.out
                                  subst eo40
                                  have p111 : 0 ≤ ((ji29) : Int) := of_decide_eq_true (by first | (with_reducible assumption) | assumption)
                                  have q111 : (ji29) < (x5_2.length : Int) := of_decide_eq_true (by first | (with_reducible assumption) | assumption)
                                  obtain ⟨ad111, e111, hx111_0⟩ := Kd.at_int (Kd.R_reads' HO_5.out).2.2 (ji29) p111 q111
                                  cases e111
                                  replace p111 := eq_true p111
                                  replace q111 := eq_true q111
                                  have hnb41 := NB101_102.out
                                  have hnc41 := NB102_101.out
                                  have hnb42 := NB101_103.out
                                  have hnc42 := NB103_101.out
                                  have hcz43_0 : wc.cell? ⟨gb101, 0, none⟩ = some (.bool a0_0) := (blk_cell BK101.out 0).trans rfl
                                  have hcz43_1 : wc.cell? ⟨gb101, 1, none⟩ = some (.slice A0_1 l0_1.length c0_1) := (blk_cell BK101.out 1).trans rfl
                                  have hfz43_0 := blk_frozen BK101.out 0
                                  have hfz43_1 := blk_frozen BK101.out 1
                                  have p112 : 0 ≤ (x6_1 : Int) := of_decide_eq_true (by first | (with_reducible assumption) | assumption)
                                  have q112 : x6_1 < (l0_1.length : Int) := of_decide_eq_true (by first | (with_reducible assumption) | assumption)
                                  obtain ⟨ad112, e112, hx112_0⟩ := Kd.at_int HR0_1.out x6_1 p112 q112
                                  cases e112
                                  replace hx112_0 := (HB.out.cell (World.block_lt_of_cell? w _ hx112_0)).trans hx112_0
                                  replace p112 := eq_true p112
                                  replace q112 := eq_true q112
                                  have hnb44 := NB102_103.out
                                  have hnc44 := NB103_102.out
                                  have hcz45_0 : wc.cell? ⟨gb102, 0, none⟩ = some (.bool a1_0) := (blk_cell BK102.out 0).trans rfl
                                  have hcz45_1 : wc.cell? ⟨gb102, 1, none⟩ = some (.slice A1_1 l1_1.length c1_1) := (blk_cell BK102.out 1).trans rfl
                                  have hfz45_0 := blk_frozen BK102.out 0
                                  have hfz45_1 := blk_frozen BK102.out 1
                                  go_wp2_with (first | (go_at_call 53; (with_reducible refine (cobwebref01_digit.calls _ _ l1_1 x8_2 t113 _ ?side1 ?side2 A34.out).mono ?_); (case side1 => exact c_ (Kd.C_below HR1_1.out HB.out)); (case side2 => exact HC1_1.out); rintro e w' ⟨rfl, ⟨nd, rfl⟩⟩; (try first | exact ⟨rfl, _, World.drewN_drewN _ _ _⟩ | exact ⟨rfl, _, Eq.trans (World.drewN_drewN _ _ _) (congrArg (World.drewN _) (Nat.add_assoc _ _ _))⟩)) | (go_at_call 54; (with_reducible refine (cobwebref01_base.calls  t114 _ A35.out).mono ?_); rintro e w' ⟨rfl, ⟨nd, rfl⟩⟩; (try first | exact ⟨rfl, _, World.drewN_drewN _ _ _⟩ | exact ⟨rfl, _, Eq.trans (World.drewN_drewN _ _ _) (congrArg (World.drewN _) (Nat.add_assoc _ _ _))⟩); have p37 : 0 ≤ ((ji29) : Int) := of_decide_eq_true (by first | (with_reducible assumption) | assumption); have q37 : ((ji29) : Int) < ((x5_2.length : Int) : Int) := of_decide_eq_true (by first | (with_reducible assumption) | assumption); obtain ⟨go37, co37, eo37, gb37, gl37, cl37, HG37⟩ := Kd.R_form HO_5.out (by omega); (first | cases eo37 | (injection eo37 with ea_ en_ ec_; (first | subst ea_ | (injection ea_ with ea_; subst ea_)); subst ec_; clear en_)); have GB37 := A_ gb37; have GG37 := A_ HG37; clear gb37 gl37 HG37; (first | simp only [add_plain] at hx111_0 | skip); obtain ⟨hx37_0, hf37_0⟩ := Kd.R_celln 0 HO_5.out ((ji29) : Int) p37 q37; replace p37 := eq_true p37; replace q37 := eq_true q37; obtain ⟨hy46_, hz46_⟩ := Kd.R_celln 0 HO_5.out ((ji29) : Int) (of_decide_eq_true (by first | (with_reducible assumption) | assumption)) (of_decide_eq_true (by first | (with_reducible assumption) | assumption)); have HP46 := Kd.R_putg HO_5.out ((ji29) : Int) (Int.tmod (wrap64 ((wrap64 (x7_2 + (rd x5_2 (ji29)))) + (wrap64 ((rd l0_1 x6_1) * t113)))) t114)) | ((with_reducible refine gate_store (t := 3) (p := 62) rfl ?_); (try (rw [drewN_self wc]; generalize hq_ : World.drewN wc _ = wc; replace HO_5 := A_ (Kd.R_at hq_ HO_5.out); replace BK101 := A_ (blk_at hq_ BK101.out); replace BK102 := A_ (blk_at hq_ BK102.out); replace BK103 := A_ (blk_at hq_ BK103.out); replace HB := A_ (below_at hq_ HB.out); clear hq_; (try (obtain ⟨hy46_, hz46_⟩ := Kd.R_celln 0 HO_5.out ((ji29) : Int) (of_decide_eq_true (by first | (with_reducible assumption) | assumption)) (of_decide_eq_true (by first | (with_reducible assumption) | assumption)))); (try (have HP46 := Kd.R_putg HO_5.out ((ji29) : Int) (Int.tmod (wrap64 ((wrap64 (x7_2 + (rd x5_2 (ji29)))) + (wrap64 ((rd l0_1 x6_1) * t113)))) t114))))); refine store_event (t := 3) (p := 62) (v := ?vo_w47) (w1 := (wc.setCell ⟨go37, ((ji29) : Int).toNat, none⟩ (.int .i64 (Int.tmod (wrap64 ((wrap64 (x7_2 + (rd x5_2 (ji29)))) + (wrap64 ((rd l0_1 x6_1) * t113)))) t114)))) ?hg ?ho ?hn ?hr ?_; (case ho => rfl); (case hg => rfl); (case hn => rfl); (case hr => first | (go_simp; done) | (go_simp; rfl)); intro w47 hw; have hg : wc.grownBy w47 (some go37) := (by rw [hw]; exact HP46.2); have hp_ : Kd.R (Kd.int .i64) 3 w47 w.heap.size (fun k_ => (w.heap.size ≤ k_)) (.slice (some ⟨go37, 0, none⟩) x5_2.length co40) y115 := (by rw [hw, Ny115.out]; exact HP46.1); clear HP46; replace BK101 := A_ (blk_grown (b_ BK101) hg (Kd.R_ne HO_5.out BK101.out (by decide))); replace BK102 := A_ (blk_grown (b_ BK102) hg (Kd.R_ne HO_5.out BK102.out (by decide))); replace BK103 := A_ (blk_grown (b_ BK103) hg (Kd.R_ne HO_5.out BK103.out (by decide))); replace HO_5 := A_ (hp_); replace HB := A_ ((by rw [hw]; exact below_set (HB.out) GB37.out : Below w.heap.size w w47)); clear hg hw hp_) | (go_at_call 54; (with_reducible refine (cobwebref01_base.calls  t116 _ A38.out).mono ?_); rintro e w' ⟨rfl, ⟨nd, rfl⟩⟩; (try first | exact ⟨rfl, _, World.drewN_drewN _ _ _⟩ | exact ⟨rfl, _, Eq.trans (World.drewN_drewN _ _ _) (congrArg (World.drewN _) (Nat.add_assoc _ _ _))⟩)))
                                  repeat (go_quiet (first | (go_at_call 53; (with_reducible refine (cobwebref01_digit.calls _ _ l1_1 x8_2 t113 _ ?side1 ?side2 A34.out).mono ?_); (case side1 => exact c_ (Kd.C_below HR1_1.out HB.out)); (case side2 => exact HC1_1.out); rintro e w' ⟨rfl, ⟨nd, rfl⟩⟩; (try first | exact ⟨rfl, _, World.drewN_drewN _ _ _⟩ | exact ⟨rfl, _, Eq.trans (World.drewN_drewN _ _ _) (congrArg (World.drewN _) (Nat.add_assoc _ _ _))⟩)) | (go_at_call 54; (with_reducible refine (cobwebref01_base.calls  t114 _ A35.out).mono ?_); rintro e w' ⟨rfl, ⟨nd, rfl⟩⟩; (try first | exact ⟨rfl, _, World.drewN_drewN _ _ _⟩ | exact ⟨rfl, _, Eq.trans (World.drewN_drewN _ _ _) (congrArg (World.drewN _) (Nat.add_assoc _ _ _))⟩); have p37 : 0 ≤ ((ji29) : Int) := of_decide_eq_true (by first | (with_reducible assumption) | assumption); have q37 : ((ji29) : Int) < ((x5_2.length : Int) : Int) := of_decide_eq_true (by first | (with_reducible assumption) | assumption); obtain ⟨go37, co37, eo37, gb37, gl37, cl37, HG37⟩ := Kd.R_form HO_5.out (by omega); (first | cases eo37 | (injection eo37 with ea_ en_ ec_; (first | subst ea_ | (injection ea_ with ea_; subst ea_)); subst ec_; clear en_)); have GB37 := A_ gb37; have GG37 := A_ HG37; clear gb37 gl37 HG37; (first | simp only [add_plain] at hx111_0 | skip); obtain ⟨hx37_0, hf37_0⟩ := Kd.R_celln 0 HO_5.out ((ji29) : Int) p37 q37; replace p37 := eq_true p37; replace q37 := eq_true q37; obtain ⟨hy46_, hz46_⟩ := Kd.R_celln 0 HO_5.out ((ji29) : Int) (of_decide_eq_true (by first | (with_reducible assumption) | assumption)) (of_decide_eq_true (by first | (with_reducible assumption) | assumption)); have HP46 := Kd.R_putg HO_5.out ((ji29) : Int) (Int.tmod (wrap64 ((wrap64 (x7_2 + (rd x5_2 (ji29)))) + (wrap64 ((rd l0_1 x6_1) * t113)))) t114)) | ((with_reducible refine gate_store (t := 3) (p := 62) rfl ?_); (try (rw [drewN_self wc]; generalize hq_ : World.drewN wc _ = wc; replace HO_5 := A_ (Kd.R_at hq_ HO_5.out); replace BK101 := A_ (blk_at hq_ BK101.out); replace BK102 := A_ (blk_at hq_ BK102.out); replace BK103 := A_ (blk_at hq_ BK103.out); replace HB := A_ (below_at hq_ HB.out); clear hq_; (try (obtain ⟨hy46_, hz46_⟩ := Kd.R_celln 0 HO_5.out ((ji29) : Int) (of_decide_eq_true (by first | (with_reducible assumption) | assumption)) (of_decide_eq_true (by first | (with_reducible assumption) | assumption)))); (try (have HP46 := Kd.R_putg HO_5.out ((ji29) : Int) (Int.tmod (wrap64 ((wrap64 (x7_2 + (rd x5_2 (ji29)))) + (wrap64 ((rd l0_1 x6_1) * t113)))) t114))))); refine store_event (t := 3) (p := 62) (v := ?vo_w47) (w1 := (wc.setCell ⟨go37, ((ji29) : Int).toNat, none⟩ (.int .i64 (Int.tmod (wrap64 ((wrap64 (x7_2 + (rd x5_2 (ji29)))) + (wrap64 ((rd l0_1 x6_1) * t113)))) t114)))) ?hg ?ho ?hn ?hr ?_; (case ho => rfl); (case hg => rfl); (case hn => rfl); (case hr => first | (go_simp; done) | (go_simp; rfl)); intro w47 hw; have hg : wc.grownBy w47 (some go37) := (by rw [hw]; exact HP46.2); have hp_ : Kd.R (Kd.int .i64) 3 w47 w.heap.size (fun k_ => (w.heap.size ≤ k_)) (.slice (some ⟨go37, 0, none⟩) x5_2.length co40) y115 := (by rw [hw, Ny115.out]; exact HP46.1); clear HP46; replace BK101 := A_ (blk_grown (b_ BK101) hg (Kd.R_ne HO_5.out BK101.out (by decide))); replace BK102 := A_ (blk_grown (b_ BK102) hg (Kd.R_ne HO_5.out BK102.out (by decide))); replace BK103 := A_ (blk_grown (b_ BK103) hg (Kd.R_ne HO_5.out BK103.out (by decide))); replace HO_5 := A_ (hp_); replace HB := A_ ((by rw [hw]; exact below_set (HB.out) GB37.out : Below w.heap.size w w47)); clear hg hw hp_) | (go_at_call 54; (with_reducible refine (cobwebref01_base.calls  t116 _ A38.out).mono ?_); rintro e w' ⟨rfl, ⟨nd, rfl⟩⟩; (try first | exact ⟨rfl, _, World.drewN_drewN _ _ _⟩ | exact ⟨rfl, _, Eq.trans (World.drewN_drewN _ _ _) (congrArg (World.drewN _) (Nat.add_assoc _ _ _))⟩))); try go_wp2_with (first | (go_at_call 53; (with_reducible refine (cobwebref01_digit.calls _ _ l1_1 x8_2 t113 _ ?side1 ?side2 A34.out).mono ?_); (case side1 => exact c_ (Kd.C_below HR1_1.out HB.out)); (case side2 => exact HC1_1.out); rintro e w' ⟨rfl, ⟨nd, rfl⟩⟩; (try first | exact ⟨rfl, _, World.drewN_drewN _ _ _⟩ | exact ⟨rfl, _, Eq.trans (World.drewN_drewN _ _ _) (congrArg (World.drewN _) (Nat.add_assoc _ _ _))⟩)) | (go_at_call 54; (with_reducible refine (cobwebref01_base.calls  t114 _ A35.out).mono ?_); rintro e w' ⟨rfl, ⟨nd, rfl⟩⟩; (try first | exact ⟨rfl, _, World.drewN_drewN _ _ _⟩ | exact ⟨rfl, _, Eq.trans (World.drewN_drewN _ _ _) (congrArg (World.drewN _) (Nat.add_assoc _ _ _))⟩); have p37 : 0 ≤ ((ji29) : Int) := of_decide_eq_true (by first | (with_reducible assumption) | assumption); have q37 : ((ji29) : Int) < ((x5_2.length : Int) : Int) := of_decide_eq_true (by first | (with_reducible assumption) | assumption); obtain ⟨go37, co37, eo37, gb37, gl37, cl37, HG37⟩ := Kd.R_form HO_5.out (by omega); (first | cases eo37 | (injection eo37 with ea_ en_ ec_; (first | subst ea_ | (injection ea_ with ea_; subst ea_)); subst ec_; clear en_)); have GB37 := A_ gb37; have GG37 := A_ HG37; clear gb37 gl37 HG37; (first | simp only [add_plain] at hx111_0 | skip); obtain ⟨hx37_0, hf37_0⟩ := Kd.R_celln 0 HO_5.out ((ji29) : Int) p37 q37; replace p37 := eq_true p37; replace q37 := eq_true q37; obtain ⟨hy46_, hz46_⟩ := Kd.R_celln 0 HO_5.out ((ji29) : Int) (of_decide_eq_true (by first | (with_reducible assumption) | assumption)) (of_decide_eq_true (by first | (with_reducible assumption) | assumption)); have HP46 := Kd.R_putg HO_5.out ((ji29) : Int) (Int.tmod (wrap64 ((wrap64 (x7_2 + (rd x5_2 (ji29)))) + (wrap64 ((rd l0_1 x6_1) * t113)))) t114)) | ((with_reducible refine gate_store (t := 3) (p := 62) rfl ?_); (try (rw [drewN_self wc]; generalize hq_ : World.drewN wc _ = wc; replace HO_5 := A_ (Kd.R_at hq_ HO_5.out); replace BK101 := A_ (blk_at hq_ BK101.out); replace BK102 := A_ (blk_at hq_ BK102.out); replace BK103 := A_ (blk_at hq_ BK103.out); replace HB := A_ (below_at hq_ HB.out); clear hq_; (try (obtain ⟨hy46_, hz46_⟩ := Kd.R_celln 0 HO_5.out ((ji29) : Int) (of_decide_eq_true (by first | (with_reducible assumption) | assumption)) (of_decide_eq_true (by first | (with_reducible assumption) | assumption)))); (try (have HP46 := Kd.R_putg HO_5.out ((ji29) : Int) (Int.tmod (wrap64 ((wrap64 (x7_2 + (rd x5_2 (ji29)))) + (wrap64 ((rd l0_1 x6_1) * t113)))) t114))))); refine store_event (t := 3) (p := 62) (v := ?vo_w47) (w1 := (wc.setCell ⟨go37, ((ji29) : Int).toNat, none⟩ (.int .i64 (Int.tmod (wrap64 ((wrap64 (x7_2 + (rd x5_2 (ji29)))) + (wrap64 ((rd l0_1 x6_1) * t113)))) t114)))) ?hg ?ho ?hn ?hr ?_; (case ho => rfl); (case hg => rfl); (case hn => rfl); (case hr => first | (go_simp; done) | (go_simp; rfl)); intro w47 hw; have hg : wc.grownBy w47 (some go37) := (by rw [hw]; exact HP46.2); have hp_ : Kd.R (Kd.int .i64) 3 w47 w.heap.size (fun k_ => (w.heap.size ≤ k_)) (.slice (some ⟨go37, 0, none⟩) x5_2.length co40) y115 := (by rw [hw, Ny115.out]; exact HP46.1); clear HP46; replace BK101 := A_ (blk_grown (b_ BK101) hg (Kd.R_ne HO_5.out BK101.out (by decide))); replace BK102 := A_ (blk_grown (b_ BK102) hg (Kd.R_ne HO_5.out BK102.out (by decide))); replace BK103 := A_ (blk_grown (b_ BK103) hg (Kd.R_ne HO_5.out BK103.out (by decide))); replace HO_5 := A_ (hp_); replace HB := A_ ((by rw [hw]; exact below_set (HB.out) GB37.out : Below w.heap.size w w47)); clear hg hw hp_) | (go_at_call 54; (with_reducible refine (cobwebref01_base.calls  t116 _ A38.out).mono ?_); rintro e w' ⟨rfl, ⟨nd, rfl⟩⟩; (try first | exact ⟨rfl, _, World.drewN_drewN _ _ _⟩ | exact ⟨rfl, _, Eq.trans (World.drewN_drewN _ _ _) (congrArg (World.drewN _) (Nat.add_assoc _ _ _))⟩))))
                                  go_roundg kj19
                                  case measure => have := HK1.out; have := HK2.out; have := HJ19.out; omega
                                  case rel => exact ⟨(y115), (wrap64 (Int.tdiv (wrap64 ((wrap64 (x7_2 + (rd x5_2 (ji29)))) + (wrap64 ((rd l0_1 x6_1) * t113)))) t116)), (wrap64 (x8_2 + 1)), (by first | rfl | (simp; done) | (simp only [← hji29] <;> (first | rfl | simp)) | (simp [*]; done)), (by first | rfl | (simp; done) | (simp [*]; done)), H', ⟨by have := HK1.out; have := HK2.out; have := HJ19.out; omega⟩, ⟨by (with_reducible repeat (first | apply Kd.R_alloc | apply Kd.R_drewN | apply Kd.R_drew)); exact HO_5.out⟩, ⟨b_ BK101⟩, ⟨b_ BK102⟩, ⟨b_ BK103⟩, ⟨l_ HB⟩⟩
                            · rw [if_neg c33] at H
                              exact absurd H (by simp)
                          · rw [if_neg c32] at H
                            exact absurd H (by simp)
                        · rw [if_neg c31] at H
                          exact absurd H (by simp)
                      · rw [if_neg c30] at H
                        exact absurd H (by simp)
                    · replace c28 := Bool.eq_false_iff.mpr c28
                      subst c28
                      have H1 : (cobwebref01_Mul.l0 kj19 x5_2 (wrap64 (x6_1 + 1)) a0_0 l0_1 a1_0 l1_1) = some (r1, r2) := by rw [if_neg (show ¬ (false = true) by decide)] at H; exact H
                      clear H
                      have H := H1
                      clear H1
                      have H' := A_ H
                      clear H
                      go_wp2
                      repeat (go_quiet (fail); try go_wp2)
                      go_roundg kj19
                      case measure => have := HK1.out; have := HK2.out; have := HJ19.out; omega
                      case rel => exact ⟨(x5_2), (wrap64 (x6_1 + 1)), (by first | rfl | (simp; done) | (simp [*]; done)), H', ⟨by have := HK1.out; have := HK2.out; have := HJ19.out; omega⟩, ⟨by (with_reducible repeat (first | apply Kd.R_alloc | apply Kd.R_drewN | apply Kd.R_drew)); exact HO_5.out⟩, ⟨b_ BK101⟩, ⟨b_ BK102⟩, ⟨b_ BK103⟩, ⟨l_ HB⟩⟩
          · rw [if_neg c16] at H
            have c16b0 : decide (x6_1 < (l0_1.length : Int)) = false := decide_eq_false c16
            clear c16
            replace H := Option.bind_eq_some_iff.mp H
            obtain ⟨⟨t107, t108⟩, A480, H⟩ := H
            replace H : (some (t107, t108)) = some (r1, r2) := H
            have A48 := A_ A480
            clear A480
            simp only [Option.some.injEq, Prod.mk.injEq] at H
            obtain ⟨rfl, rfl⟩ := H
            have hnb49 := NB101_102.out
            have hnc49 := NB102_101.out
            have hnb50 := NB101_103.out
            have hnc50 := NB103_101.out
            have hcz51_0 : wr.cell? ⟨gb101, 0, none⟩ = some (.bool a0_0) := (blk_cell BK101.out 0).trans rfl
            have hcz51_1 : wr.cell? ⟨gb101, 1, none⟩ = some (.slice A0_1 l0_1.length c0_1) := (blk_cell BK101.out 1).trans rfl
            have hfz51_0 := blk_frozen BK101.out 0
            have hfz51_1 := blk_frozen BK101.out 1
            have hnb52 := NB102_103.out
            have hnc52 := NB103_102.out
            have hcz53_0 : wr.cell? ⟨gb102, 0, none⟩ = some (.bool a1_0) := (blk_cell BK102.out 0).trans rfl
            have hcz53_1 : wr.cell? ⟨gb102, 1, none⟩ = some (.slice A1_1 l1_1.length c1_1) := (blk_cell BK102.out 1).trans rfl
            have hfz53_0 := blk_frozen BK102.out 0
            have hfz53_1 := blk_frozen BK102.out 1
            obtain ⟨Ao54, co54, eo54⟩ := Kd.R_slice HO_5.out
            subst eo54
            go_wp2_with (first | (go_at_call 45; (with_reducible refine (cobwebref01_trim.calls k1 (!(a0_0 == a1_0)) (fun k_ => some k_ = (.slice Ao54 x5_1.length co54 : Value).ownBlock) _ _ x5_1 t107 t108 _ ?side1 (by have z_ := A48.out; simp only [bne] at z_; exact z_)).mono ?_); (case side1 => exact Kd.R_V (Kd.R_tight rfl (Kd.R_types (Kd.R_types (Kd.R_types (HO_5.out) BK101.out (by decide)) BK102.out (by decide)) BK103.out (by decide)))); rintro e w55 ⟨v109, rfl, ho0, hb⟩; have HO110 := A_ (Kd.V_lower (Kd.V_mono (ok' := fun k_ => (w.heap.size ≤ k_) ∧ k_ ≠ gb101 ∧ k_ ≠ gb102 ∧ k_ ≠ gb103) ho0 (fun k_ hk_ => ⟨Or.elim hk_ (fun hs_ => ((Kd.R_types (Kd.R_types (Kd.R_types (HO_5.out) BK101.out (by decide)) BK102.out (by decide)) BK103.out (by decide)).1 k_ hs_.symm).1.1.1) (fun hn_ => (Nat.le_trans (below_size (l_ HB)) hn_)), Or.elim hk_ (fun hs_ => ((Kd.R_types (Kd.R_types (Kd.R_types (HO_5.out) BK101.out (by decide)) BK102.out (by decide)) BK103.out (by decide)).1 k_ hs_.symm).1.1.2) (fun hn_ => (Kd.freshB (b_ BK101) k_ hn_)), Or.elim hk_ (fun hs_ => ((Kd.R_types (Kd.R_types (Kd.R_types (HO_5.out) BK101.out (by decide)) BK102.out (by decide)) BK103.out (by decide)).1 k_ hs_.symm).1.2) (fun hn_ => (Kd.freshB (b_ BK102) k_ hn_)), Or.elim hk_ (fun hs_ => ((Kd.R_types (Kd.R_types (Kd.R_types (HO_5.out) BK101.out (by decide)) BK102.out (by decide)) BK103.out (by decide)).1 k_ hs_.symm).2) (fun hn_ => (Kd.freshB (b_ BK103) k_ hn_))⟩)) (below_size (l_ HB))); replace HO_5 := A_ (Kd.R_below (r_ HO_5.out) hb); replace BK101 := bb_ BK101 hb; replace BK102 := bb_ BK102 hb; replace BK103 := bb_ BK103 hb; replace HB := st_ HB hb; (try clear hb); (try clear hb2); (try clear hk); (try clear hi); (try clear ho0); have hcz56_0 : w55.cell? ⟨gb103, 0, none⟩ = some (.bool false) := (blk_cell BK103.out 0).trans rfl; have hcz56_1 : w55.cell? ⟨gb103, 1, none⟩ = some (.slice none 0 0) := (blk_cell BK103.out 1).trans rfl; have hfz56_0 := blk_frozen BK103.out 0; have hfz56_1 := blk_frozen BK103.out 1; obtain ⟨Ao57, co57, eo57⟩ := Kd.V_slice HO110.out; subst eo57))
            repeat (go_quiet (first | (go_at_call 45; (with_reducible refine (cobwebref01_trim.calls k1 (!(a0_0 == a1_0)) (fun k_ => some k_ = (.slice Ao54 x5_1.length co54 : Value).ownBlock) _ _ x5_1 t107 t108 _ ?side1 (by have z_ := A48.out; simp only [bne] at z_; exact z_)).mono ?_); (case side1 => exact Kd.R_V (Kd.R_tight rfl (Kd.R_types (Kd.R_types (Kd.R_types (HO_5.out) BK101.out (by decide)) BK102.out (by decide)) BK103.out (by decide)))); rintro e w55 ⟨v109, rfl, ho0, hb⟩; have HO110 := A_ (Kd.V_lower (Kd.V_mono (ok' := fun k_ => (w.heap.size ≤ k_) ∧ k_ ≠ gb101 ∧ k_ ≠ gb102 ∧ k_ ≠ gb103) ho0 (fun k_ hk_ => ⟨Or.elim hk_ (fun hs_ => ((Kd.R_types (Kd.R_types (Kd.R_types (HO_5.out) BK101.out (by decide)) BK102.out (by decide)) BK103.out (by decide)).1 k_ hs_.symm).1.1.1) (fun hn_ => (Nat.le_trans (below_size (l_ HB)) hn_)), Or.elim hk_ (fun hs_ => ((Kd.R_types (Kd.R_types (Kd.R_types (HO_5.out) BK101.out (by decide)) BK102.out (by decide)) BK103.out (by decide)).1 k_ hs_.symm).1.1.2) (fun hn_ => (Kd.freshB (b_ BK101) k_ hn_)), Or.elim hk_ (fun hs_ => ((Kd.R_types (Kd.R_types (Kd.R_types (HO_5.out) BK101.out (by decide)) BK102.out (by decide)) BK103.out (by decide)).1 k_ hs_.symm).1.2) (fun hn_ => (Kd.freshB (b_ BK102) k_ hn_)), Or.elim hk_ (fun hs_ => ((Kd.R_types (Kd.R_types (Kd.R_types (HO_5.out) BK101.out (by decide)) BK102.out (by decide)) BK103.out (by decide)).1 k_ hs_.symm).2) (fun hn_ => (Kd.freshB (b_ BK103) k_ hn_))⟩)) (below_size (l_ HB))); replace HO_5 := A_ (Kd.R_below (r_ HO_5.out) hb); replace BK101 := bb_ BK101 hb; replace BK102 := bb_ BK102 hb; replace BK103 := bb_ BK103 hb; replace HB := st_ HB hb; (try clear hb); (try clear hb2); (try clear hk); (try clear hi); (try clear ho0); have hcz56_0 : w55.cell? ⟨gb103, 0, none⟩ = some (.bool false) := (blk_cell BK103.out 0).trans rfl; have hcz56_1 : w55.cell? ⟨gb103, 1, none⟩ = some (.slice none 0 0) := (blk_cell BK103.out 1).trans rfl; have hfz56_0 := blk_frozen BK103.out 0; have hfz56_1 := blk_frozen BK103.out 1; obtain ⟨Ao57, co57, eo57⟩ := Kd.V_slice HO110.out; subst eo57)); try go_wp2_with (first | (go_at_call 45; (with_reducible refine (cobwebref01_trim.calls k1 (!(a0_0 == a1_0)) (fun k_ => some k_ = (.slice Ao54 x5_1.length co54 : Value).ownBlock) _ _ x5_1 t107 t108 _ ?side1 (by have z_ := A48.out; simp only [bne] at z_; exact z_)).mono ?_); (case side1 => exact Kd.R_V (Kd.R_tight rfl (Kd.R_types (Kd.R_types (Kd.R_types (HO_5.out) BK101.out (by decide)) BK102.out (by decide)) BK103.out (by decide)))); rintro e w55 ⟨v109, rfl, ho0, hb⟩; have HO110 := A_ (Kd.V_lower (Kd.V_mono (ok' := fun k_ => (w.heap.size ≤ k_) ∧ k_ ≠ gb101 ∧ k_ ≠ gb102 ∧ k_ ≠ gb103) ho0 (fun k_ hk_ => ⟨Or.elim hk_ (fun hs_ => ((Kd.R_types (Kd.R_types (Kd.R_types (HO_5.out) BK101.out (by decide)) BK102.out (by decide)) BK103.out (by decide)).1 k_ hs_.symm).1.1.1) (fun hn_ => (Nat.le_trans (below_size (l_ HB)) hn_)), Or.elim hk_ (fun hs_ => ((Kd.R_types (Kd.R_types (Kd.R_types (HO_5.out) BK101.out (by decide)) BK102.out (by decide)) BK103.out (by decide)).1 k_ hs_.symm).1.1.2) (fun hn_ => (Kd.freshB (b_ BK101) k_ hn_)), Or.elim hk_ (fun hs_ => ((Kd.R_types (Kd.R_types (Kd.R_types (HO_5.out) BK101.out (by decide)) BK102.out (by decide)) BK103.out (by decide)).1 k_ hs_.symm).1.2) (fun hn_ => (Kd.freshB (b_ BK102) k_ hn_)), Or.elim hk_ (fun hs_ => ((Kd.R_types (Kd.R_types (Kd.R_types (HO_5.out) BK101.out (by decide)) BK102.out (by decide)) BK103.out (by decide)).1 k_ hs_.symm).2) (fun hn_ => (Kd.freshB (b_ BK103) k_ hn_))⟩)) (below_size (l_ HB))); replace HO_5 := A_ (Kd.R_below (r_ HO_5.out) hb); replace BK101 := bb_ BK101 hb; replace BK102 := bb_ BK102 hb; replace BK103 := bb_ BK103 hb; replace HB := st_ HB hb; (try clear hb); (try clear hb2); (try clear hk); (try clear hi); (try clear ho0); have hcz56_0 : w55.cell? ⟨gb103, 0, none⟩ = some (.bool false) := (blk_cell BK103.out 0).trans rfl; have hcz56_1 : w55.cell? ⟨gb103, 1, none⟩ = some (.slice none 0 0) := (blk_cell BK103.out 1).trans rfl; have hfz56_0 := blk_frozen BK103.out 0; have hfz56_1 := blk_frozen BK103.out 1; obtain ⟨Ao57, co57, eo57⟩ := Kd.V_slice HO110.out; subst eo57)))
            refine bodyPost_ret (results_cell_row rfl _ _ gb103 55 #[.bool t107, .slice Ao57 t108.length co57] (0, 0) _ rfl (by (with_reducible repeat (first | refine blk_drewN ?_ _ | refine blk_drew ?_ | refine blk_alloc ?_ _)); refine blk_put (cs := #[.bool t107, .slice none 0 0]) ?_ 1 _ rfl; (with_reducible repeat (first | refine blk_drewN ?_ _ | refine blk_drew ?_ | refine blk_alloc ?_ _)); refine blk_put (cs := #[.bool false, .slice none 0 0]) ?_ 0 _ rfl; (with_reducible repeat (first | refine blk_drewN ?_ _ | refine blk_drew ?_ | refine blk_alloc ?_ _)); exact BK103.out) Try.underlying55 rfl (by kernel_rfl)) rfl ?_
            exact ⟨_, by first | rfl | (simp [errW_none, errW_some] <;> rfl) | (simp only [← hji3]; first | rfl | (simp [errW_none, errW_some] <;> rfl)) | (simp [*, errW_none, errW_some] <;> rfl), by (with_reducible repeat (first | apply Kd.V_alloc | apply Kd.V_drewN | apply Kd.V_drew)); exact Kd.V_mono (Kd.V_far (p := ⟨gb103, 1, none⟩) (Kd.V_far (p := ⟨gb103, 0, none⟩) (Kd.V_mono HO110.out (fun k_ hk => (⟨hk, hk.2.2.2⟩ : _ ∧ k_ ≠ gb103))) (fun _ hk => hk.2) (.bool t107)) (fun _ hk => hk.2) (.slice Ao57 t108.length co57)) (fun _ hk => hk.1.1), l_ HB⟩
    · rw [if_neg c5] at H
      exact absurd H (by simp)
  · rw [if_neg c4] at H
    exact absurd H (by simp)

end Go.Proofs.Ytglkjeeiiflpjaa.F
