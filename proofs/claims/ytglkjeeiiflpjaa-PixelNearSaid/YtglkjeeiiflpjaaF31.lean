-- PRINTED by print.py (a twelfth state) out of the translation. Not trusted: Lean checks it.
import Derived.Test.YtglkjeeiiflpjaaF0
import Derived.Test.YtglkjeeiiflpjaaB3
import Derived.Test.YtglkjeeiiflpjaaF45
import Derived.Test.YtglkjeeiiflpjaaF46
import Derived.Test.YtglkjeeiiflpjaaF47
import Derived.Test.YtglkjeeiiflpjaaF48
namespace Go.Proofs.Ytglkjeeiiflpjaa.F
open Go.RowKit Go.Proofs.YtglkjeeiiflpjaaW.PrintWords Go.Proofs.YtglkjeeiiflpjaaW.PrintLast Go.Proofs.YtglkjeeiiflpjaaW.PrintMore
attribute [local go_sem] max2_int min2_int max_two min_two max_three min_three max_four min_four   -- for this text's walks alone
set_option linter.unusedVariables false
set_option linter.unusedSimpArgs false

/-! ### cobwebref01_Add: function 31 -/
def cobwebref01_Add.f (k : Nat) (a0_0 : Bool) (l0_1 : List Int) (a1_0 : Bool) (l1_1 : List Int) : Option (Bool × List Int) := if (a0_0 == a1_0) = true then ((cobwebref01_plus.f k l0_1 l1_1).bind fun t104 => ((cobwebref01_trim.f k a0_0 t104).bind fun bt107 => (some (bt107.1, bt107.2)))) else ((cobwebref01_size.f k l0_1 l1_1).bind fun t111 => (if t111 ≥ 0 then ((cobwebref01_minus.f k l0_1 l1_1).bind fun t112 => ((cobwebref01_trim.f k a0_0 t112).bind fun bt115 => (some (bt115.1, bt115.2)))) else ((cobwebref01_minus.f k l1_1 l0_1).bind fun t119 => ((cobwebref01_trim.f k a1_0 t119).bind fun bt122 => (some (bt122.1, bt122.2))))))
theorem cobwebref01_Add.mono : ∀ a0 a1 a2 a3 k, LeO (cobwebref01_Add.f k a0 a1 a2 a3) (cobwebref01_Add.f (k + 1) a0 a1 a2 a3) := by
  intro a0 a1 a2 a3 k
  unfold cobwebref01_Add.f
  repeat' first
      | (with_reducible exact cobwebref01_minus.mono _ _ _)
      | (with_reducible exact cobwebref01_plus.mono _ _ _)
      | (with_reducible exact cobwebref01_size.mono _ _ _)
      | (with_reducible exact cobwebref01_trim.mono _ _ _)
      | (with_reducible exact LeO.refl _)
      | (with_reducible exact LeO.none _)
      | (with_reducible refine LeO.ite ?_ ?_)
      | (with_reducible refine LeO.bind ?_ (fun _ => ?_))
      | exact cobwebref01_minus.mono _ _ _
      | exact cobwebref01_plus.mono _ _ _
      | exact cobwebref01_size.mono _ _ _
      | exact cobwebref01_trim.mono _ _ _
      | exact LeO.none _
      | refine LeO.ite ?_ ?_
      | refine LeO.bind ?_ (fun _ => ?_)
def cobwebref01_Add.T2 : Bool × List (List Nat × List Nat) := (true, [([], []), ([0], [0]), ([], []), ([2], [2]), ([], []), ([4], [4]), ([3, 5], [3, 5]), ([1, 6], [1, 6]), ([7, 6], [7]), ([8, 8, 0, 1, 2, 3, 4, 5, 6, 7, 8], [8])])
def cobwebref01_Add.B2 : List Nat := [0, 1, 0, 4, 0, 16, 60, 127, 255, 511]
theorem cobwebref01_Add.tab2 : rtab .any (opsOf Try.f31 2) = cobwebref01_Add.T2 := by kernel_rfl
theorem cobwebref01_Add.bits2 : waitsOk cobwebref01_Add.T2.2 cobwebref01_Add.B2 = true := by kernel_rfl
def cobwebref01_Add.T4 : Bool × List (List Nat × List Nat) := (true, [([], []), ([0], [0]), ([], []), ([2], [2]), ([], []), ([4], [4]), ([3, 5], [3, 5]), ([1, 6], [1, 6]), ([7, 6], [7]), ([8, 8, 0, 1, 2, 3, 4, 5, 6, 7, 8], [8])])
def cobwebref01_Add.B4 : List Nat := [0, 1, 0, 4, 0, 16, 60, 127, 255, 511]
theorem cobwebref01_Add.tab4 : rtab .any (opsOf Try.f31 4) = cobwebref01_Add.T4 := by kernel_rfl
theorem cobwebref01_Add.bits4 : waitsOk cobwebref01_Add.T4.2 cobwebref01_Add.B4 = true := by kernel_rfl
def cobwebref01_Add.T5 : Bool × List (List Nat × List Nat) := (true, [([], []), ([0], [0]), ([], []), ([2], [2]), ([], []), ([4], [4]), ([3, 5], [3, 5]), ([1, 6], [1, 6]), ([7, 6], [7]), ([8, 8, 0, 1, 2, 3, 4, 5, 6, 7, 8], [8])])
def cobwebref01_Add.B5 : List Nat := [0, 1, 0, 4, 0, 16, 60, 127, 255, 511]
theorem cobwebref01_Add.tab5 : rtab .any (opsOf Try.f31 5) = cobwebref01_Add.T5 := by kernel_rfl
theorem cobwebref01_Add.bits5 : waitsOk cobwebref01_Add.T5.2 cobwebref01_Add.B5 = true := by kernel_rfl
set_option maxHeartbeats 8000000 in
set_option maxRecDepth 100000 in
theorem cobwebref01_Add.calls (k : Nat) (a0_0 : Bool) (A0_1 : Option Addr) (c0_1 : Nat) (l0_1 : List Int) (a1_0 : Bool) (A1_1 : Option Addr) (c1_1 : Nat) (l1_1 : List Int) (r1 : Bool) (r2 : List Int) (w : World) (hr0_1 : Kd.C (Kd.int .i64) w A0_1 l0_1.length l0_1) (hc0_1 : l0_1.length ≤ c0_1) (hr1_1 : Kd.C (Kd.int .i64) w A1_1 l1_1.length l1_1) (hc1_1 : l1_1.length ≤ c1_1) (h : cobwebref01_Add.f k a0_0 l0_1 a1_0 l1_1 = some (r1, r2)) :
    Calls Try.prog 31 #[.agg #[.bool a0_0, .slice A0_1 l0_1.length c0_1], .agg #[.bool a1_0, .slice A1_1 l1_1.length c1_1]] w fun e w' => ∃ v1_ : Value, e = .returned (.agg #[.bool r1, v1_]) ∧ Kd.V (Kd.int .i64) 3 w' w.heap.size (fun k_ => (w.heap.size ≤ k_)) v1_ r2 ∧ Below w.heap.size w w' := by
  have hu55 := Try.underlying55
  have HR0_1 := A_ hr0_1
  have HC0_1 := A_ hc0_1
  clear hr0_1 hc0_1
  have HR1_1 := A_ hr1_1
  have HC1_1 := A_ hc1_1
  clear hr1_1 hc1_1
  have HB := A_ (Below.refl w.heap.size w)
  have H : (if (a0_0 == a1_0) = true then ((cobwebref01_plus.f k l0_1 l1_1).bind fun t104 => ((cobwebref01_trim.f k a0_0 t104).bind fun bt107 => (some (bt107.1, bt107.2)))) else ((cobwebref01_size.f k l0_1 l1_1).bind fun t111 => (if t111 ≥ 0 then ((cobwebref01_minus.f k l0_1 l1_1).bind fun t112 => ((cobwebref01_trim.f k a0_0 t112).bind fun bt115 => (some (bt115.1, bt115.2)))) else ((cobwebref01_minus.f k l1_1 l0_1).bind fun t119 => ((cobwebref01_trim.f k a1_0 t119).bind fun bt122 => (some (bt122.1, bt122.2))))))) = some (r1, r2) := h
  clear h
  by_cases c3 : (a0_0 == a1_0) = true
  · rw [if_pos c3] at H
    have c3b0 : (a0_0 == a1_0) = true := c3
    (try (have c3b1 : decide (a0_0 = a1_0) = true := by simpa using c3))
    (try (have c3b2 : (a0_0 == a1_0) = true := by simpa using c3))
    clear c3
    replace H := Option.bind_eq_some_iff.mp H
    obtain ⟨t104, A40, H⟩ := H
    replace H : ((cobwebref01_trim.f k a0_0 t104).bind fun bt107 => (some (bt107.1, bt107.2))) = some (r1, r2) := H
    have A4 := A_ A40
    clear A40
    replace H := Option.bind_eq_some_iff.mp H
    obtain ⟨⟨t107, t108⟩, A50, H⟩ := H
    replace H : (some (t107, t108)) = some (r1, r2) := H
    have A5 := A_ A50
    clear A50
    simp only [Option.some.injEq, Prod.mk.injEq] at H
    obtain ⟨rfl, rfl⟩ := H
    go_enter Try.func31, Try.ntmps31
    try go_wp2_with (first | ((with_reducible refine gate_dst (N := 2) rfl ?_); refine boxeq_ 2 #[.bool a0_0, .slice A0_1 l0_1.length c0_1] 55 ?_; intro gb101 hg w6 hbox hb; have BK101 := A_ (hbox); have GW101 := ge_ HB hg; replace HB := st_ HB hb; have GE101 := GW101; clear hb hbox hg) | ((with_reducible refine gate_dst (N := 3) rfl ?_); refine boxeq_ 3 #[.bool a1_0, .slice A1_1 l1_1.length c1_1] 55 ?_; intro gb102 hg w7 hbox hb; have BK102 := A_ (hbox); have GW102 := ge_ HB hg; replace HB := st_ HB hb; have GE102 := GW102; have NB101_102 := ne_ BK101 hg; replace BK101 := bb_ BK101 hb; have NB102_101 := A_ NB101_102.out.symm; clear hb hbox hg) | ((with_reducible refine gate_dst (N := 4) rfl ?_); refine boxeq_ 4 #[.bool false, .slice none 0 0] 55 ?_; intro gb103 hg w8 hbox hb; have BK103 := A_ (hbox); have GW103 := ge_ HB hg; replace HB := st_ HB hb; have GE103 := GW103; have NB101_103 := ne_ BK101 hg; replace BK101 := bb_ BK101 hb; have NB103_101 := A_ NB101_103.out.symm; have NB102_103 := ne_ BK102 hg; replace BK102 := bb_ BK102 hb; have NB103_102 := A_ NB102_103.out.symm; clear hb hbox hg; have hnb9 := NB101_102.out; have hnc9 := NB102_101.out; have hnb10 := NB101_103.out; have hnc10 := NB103_101.out; have hcz11_0 : w8.cell? ⟨gb101, 0, none⟩ = some (.bool a0_0) := (blk_cell BK101.out 0).trans rfl; have hcz11_1 : w8.cell? ⟨gb101, 1, none⟩ = some (.slice A0_1 l0_1.length c0_1) := (blk_cell BK101.out 1).trans rfl; have hfz11_0 := blk_frozen BK101.out 0; have hfz11_1 := blk_frozen BK101.out 1; have hnb12 := NB102_103.out; have hnc12 := NB103_102.out; have hcz13_0 : w8.cell? ⟨gb102, 0, none⟩ = some (.bool a1_0) := (blk_cell BK102.out 0).trans rfl; have hcz13_1 : w8.cell? ⟨gb102, 1, none⟩ = some (.slice A1_1 l1_1.length c1_1) := (blk_cell BK102.out 1).trans rfl; have hfz13_0 := blk_frozen BK102.out 0; have hfz13_1 := blk_frozen BK102.out 1))
    replace BK101 := A_ (blk_drew BK101.out)
    replace BK102 := A_ (blk_drew BK102.out)
    replace BK103 := A_ (blk_drew BK103.out)
    replace HB := A_ (below_drew1 HB.out)
    refine start_ (n := 10) (S := fun w' => w'.cell? ⟨gb101, 0, none⟩ = some (.bool a0_0) ∧ w'.cell? ⟨gb101, 1, none⟩ = some (.slice A0_1 l0_1.length c0_1) ∧ w'.cell? ⟨gb102, 0, none⟩ = some (.bool a1_0) ∧ w'.cell? ⟨gb102, 1, none⟩ = some (.slice A1_1 l1_1.length c1_1)) (ds := []) (Array.replicate 10 false) (by kernel_rfl) rfl rfl ⟨(blk_cell BK101.out 0).trans rfl, (blk_cell BK101.out 1).trans rfl, (blk_cell BK102.out 0).trans rfl, (blk_cell BK102.out 1).trans rfl⟩ (fun hHeld => ?_); refine with_tabW cobwebref01_Add.tab2 cobwebref01_Add.bits2 (fun HT_ HW_ => ?_)
    generalize w8.drew = w14 at BK101 BK102 BK103 HB hHeld ⊢
    refine pureq_ 0 10 HT_ ?_
    refine pureq_ 2 12 HT_ ?_
    refine pureq_ 4 14 HT_ ?_
    refine takeq_ 1 11 HT_ HW_ hHeld ?_
    refine takeq_ 3 13 HT_ HW_ hHeld ?_
    refine takeq_ 5 15 HT_ HW_ hHeld ?_
    refine oneq_ 6 (some 16) HT_ (fun K hK => ?_)
    refine goesq_ Try.func46 #[.slice A0_1 l0_1.length c0_1, .slice A1_1 l1_1.length c1_1] ?_
    with_reducible refine (cobwebref01_plus.calls k _ _ l0_1 _ _ l1_1 t104 _ ?side1 ?side2 ?side3 ?side4 A4.out).mono ?_
    (case side1 => exact c_ (Kd.C_below HR0_1.out HB.out))
    (case side2 => exact HC0_1.out)
    (case side3 => exact c_ (Kd.C_below HR1_1.out HB.out))
    (case side4 => exact HC1_1.out)
    rintro e w15 ⟨v105, rfl, ho0, hb⟩
    refine ⟨_, rfl, ?_⟩
    have HO106 := A_ (Kd.R_lower (Kd.R_newM (M := fun k_ => (w.heap.size ≤ k_)) ho0 (below_size (l_ HB)) (fun k_ h_ => h_)) (below_size (l_ HB)))
    replace BK101 := bb_ BK101 hb
    replace BK102 := bb_ BK102 hb
    replace BK103 := bb_ BK103 hb
    replace HB := st_ HB hb
    try clear hb ho0
    obtain ⟨Ao16, co16, eo16⟩ := Kd.R_slice HO106.out
    (first | subst eo16 | (injection eo16 with f1_ f2_ f3_; have f4_ := f1_.symm; have f5_ := f3_.symm; clear f1_ f2_ f3_; subst f4_; subst f5_))
    refine hK.out _ _ ⟨(blk_cell BK101.out 0).trans rfl, (blk_cell BK101.out 1).trans rfl, (blk_cell BK102.out 0).trans rfl, (blk_cell BK102.out 1).trans rfl⟩ (fun hHeld => ?_)
    clear hK K
    refine normq_ 16 ?_
    refine pureq_ 7 17 HT_ ?_
    refine oneq_ 8 (some 18) HT_ (fun K hK => ?_)
    refine goesq_ Try.func45 #[.agg #[.bool a0_0, .slice Ao16 t104.length co16]] ?_
    with_reducible refine (cobwebref01_trim.calls k a0_0 (fun k_ => some k_ = (.slice Ao16 t104.length co16 : Value).ownBlock) _ _ t104 t107 t108 _ ?side1 A5.out).mono ?_
    (case side1 => exact Kd.R_V (Kd.R_tight rfl (Kd.R_types (Kd.R_types (Kd.R_types (HO106.out) BK101.out (by decide)) BK102.out (by decide)) BK103.out (by decide))))
    rintro e w17 ⟨v109, rfl, ho0, hb⟩
    refine ⟨_, rfl, ?_⟩
    have HO110 := A_ (Kd.V_lower (Kd.V_mono (ok' := fun k_ => (w.heap.size ≤ k_) ∧ k_ ≠ gb101 ∧ k_ ≠ gb102 ∧ k_ ≠ gb103) ho0 (fun k_ hk_ => ⟨Or.elim hk_ (fun hs_ => ((Kd.R_types (Kd.R_types (Kd.R_types (HO106.out) BK101.out (by decide)) BK102.out (by decide)) BK103.out (by decide)).1 k_ hs_.symm).1.1.1.1) (fun hn_ => (Nat.le_trans (below_size (l_ HB)) hn_)), Or.elim hk_ (fun hs_ => ((Kd.R_types (Kd.R_types (Kd.R_types (HO106.out) BK101.out (by decide)) BK102.out (by decide)) BK103.out (by decide)).1 k_ hs_.symm).1.1.2) (fun hn_ => (Kd.freshB (b_ BK101) k_ hn_)), Or.elim hk_ (fun hs_ => ((Kd.R_types (Kd.R_types (Kd.R_types (HO106.out) BK101.out (by decide)) BK102.out (by decide)) BK103.out (by decide)).1 k_ hs_.symm).1.2) (fun hn_ => (Kd.freshB (b_ BK102) k_ hn_)), Or.elim hk_ (fun hs_ => ((Kd.R_types (Kd.R_types (Kd.R_types (HO106.out) BK101.out (by decide)) BK102.out (by decide)) BK103.out (by decide)).1 k_ hs_.symm).2) (fun hn_ => (Kd.freshB (b_ BK103) k_ hn_))⟩)) (below_size (l_ HB)))
    replace HO106 := A_ (Kd.R_below (r_ HO106.out) hb)
    replace BK101 := bb_ BK101 hb
    replace BK102 := bb_ BK102 hb
    replace BK103 := bb_ BK103 hb
    replace HB := st_ HB hb
    try clear hb ho0
    obtain ⟨Ao19, co19, eo19⟩ := Kd.V_slice HO110.out
    (first | subst eo19 | (injection eo19 with f1_ f2_ f3_; have f4_ := f1_.symm; have f5_ := f3_.symm; clear f1_ f2_ f3_; subst f4_; subst f5_))
    refine hK.out _ _ ⟨(blk_cell BK101.out 0).trans rfl, (blk_cell BK101.out 1).trans rfl, (blk_cell BK102.out 0).trans rfl, (blk_cell BK102.out 1).trans rfl⟩ (fun hHeld => ?_)
    clear hK K
    refine normq_ 18 ?_
    refine oneq_ 9 none HT_ (fun K hK => ?_)
    have hs18 : w17.cell? ⟨gb103, 0, none⟩ = some (.bool false) := (blk_cell BK103.out 0).trans rfl
    have hfs18 := blk_frozen BK103.out 0
    have hns18_0 := NB101_103.out
    have hns18_1 := NB102_103.out
    have hms18_0 := NB103_101.out
    have hms18_1 := NB103_102.out
    have hs20 : w17.cell? ⟨gb103, 1, none⟩ = some (.slice none 0 0) := (blk_cell BK103.out 1).trans rfl
    have hfs20 := blk_frozen BK103.out 1
    have hns20_0 := NB101_103.out
    have hns20_1 := NB102_103.out
    have hms20_0 := NB103_101.out
    have hms20_1 := NB103_102.out
    refine skip_ (w1 := ?_) (by rfl) rfl ?_ ?_
    rotate_left
    · go_simp
      rfl
    refine hK.out _ _ ⟨((cell_far (p := ⟨gb103, _, none⟩) NB101_103.out _).trans (((cell_far (p := ⟨gb103, _, none⟩) NB101_103.out _).trans (hHeld.1)))), ((cell_far (p := ⟨gb103, _, none⟩) NB101_103.out _).trans (((cell_far (p := ⟨gb103, _, none⟩) NB101_103.out _).trans (hHeld.2.1)))), ((cell_far (p := ⟨gb103, _, none⟩) NB102_103.out _).trans (((cell_far (p := ⟨gb103, _, none⟩) NB102_103.out _).trans (hHeld.2.2.1)))), ((cell_far (p := ⟨gb103, _, none⟩) NB102_103.out _).trans (((cell_far (p := ⟨gb103, _, none⟩) NB102_103.out _).trans (hHeld.2.2.2))))⟩ (fun hHeld => ?_)
    clear hK K
    refine done_ (done_of HT_.out (by kernel_rfl)) ?_
    try go_wp2
    refine bodyPost_ret (results_cell_row rfl _ _ gb103 55 #[.bool t107, .slice Ao19 t108.length co19] (0, 0) _ rfl (by (with_reducible repeat (first | refine blk_drewN ?_ _ | refine blk_drew ?_ | refine blk_alloc ?_ _)); refine blk_put (cs := #[.bool t107, .slice none 0 0]) ?_ 1 _ rfl; (with_reducible repeat (first | refine blk_drewN ?_ _ | refine blk_drew ?_ | refine blk_alloc ?_ _)); refine blk_put (cs := #[.bool false, .slice none 0 0]) ?_ 0 _ rfl; (with_reducible repeat (first | refine blk_drewN ?_ _ | refine blk_drew ?_ | refine blk_alloc ?_ _)); exact BK103.out) Try.underlying55 rfl (by kernel_rfl)) rfl ?_
    exact ⟨_, by first | rfl | (simp [errW_none, errW_some] <;> rfl) | (simp [*, errW_none, errW_some] <;> rfl), by (with_reducible repeat (first | apply Kd.V_alloc | apply Kd.V_drewN | apply Kd.V_drew)); exact Kd.V_mono (Kd.V_far (p := ⟨gb103, 1, none⟩) (Kd.V_far (p := ⟨gb103, 0, none⟩) (Kd.V_mono HO110.out (fun k_ hk => (⟨hk, hk.2.2.2⟩ : _ ∧ k_ ≠ gb103))) (fun _ hk => hk.2) (.bool t107)) (fun _ hk => hk.2) (.slice Ao19 t108.length co19)) (fun _ hk => hk.1.1), l_ HB⟩
  · rw [if_neg c3] at H
    have c3b0 : (a0_0 == a1_0) = false := by simpa using c3
    (try (have c3b1 : decide (a0_0 = a1_0) = false := by simpa using c3))
    (try (have c3b2 : (a0_0 == a1_0) = false := by simpa using c3))
    (try (have c3b3 : ¬ (a0_0 = a1_0) := by simpa using c3))
    clear c3
    replace H := Option.bind_eq_some_iff.mp H
    obtain ⟨t111, A210, H⟩ := H
    replace H : (if t111 ≥ 0 then ((cobwebref01_minus.f k l0_1 l1_1).bind fun t112 => ((cobwebref01_trim.f k a0_0 t112).bind fun bt115 => (some (bt115.1, bt115.2)))) else ((cobwebref01_minus.f k l1_1 l0_1).bind fun t119 => ((cobwebref01_trim.f k a1_0 t119).bind fun bt122 => (some (bt122.1, bt122.2))))) = some (r1, r2) := H
    have A21 := A_ A210
    clear A210
    by_cases c22 : t111 ≥ 0
    · rw [if_pos c22] at H
      have c22b0 : decide (0 ≤ t111) = true := decide_eq_true c22
      clear c22
      replace H := Option.bind_eq_some_iff.mp H
      obtain ⟨t112, A230, H⟩ := H
      replace H : ((cobwebref01_trim.f k a0_0 t112).bind fun bt115 => (some (bt115.1, bt115.2))) = some (r1, r2) := H
      have A23 := A_ A230
      clear A230
      replace H := Option.bind_eq_some_iff.mp H
      obtain ⟨⟨t115, t116⟩, A240, H⟩ := H
      replace H : (some (t115, t116)) = some (r1, r2) := H
      have A24 := A_ A240
      clear A240
      simp only [Option.some.injEq, Prod.mk.injEq] at H
      obtain ⟨rfl, rfl⟩ := H
      go_enter Try.func31, Try.ntmps31
      try go_wp2_with (first | ((with_reducible refine gate_dst (N := 2) rfl ?_); refine boxeq_ 2 #[.bool a0_0, .slice A0_1 l0_1.length c0_1] 55 ?_; intro gb101 hg w25 hbox hb; have BK101 := A_ (hbox); have GW101 := ge_ HB hg; replace HB := st_ HB hb; have GE101 := GW101; clear hb hbox hg) | ((with_reducible refine gate_dst (N := 3) rfl ?_); refine boxeq_ 3 #[.bool a1_0, .slice A1_1 l1_1.length c1_1] 55 ?_; intro gb102 hg w26 hbox hb; have BK102 := A_ (hbox); have GW102 := ge_ HB hg; replace HB := st_ HB hb; have GE102 := GW102; have NB101_102 := ne_ BK101 hg; replace BK101 := bb_ BK101 hb; have NB102_101 := A_ NB101_102.out.symm; clear hb hbox hg) | ((with_reducible refine gate_dst (N := 4) rfl ?_); refine boxeq_ 4 #[.bool false, .slice none 0 0] 55 ?_; intro gb103 hg w27 hbox hb; have BK103 := A_ (hbox); have GW103 := ge_ HB hg; replace HB := st_ HB hb; have GE103 := GW103; have NB101_103 := ne_ BK101 hg; replace BK101 := bb_ BK101 hb; have NB103_101 := A_ NB101_103.out.symm; have NB102_103 := ne_ BK102 hg; replace BK102 := bb_ BK102 hb; have NB103_102 := A_ NB102_103.out.symm; clear hb hbox hg; have hnb28 := NB101_102.out; have hnc28 := NB102_101.out; have hnb29 := NB101_103.out; have hnc29 := NB103_101.out; have hcz30_0 : w27.cell? ⟨gb101, 0, none⟩ = some (.bool a0_0) := (blk_cell BK101.out 0).trans rfl; have hcz30_1 : w27.cell? ⟨gb101, 1, none⟩ = some (.slice A0_1 l0_1.length c0_1) := (blk_cell BK101.out 1).trans rfl; have hfz30_0 := blk_frozen BK101.out 0; have hfz30_1 := blk_frozen BK101.out 1; have hnb31 := NB102_103.out; have hnc31 := NB103_102.out; have hcz32_0 : w27.cell? ⟨gb102, 0, none⟩ = some (.bool a1_0) := (blk_cell BK102.out 0).trans rfl; have hcz32_1 : w27.cell? ⟨gb102, 1, none⟩ = some (.slice A1_1 l1_1.length c1_1) := (blk_cell BK102.out 1).trans rfl; have hfz32_0 := blk_frozen BK102.out 0; have hfz32_1 := blk_frozen BK102.out 1) | ((with_reducible refine gate_callee (f := 47) rfl ?_); refine goesLq_ 23 rfl Try.func47 #[.slice A0_1 l0_1.length c0_1, .slice A1_1 l1_1.length c1_1] ?_; (with_reducible refine (cobwebref01_size.calls k _ _ l0_1 _ _ l1_1 t111 _ ?side1 ?side2 ?side3 ?side4 A21.out).mono ?_); (case side1 => exact c_ (Kd.C_below HR0_1.out HB.out)); (case side2 => exact HC0_1.out); (case side3 => exact c_ (Kd.C_below HR1_1.out HB.out)); (case side4 => exact HC1_1.out); rintro e w33 ⟨rfl, hb⟩; refine ⟨_, rfl, ?_⟩; replace BK101 := bb_ BK101 hb; replace BK102 := bb_ BK102 hb; replace BK103 := bb_ BK103 hb; replace HB := st_ HB hb; (try clear hb); (try clear hb2); (try clear hk); (try clear hi)))
      replace BK101 := A_ (blk_drew BK101.out)
      replace BK102 := A_ (blk_drew BK102.out)
      replace BK103 := A_ (blk_drew BK103.out)
      replace HB := A_ (below_drew1 HB.out)
      refine start_ (n := 10) (S := fun w' => w'.cell? ⟨gb101, 0, none⟩ = some (.bool a0_0) ∧ w'.cell? ⟨gb101, 1, none⟩ = some (.slice A0_1 l0_1.length c0_1) ∧ w'.cell? ⟨gb102, 0, none⟩ = some (.bool a1_0) ∧ w'.cell? ⟨gb102, 1, none⟩ = some (.slice A1_1 l1_1.length c1_1)) (ds := []) (Array.replicate 10 false) (by kernel_rfl) rfl rfl ⟨(blk_cell BK101.out 0).trans rfl, (blk_cell BK101.out 1).trans rfl, (blk_cell BK102.out 0).trans rfl, (blk_cell BK102.out 1).trans rfl⟩ (fun hHeld => ?_); refine with_tabW cobwebref01_Add.tab4 cobwebref01_Add.bits4 (fun HT_ HW_ => ?_)
      generalize w33.drew = w34 at BK101 BK102 BK103 HB hHeld ⊢
      refine pureq_ 0 25 HT_ ?_
      refine pureq_ 2 27 HT_ ?_
      refine pureq_ 4 29 HT_ ?_
      refine takeq_ 1 26 HT_ HW_ hHeld ?_
      refine takeq_ 3 28 HT_ HW_ hHeld ?_
      refine takeq_ 5 30 HT_ HW_ hHeld ?_
      refine oneq_ 6 (some 31) HT_ (fun K hK => ?_)
      refine goesq_ Try.func48 #[.slice A0_1 l0_1.length c0_1, .slice A1_1 l1_1.length c1_1] ?_
      with_reducible refine (cobwebref01_minus.calls k _ _ l0_1 _ _ l1_1 t112 _ ?side1 ?side2 ?side3 ?side4 A23.out).mono ?_
      (case side1 => exact c_ (Kd.C_below HR0_1.out HB.out))
      (case side2 => exact HC0_1.out)
      (case side3 => exact c_ (Kd.C_below HR1_1.out HB.out))
      (case side4 => exact HC1_1.out)
      rintro e w35 ⟨v113, rfl, ho0, hb⟩
      refine ⟨_, rfl, ?_⟩
      have HO114 := A_ (Kd.R_lower (Kd.R_newM (M := fun k_ => (w.heap.size ≤ k_)) ho0 (below_size (l_ HB)) (fun k_ h_ => h_)) (below_size (l_ HB)))
      replace BK101 := bb_ BK101 hb
      replace BK102 := bb_ BK102 hb
      replace BK103 := bb_ BK103 hb
      replace HB := st_ HB hb
      try clear hb ho0
      obtain ⟨Ao36, co36, eo36⟩ := Kd.R_slice HO114.out
      (first | subst eo36 | (injection eo36 with f1_ f2_ f3_; have f4_ := f1_.symm; have f5_ := f3_.symm; clear f1_ f2_ f3_; subst f4_; subst f5_))
      refine hK.out _ _ ⟨(blk_cell BK101.out 0).trans rfl, (blk_cell BK101.out 1).trans rfl, (blk_cell BK102.out 0).trans rfl, (blk_cell BK102.out 1).trans rfl⟩ (fun hHeld => ?_)
      clear hK K
      refine normq_ 31 ?_
      refine pureq_ 7 32 HT_ ?_
      refine oneq_ 8 (some 33) HT_ (fun K hK => ?_)
      refine goesq_ Try.func45 #[.agg #[.bool a0_0, .slice Ao36 t112.length co36]] ?_
      with_reducible refine (cobwebref01_trim.calls k a0_0 (fun k_ => some k_ = (.slice Ao36 t112.length co36 : Value).ownBlock) _ _ t112 t115 t116 _ ?side1 A24.out).mono ?_
      (case side1 => exact Kd.R_V (Kd.R_tight rfl (Kd.R_types (Kd.R_types (Kd.R_types (HO114.out) BK101.out (by decide)) BK102.out (by decide)) BK103.out (by decide))))
      rintro e w37 ⟨v117, rfl, ho0, hb⟩
      refine ⟨_, rfl, ?_⟩
      have HO118 := A_ (Kd.V_lower (Kd.V_mono (ok' := fun k_ => (w.heap.size ≤ k_) ∧ k_ ≠ gb101 ∧ k_ ≠ gb102 ∧ k_ ≠ gb103) ho0 (fun k_ hk_ => ⟨Or.elim hk_ (fun hs_ => ((Kd.R_types (Kd.R_types (Kd.R_types (HO114.out) BK101.out (by decide)) BK102.out (by decide)) BK103.out (by decide)).1 k_ hs_.symm).1.1.1.1) (fun hn_ => (Nat.le_trans (below_size (l_ HB)) hn_)), Or.elim hk_ (fun hs_ => ((Kd.R_types (Kd.R_types (Kd.R_types (HO114.out) BK101.out (by decide)) BK102.out (by decide)) BK103.out (by decide)).1 k_ hs_.symm).1.1.2) (fun hn_ => (Kd.freshB (b_ BK101) k_ hn_)), Or.elim hk_ (fun hs_ => ((Kd.R_types (Kd.R_types (Kd.R_types (HO114.out) BK101.out (by decide)) BK102.out (by decide)) BK103.out (by decide)).1 k_ hs_.symm).1.2) (fun hn_ => (Kd.freshB (b_ BK102) k_ hn_)), Or.elim hk_ (fun hs_ => ((Kd.R_types (Kd.R_types (Kd.R_types (HO114.out) BK101.out (by decide)) BK102.out (by decide)) BK103.out (by decide)).1 k_ hs_.symm).2) (fun hn_ => (Kd.freshB (b_ BK103) k_ hn_))⟩)) (below_size (l_ HB)))
      replace HO114 := A_ (Kd.R_below (r_ HO114.out) hb)
      replace BK101 := bb_ BK101 hb
      replace BK102 := bb_ BK102 hb
      replace BK103 := bb_ BK103 hb
      replace HB := st_ HB hb
      try clear hb ho0
      obtain ⟨Ao39, co39, eo39⟩ := Kd.V_slice HO118.out
      (first | subst eo39 | (injection eo39 with f1_ f2_ f3_; have f4_ := f1_.symm; have f5_ := f3_.symm; clear f1_ f2_ f3_; subst f4_; subst f5_))
      refine hK.out _ _ ⟨(blk_cell BK101.out 0).trans rfl, (blk_cell BK101.out 1).trans rfl, (blk_cell BK102.out 0).trans rfl, (blk_cell BK102.out 1).trans rfl⟩ (fun hHeld => ?_)
      clear hK K
      refine normq_ 33 ?_
      refine oneq_ 9 none HT_ (fun K hK => ?_)
      have hs38 : w37.cell? ⟨gb103, 0, none⟩ = some (.bool false) := (blk_cell BK103.out 0).trans rfl
      have hfs38 := blk_frozen BK103.out 0
      have hns38_0 := NB101_103.out
      have hns38_1 := NB102_103.out
      have hms38_0 := NB103_101.out
      have hms38_1 := NB103_102.out
      have hs40 : w37.cell? ⟨gb103, 1, none⟩ = some (.slice none 0 0) := (blk_cell BK103.out 1).trans rfl
      have hfs40 := blk_frozen BK103.out 1
      have hns40_0 := NB101_103.out
      have hns40_1 := NB102_103.out
      have hms40_0 := NB103_101.out
      have hms40_1 := NB103_102.out
      refine skip_ (w1 := ?_) (by rfl) rfl ?_ ?_
      rotate_left
      · go_simp
        rfl
      refine hK.out _ _ ⟨((cell_far (p := ⟨gb103, _, none⟩) NB101_103.out _).trans (((cell_far (p := ⟨gb103, _, none⟩) NB101_103.out _).trans (hHeld.1)))), ((cell_far (p := ⟨gb103, _, none⟩) NB101_103.out _).trans (((cell_far (p := ⟨gb103, _, none⟩) NB101_103.out _).trans (hHeld.2.1)))), ((cell_far (p := ⟨gb103, _, none⟩) NB102_103.out _).trans (((cell_far (p := ⟨gb103, _, none⟩) NB102_103.out _).trans (hHeld.2.2.1)))), ((cell_far (p := ⟨gb103, _, none⟩) NB102_103.out _).trans (((cell_far (p := ⟨gb103, _, none⟩) NB102_103.out _).trans (hHeld.2.2.2))))⟩ (fun hHeld => ?_)
      clear hK K
      refine done_ (done_of HT_.out (by kernel_rfl)) ?_
      try go_wp2
      refine bodyPost_ret (results_cell_row rfl _ _ gb103 55 #[.bool t115, .slice Ao39 t116.length co39] (0, 0) _ rfl (by (with_reducible repeat (first | refine blk_drewN ?_ _ | refine blk_drew ?_ | refine blk_alloc ?_ _)); refine blk_put (cs := #[.bool t115, .slice none 0 0]) ?_ 1 _ rfl; (with_reducible repeat (first | refine blk_drewN ?_ _ | refine blk_drew ?_ | refine blk_alloc ?_ _)); refine blk_put (cs := #[.bool false, .slice none 0 0]) ?_ 0 _ rfl; (with_reducible repeat (first | refine blk_drewN ?_ _ | refine blk_drew ?_ | refine blk_alloc ?_ _)); exact BK103.out) Try.underlying55 rfl (by kernel_rfl)) rfl ?_
      exact ⟨_, by first | rfl | (simp [errW_none, errW_some] <;> rfl) | (simp [*, errW_none, errW_some] <;> rfl), by (with_reducible repeat (first | apply Kd.V_alloc | apply Kd.V_drewN | apply Kd.V_drew)); exact Kd.V_mono (Kd.V_far (p := ⟨gb103, 1, none⟩) (Kd.V_far (p := ⟨gb103, 0, none⟩) (Kd.V_mono HO118.out (fun k_ hk => (⟨hk, hk.2.2.2⟩ : _ ∧ k_ ≠ gb103))) (fun _ hk => hk.2) (.bool t115)) (fun _ hk => hk.2) (.slice Ao39 t116.length co39)) (fun _ hk => hk.1.1), l_ HB⟩
    · rw [if_neg c22] at H
      have c22b0 : decide (0 ≤ t111) = false := decide_eq_false c22
      clear c22
      replace H := Option.bind_eq_some_iff.mp H
      obtain ⟨t119, A410, H⟩ := H
      replace H : ((cobwebref01_trim.f k a1_0 t119).bind fun bt122 => (some (bt122.1, bt122.2))) = some (r1, r2) := H
      have A41 := A_ A410
      clear A410
      replace H := Option.bind_eq_some_iff.mp H
      obtain ⟨⟨t122, t123⟩, A420, H⟩ := H
      replace H : (some (t122, t123)) = some (r1, r2) := H
      have A42 := A_ A420
      clear A420
      simp only [Option.some.injEq, Prod.mk.injEq] at H
      obtain ⟨rfl, rfl⟩ := H
      go_enter Try.func31, Try.ntmps31
      try go_wp2_with (first | ((with_reducible refine gate_dst (N := 2) rfl ?_); refine boxeq_ 2 #[.bool a0_0, .slice A0_1 l0_1.length c0_1] 55 ?_; intro gb101 hg w43 hbox hb; have BK101 := A_ (hbox); have GW101 := ge_ HB hg; replace HB := st_ HB hb; have GE101 := GW101; clear hb hbox hg) | ((with_reducible refine gate_dst (N := 3) rfl ?_); refine boxeq_ 3 #[.bool a1_0, .slice A1_1 l1_1.length c1_1] 55 ?_; intro gb102 hg w44 hbox hb; have BK102 := A_ (hbox); have GW102 := ge_ HB hg; replace HB := st_ HB hb; have GE102 := GW102; have NB101_102 := ne_ BK101 hg; replace BK101 := bb_ BK101 hb; have NB102_101 := A_ NB101_102.out.symm; clear hb hbox hg) | ((with_reducible refine gate_dst (N := 4) rfl ?_); refine boxeq_ 4 #[.bool false, .slice none 0 0] 55 ?_; intro gb103 hg w45 hbox hb; have BK103 := A_ (hbox); have GW103 := ge_ HB hg; replace HB := st_ HB hb; have GE103 := GW103; have NB101_103 := ne_ BK101 hg; replace BK101 := bb_ BK101 hb; have NB103_101 := A_ NB101_103.out.symm; have NB102_103 := ne_ BK102 hg; replace BK102 := bb_ BK102 hb; have NB103_102 := A_ NB102_103.out.symm; clear hb hbox hg; have hnb46 := NB101_102.out; have hnc46 := NB102_101.out; have hnb47 := NB101_103.out; have hnc47 := NB103_101.out; have hcz48_0 : w45.cell? ⟨gb101, 0, none⟩ = some (.bool a0_0) := (blk_cell BK101.out 0).trans rfl; have hcz48_1 : w45.cell? ⟨gb101, 1, none⟩ = some (.slice A0_1 l0_1.length c0_1) := (blk_cell BK101.out 1).trans rfl; have hfz48_0 := blk_frozen BK101.out 0; have hfz48_1 := blk_frozen BK101.out 1; have hnb49 := NB102_103.out; have hnc49 := NB103_102.out; have hcz50_0 : w45.cell? ⟨gb102, 0, none⟩ = some (.bool a1_0) := (blk_cell BK102.out 0).trans rfl; have hcz50_1 : w45.cell? ⟨gb102, 1, none⟩ = some (.slice A1_1 l1_1.length c1_1) := (blk_cell BK102.out 1).trans rfl; have hfz50_0 := blk_frozen BK102.out 0; have hfz50_1 := blk_frozen BK102.out 1) | ((with_reducible refine gate_callee (f := 47) rfl ?_); refine goesLq_ 23 rfl Try.func47 #[.slice A0_1 l0_1.length c0_1, .slice A1_1 l1_1.length c1_1] ?_; (with_reducible refine (cobwebref01_size.calls k _ _ l0_1 _ _ l1_1 t111 _ ?side1 ?side2 ?side3 ?side4 A21.out).mono ?_); (case side1 => exact c_ (Kd.C_below HR0_1.out HB.out)); (case side2 => exact HC0_1.out); (case side3 => exact c_ (Kd.C_below HR1_1.out HB.out)); (case side4 => exact HC1_1.out); rintro e w51 ⟨rfl, hb⟩; refine ⟨_, rfl, ?_⟩; replace BK101 := bb_ BK101 hb; replace BK102 := bb_ BK102 hb; replace BK103 := bb_ BK103 hb; replace HB := st_ HB hb; (try clear hb); (try clear hb2); (try clear hk); (try clear hi)))
      replace BK101 := A_ (blk_drew BK101.out)
      replace BK102 := A_ (blk_drew BK102.out)
      replace BK103 := A_ (blk_drew BK103.out)
      replace HB := A_ (below_drew1 HB.out)
      refine start_ (n := 10) (S := fun w' => w'.cell? ⟨gb102, 0, none⟩ = some (.bool a1_0) ∧ w'.cell? ⟨gb102, 1, none⟩ = some (.slice A1_1 l1_1.length c1_1) ∧ w'.cell? ⟨gb101, 0, none⟩ = some (.bool a0_0) ∧ w'.cell? ⟨gb101, 1, none⟩ = some (.slice A0_1 l0_1.length c0_1)) (ds := []) (Array.replicate 10 false) (by kernel_rfl) rfl rfl ⟨(blk_cell BK102.out 0).trans rfl, (blk_cell BK102.out 1).trans rfl, (blk_cell BK101.out 0).trans rfl, (blk_cell BK101.out 1).trans rfl⟩ (fun hHeld => ?_); refine with_tabW cobwebref01_Add.tab5 cobwebref01_Add.bits5 (fun HT_ HW_ => ?_)
      generalize w51.drew = w52 at BK101 BK102 BK103 HB hHeld ⊢
      refine pureq_ 0 34 HT_ ?_
      refine pureq_ 2 36 HT_ ?_
      refine pureq_ 4 38 HT_ ?_
      refine takeq_ 1 35 HT_ HW_ hHeld ?_
      refine takeq_ 3 37 HT_ HW_ hHeld ?_
      refine takeq_ 5 39 HT_ HW_ hHeld ?_
      refine oneq_ 6 (some 40) HT_ (fun K hK => ?_)
      refine goesq_ Try.func48 #[.slice A1_1 l1_1.length c1_1, .slice A0_1 l0_1.length c0_1] ?_
      with_reducible refine (cobwebref01_minus.calls k _ _ l1_1 _ _ l0_1 t119 _ ?side1 ?side2 ?side3 ?side4 A41.out).mono ?_
      (case side1 => exact c_ (Kd.C_below HR1_1.out HB.out))
      (case side2 => exact HC1_1.out)
      (case side3 => exact c_ (Kd.C_below HR0_1.out HB.out))
      (case side4 => exact HC0_1.out)
      rintro e w53 ⟨v120, rfl, ho0, hb⟩
      refine ⟨_, rfl, ?_⟩
      have HO121 := A_ (Kd.R_lower (Kd.R_newM (M := fun k_ => (w.heap.size ≤ k_)) ho0 (below_size (l_ HB)) (fun k_ h_ => h_)) (below_size (l_ HB)))
      replace BK101 := bb_ BK101 hb
      replace BK102 := bb_ BK102 hb
      replace BK103 := bb_ BK103 hb
      replace HB := st_ HB hb
      try clear hb ho0
      obtain ⟨Ao54, co54, eo54⟩ := Kd.R_slice HO121.out
      (first | subst eo54 | (injection eo54 with f1_ f2_ f3_; have f4_ := f1_.symm; have f5_ := f3_.symm; clear f1_ f2_ f3_; subst f4_; subst f5_))
      refine hK.out _ _ ⟨(blk_cell BK102.out 0).trans rfl, (blk_cell BK102.out 1).trans rfl, (blk_cell BK101.out 0).trans rfl, (blk_cell BK101.out 1).trans rfl⟩ (fun hHeld => ?_)
      clear hK K
      refine normq_ 40 ?_
      refine pureq_ 7 41 HT_ ?_
      refine oneq_ 8 (some 42) HT_ (fun K hK => ?_)
      refine goesq_ Try.func45 #[.agg #[.bool a1_0, .slice Ao54 t119.length co54]] ?_
      with_reducible refine (cobwebref01_trim.calls k a1_0 (fun k_ => some k_ = (.slice Ao54 t119.length co54 : Value).ownBlock) _ _ t119 t122 t123 _ ?side1 A42.out).mono ?_
      (case side1 => exact Kd.R_V (Kd.R_tight rfl (Kd.R_types (Kd.R_types (Kd.R_types (HO121.out) BK101.out (by decide)) BK102.out (by decide)) BK103.out (by decide))))
      rintro e w55 ⟨v124, rfl, ho0, hb⟩
      refine ⟨_, rfl, ?_⟩
      have HO125 := A_ (Kd.V_lower (Kd.V_mono (ok' := fun k_ => (w.heap.size ≤ k_) ∧ k_ ≠ gb101 ∧ k_ ≠ gb102 ∧ k_ ≠ gb103) ho0 (fun k_ hk_ => ⟨Or.elim hk_ (fun hs_ => ((Kd.R_types (Kd.R_types (Kd.R_types (HO121.out) BK101.out (by decide)) BK102.out (by decide)) BK103.out (by decide)).1 k_ hs_.symm).1.1.1.1) (fun hn_ => (Nat.le_trans (below_size (l_ HB)) hn_)), Or.elim hk_ (fun hs_ => ((Kd.R_types (Kd.R_types (Kd.R_types (HO121.out) BK101.out (by decide)) BK102.out (by decide)) BK103.out (by decide)).1 k_ hs_.symm).1.1.2) (fun hn_ => (Kd.freshB (b_ BK101) k_ hn_)), Or.elim hk_ (fun hs_ => ((Kd.R_types (Kd.R_types (Kd.R_types (HO121.out) BK101.out (by decide)) BK102.out (by decide)) BK103.out (by decide)).1 k_ hs_.symm).1.2) (fun hn_ => (Kd.freshB (b_ BK102) k_ hn_)), Or.elim hk_ (fun hs_ => ((Kd.R_types (Kd.R_types (Kd.R_types (HO121.out) BK101.out (by decide)) BK102.out (by decide)) BK103.out (by decide)).1 k_ hs_.symm).2) (fun hn_ => (Kd.freshB (b_ BK103) k_ hn_))⟩)) (below_size (l_ HB)))
      replace HO121 := A_ (Kd.R_below (r_ HO121.out) hb)
      replace BK101 := bb_ BK101 hb
      replace BK102 := bb_ BK102 hb
      replace BK103 := bb_ BK103 hb
      replace HB := st_ HB hb
      try clear hb ho0
      obtain ⟨Ao57, co57, eo57⟩ := Kd.V_slice HO125.out
      (first | subst eo57 | (injection eo57 with f1_ f2_ f3_; have f4_ := f1_.symm; have f5_ := f3_.symm; clear f1_ f2_ f3_; subst f4_; subst f5_))
      refine hK.out _ _ ⟨(blk_cell BK102.out 0).trans rfl, (blk_cell BK102.out 1).trans rfl, (blk_cell BK101.out 0).trans rfl, (blk_cell BK101.out 1).trans rfl⟩ (fun hHeld => ?_)
      clear hK K
      refine normq_ 42 ?_
      refine oneq_ 9 none HT_ (fun K hK => ?_)
      have hs56 : w55.cell? ⟨gb103, 0, none⟩ = some (.bool false) := (blk_cell BK103.out 0).trans rfl
      have hfs56 := blk_frozen BK103.out 0
      have hns56_0 := NB101_103.out
      have hns56_1 := NB102_103.out
      have hms56_0 := NB103_101.out
      have hms56_1 := NB103_102.out
      have hs58 : w55.cell? ⟨gb103, 1, none⟩ = some (.slice none 0 0) := (blk_cell BK103.out 1).trans rfl
      have hfs58 := blk_frozen BK103.out 1
      have hns58_0 := NB101_103.out
      have hns58_1 := NB102_103.out
      have hms58_0 := NB103_101.out
      have hms58_1 := NB103_102.out
      refine skip_ (w1 := ?_) (by rfl) rfl ?_ ?_
      rotate_left
      · go_simp
        rfl
      refine hK.out _ _ ⟨((cell_far (p := ⟨gb103, _, none⟩) NB102_103.out _).trans (((cell_far (p := ⟨gb103, _, none⟩) NB102_103.out _).trans (hHeld.1)))), ((cell_far (p := ⟨gb103, _, none⟩) NB102_103.out _).trans (((cell_far (p := ⟨gb103, _, none⟩) NB102_103.out _).trans (hHeld.2.1)))), ((cell_far (p := ⟨gb103, _, none⟩) NB101_103.out _).trans (((cell_far (p := ⟨gb103, _, none⟩) NB101_103.out _).trans (hHeld.2.2.1)))), ((cell_far (p := ⟨gb103, _, none⟩) NB101_103.out _).trans (((cell_far (p := ⟨gb103, _, none⟩) NB101_103.out _).trans (hHeld.2.2.2))))⟩ (fun hHeld => ?_)
      clear hK K
      refine done_ (done_of HT_.out (by kernel_rfl)) ?_
      try go_wp2
      refine bodyPost_ret (results_cell_row rfl _ _ gb103 55 #[.bool t122, .slice Ao57 t123.length co57] (0, 0) _ rfl (by (with_reducible repeat (first | refine blk_drewN ?_ _ | refine blk_drew ?_ | refine blk_alloc ?_ _)); refine blk_put (cs := #[.bool t122, .slice none 0 0]) ?_ 1 _ rfl; (with_reducible repeat (first | refine blk_drewN ?_ _ | refine blk_drew ?_ | refine blk_alloc ?_ _)); refine blk_put (cs := #[.bool false, .slice none 0 0]) ?_ 0 _ rfl; (with_reducible repeat (first | refine blk_drewN ?_ _ | refine blk_drew ?_ | refine blk_alloc ?_ _)); exact BK103.out) Try.underlying55 rfl (by kernel_rfl)) rfl ?_
      exact ⟨_, by first | rfl | (simp [errW_none, errW_some] <;> rfl) | (simp [*, errW_none, errW_some] <;> rfl), by (with_reducible repeat (first | apply Kd.V_alloc | apply Kd.V_drewN | apply Kd.V_drew)); exact Kd.V_mono (Kd.V_far (p := ⟨gb103, 1, none⟩) (Kd.V_far (p := ⟨gb103, 0, none⟩) (Kd.V_mono HO125.out (fun k_ hk => (⟨hk, hk.2.2.2⟩ : _ ∧ k_ ≠ gb103))) (fun _ hk => hk.2) (.bool t122)) (fun _ hk => hk.2) (.slice Ao57 t123.length co57)) (fun _ hk => hk.1.1), l_ HB⟩

end Go.Proofs.Ytglkjeeiiflpjaa.F
