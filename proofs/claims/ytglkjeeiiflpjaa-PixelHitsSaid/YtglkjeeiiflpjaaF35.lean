-- PRINTED by print.py (a twelfth state) out of the translation. Not trusted: Lean checks it.
import Derived.Test.YtglkjeeiiflpjaaF0
import Derived.Test.YtglkjeeiiflpjaaB3
import Derived.Test.YtglkjeeiiflpjaaF44
import Derived.Test.YtglkjeeiiflpjaaF50
import Derived.Test.YtglkjeeiiflpjaaF51
import Derived.Test.YtglkjeeiiflpjaaF52
namespace Go.Proofs.Ytglkjeeiiflpjaa.F
open Go.RowKit Go.Proofs.YtglkjeeiiflpjaaW.PrintWords Go.Proofs.YtglkjeeiiflpjaaW.PrintLast Go.Proofs.YtglkjeeiiflpjaaW.PrintMore
attribute [local go_sem] max2_int min2_int max_two min_two max_three min_three max_four min_four   -- for this text's walks alone
set_option linter.unusedVariables false
set_option linter.unusedSimpArgs false

/-! ### cobwebref03_near: function 35 -/
def cobwebref03_near.f (k : Nat) (a0_0 : Bool) (l0_1 : List Int) (a1 : Int) : Option (Bool) := (cobwebref01_Power.f k a1).bind fun bt102 => ((cobwebref01_Mul.f k a0_0 l0_1 bt102.1 bt102.2).bind fun bt106 => ((cobwebref01_Power.f k 27).bind fun bt111 => ((cobwebref01_Neg.f k bt111.1 bt111.2).bind fun bt115 => ((cobwebref01_Cmp.f k bt106.1 bt106.2 bt115.1 bt115.2).bind fun t119 => (if t119 ≥ 0 then ((cobwebref01_Power.f k 27).bind fun bt120 => ((cobwebref01_Cmp.f k bt106.1 bt106.2 bt120.1 bt120.2).bind fun t124 => (some (decide (t124 ≤ 0))))) else (some false))))))
theorem cobwebref03_near.mono : ∀ a0 a1 a2 k, LeO (cobwebref03_near.f k a0 a1 a2) (cobwebref03_near.f (k + 1) a0 a1 a2) := by
  intro a0 a1 a2 k
  unfold cobwebref03_near.f
  repeat' first
      | (with_reducible exact cobwebref01_Cmp.mono _ _ _ _ _)
      | (with_reducible exact cobwebref01_Mul.mono _ _ _ _ _)
      | (with_reducible exact cobwebref01_Neg.mono _ _ _)
      | (with_reducible exact cobwebref01_Power.mono _ _)
      | (with_reducible exact LeO.refl _)
      | (with_reducible exact LeO.none _)
      | (with_reducible refine LeO.ite ?_ ?_)
      | (with_reducible refine LeO.bind ?_ (fun _ => ?_))
      | exact cobwebref01_Cmp.mono _ _ _ _ _
      | exact cobwebref01_Mul.mono _ _ _ _ _
      | exact cobwebref01_Neg.mono _ _ _
      | exact cobwebref01_Power.mono _ _
      | exact LeO.none _
      | refine LeO.ite ?_ ?_
      | refine LeO.bind ?_ (fun _ => ?_)
def cobwebref03_near.T2 : Bool × List (List Nat × List Nat) := (true, [([], []), ([], []), ([1, 1], [1]), ([0, 2, 2], [0, 2]), ([3], [3]), ([4, 3], [4]), ([5], [5]), ([5, 5], [5]), ([6, 7, 7, 5], [5, 6, 7]), ([8, 5], [5, 8]), ([5, 9], [5, 9]), ([10, 8, 0, 1, 2, 3, 4, 5, 6, 7, 8, 9, 10], [10])])
def cobwebref03_near.B2 : List Nat := [0, 0, 2, 7, 15, 31, 63, 63, 255, 511, 1023, 2047]
theorem cobwebref03_near.tab2 : rtab .any (opsOf Try.f35 2) = cobwebref03_near.T2 := by kernel_rfl
theorem cobwebref03_near.bits2 : waitsOk cobwebref03_near.T2.2 cobwebref03_near.B2 = true := by kernel_rfl
set_option maxHeartbeats 8000000 in
set_option maxRecDepth 100000 in
theorem cobwebref03_near.calls (k : Nat) (a0_0 : Bool) (A0_1 : Option Addr) (c0_1 : Nat) (l0_1 : List Int) (a1 : Int) (r : Bool) (w : World) (hr0_1 : Kd.C (Kd.int .i64) w A0_1 l0_1.length l0_1) (hc0_1 : l0_1.length ≤ c0_1) (h : cobwebref03_near.f k a0_0 l0_1 a1 = some r) :
    Calls Try.prog 35 #[.agg #[.bool a0_0, .slice A0_1 l0_1.length c0_1], .int .i64 a1] w fun e w' => e = .returned (.bool r) ∧ Below w.heap.size w w' := by
  have hu55 := Try.underlying55
  have HR0_1 := A_ hr0_1
  have HC0_1 := A_ hc0_1
  clear hr0_1 hc0_1
  have HB := A_ (Below.refl w.heap.size w)
  have H : ((cobwebref01_Power.f k a1).bind fun bt102 => ((cobwebref01_Mul.f k a0_0 l0_1 bt102.1 bt102.2).bind fun bt106 => ((cobwebref01_Power.f k 27).bind fun bt111 => ((cobwebref01_Neg.f k bt111.1 bt111.2).bind fun bt115 => ((cobwebref01_Cmp.f k bt106.1 bt106.2 bt115.1 bt115.2).bind fun t119 => (if t119 ≥ 0 then ((cobwebref01_Power.f k 27).bind fun bt120 => ((cobwebref01_Cmp.f k bt106.1 bt106.2 bt120.1 bt120.2).bind fun t124 => (some (decide (t124 ≤ 0))))) else (some false))))))) = some r := h
  clear h
  replace H := Option.bind_eq_some_iff.mp H
  obtain ⟨⟨t102, t103⟩, A30, H⟩ := H
  replace H : ((cobwebref01_Mul.f k a0_0 l0_1 t102 t103).bind fun bt106 => ((cobwebref01_Power.f k 27).bind fun bt111 => ((cobwebref01_Neg.f k bt111.1 bt111.2).bind fun bt115 => ((cobwebref01_Cmp.f k bt106.1 bt106.2 bt115.1 bt115.2).bind fun t119 => (if t119 ≥ 0 then ((cobwebref01_Power.f k 27).bind fun bt120 => ((cobwebref01_Cmp.f k bt106.1 bt106.2 bt120.1 bt120.2).bind fun t124 => (some (decide (t124 ≤ 0))))) else (some false)))))) = some r := H
  have A3 := A_ A30
  clear A30
  replace H := Option.bind_eq_some_iff.mp H
  obtain ⟨⟨t106, t107⟩, A40, H⟩ := H
  replace H : ((cobwebref01_Power.f k 27).bind fun bt111 => ((cobwebref01_Neg.f k bt111.1 bt111.2).bind fun bt115 => ((cobwebref01_Cmp.f k t106 t107 bt115.1 bt115.2).bind fun t119 => (if t119 ≥ 0 then ((cobwebref01_Power.f k 27).bind fun bt120 => ((cobwebref01_Cmp.f k t106 t107 bt120.1 bt120.2).bind fun t124 => (some (decide (t124 ≤ 0))))) else (some false))))) = some r := H
  have A4 := A_ A40
  clear A40
  replace H := Option.bind_eq_some_iff.mp H
  obtain ⟨⟨t111, t112⟩, A50, H⟩ := H
  replace H : ((cobwebref01_Neg.f k t111 t112).bind fun bt115 => ((cobwebref01_Cmp.f k t106 t107 bt115.1 bt115.2).bind fun t119 => (if t119 ≥ 0 then ((cobwebref01_Power.f k 27).bind fun bt120 => ((cobwebref01_Cmp.f k t106 t107 bt120.1 bt120.2).bind fun t124 => (some (decide (t124 ≤ 0))))) else (some false)))) = some r := H
  have A5 := A_ A50
  clear A50
  replace H := Option.bind_eq_some_iff.mp H
  obtain ⟨⟨t115, t116⟩, A60, H⟩ := H
  replace H : ((cobwebref01_Cmp.f k t106 t107 t115 t116).bind fun t119 => (if t119 ≥ 0 then ((cobwebref01_Power.f k 27).bind fun bt120 => ((cobwebref01_Cmp.f k t106 t107 bt120.1 bt120.2).bind fun t124 => (some (decide (t124 ≤ 0))))) else (some false))) = some r := H
  have A6 := A_ A60
  clear A60
  replace H := Option.bind_eq_some_iff.mp H
  obtain ⟨t119, A70, H⟩ := H
  replace H : (if t119 ≥ 0 then ((cobwebref01_Power.f k 27).bind fun bt120 => ((cobwebref01_Cmp.f k t106 t107 bt120.1 bt120.2).bind fun t124 => (some (decide (t124 ≤ 0))))) else (some false)) = some r := H
  have A7 := A_ A70
  clear A70
  by_cases c8 : t119 ≥ 0
  · rw [if_pos c8] at H
    have c8b0 : decide (0 ≤ t119) = true := decide_eq_true c8
    clear c8
    replace H := Option.bind_eq_some_iff.mp H
    obtain ⟨⟨t120, t121⟩, A90, H⟩ := H
    replace H : ((cobwebref01_Cmp.f k t106 t107 t120 t121).bind fun t124 => (some (decide (t124 ≤ 0)))) = some r := H
    have A9 := A_ A90
    clear A90
    replace H := Option.bind_eq_some_iff.mp H
    obtain ⟨t124, A100, H⟩ := H
    replace H : (some (decide (t124 ≤ 0))) = some r := H
    have A10 := A_ A100
    clear A100
    obtain rfl := Option.some.inj H
    go_enter Try.func35, Try.ntmps35
    try go_wp2_with (first | ((with_reducible refine gate_dst (N := 2) rfl ?_); refine boxeq_ 2 #[.bool a0_0, .slice A0_1 l0_1.length c0_1] 55 ?_; intro gb101 hg w11 hbox hb; have BK101 := A_ (hbox); have GW101 := ge_ HB hg; replace HB := st_ HB hb; have GE101 := GW101; clear hb hbox hg))
    replace BK101 := A_ (blk_drew BK101.out)
    replace HB := A_ (below_drew1 HB.out)
    refine start_ (n := 6) (S := fun w' => w'.cell? ⟨gb101, 0, none⟩ = some (.bool a0_0) ∧ w'.cell? ⟨gb101, 1, none⟩ = some (.slice A0_1 l0_1.length c0_1)) (ds := []) (Array.replicate 6 false) (by kernel_rfl) rfl rfl ⟨(blk_cell BK101.out 0).trans rfl, (blk_cell BK101.out 1).trans rfl⟩ (fun hHeld => ?_)
    generalize w11.drew = w12 at BK101 HB hHeld ⊢
    refine pure_ (i := 1) (N := some 7) (v := ?_) (a' := ?_) (bb 6 2) rfl rfl (by kernel_rfl) (fun _ _ _ h => h) (Or.inl ⟨by rfl, ?_⟩) ?_ ?_
    rotate_left
    · intro w'
      go_simp
      with_reducible rfl
    rotate_left
    · simp only [Act.put, List.setIfInBounds_toArray, List.set_cons_zero, List.set_cons_succ, i64_w, i32_w]
      rfl
    refine take_ (i := 0) (N := some 6) (v := ?_) (a' := ?_) (bb 6 3) rfl rfl (by kernel_rfl) (fun _ _ _ h => h) (Or.inl ⟨by rfl, ?_⟩) hHeld ?_ ?_
    rotate_left
    · rintro w' ⟨s0, s1⟩
      go_simp
      with_reducible rfl
    rotate_left
    · simp only [Act.put, List.setIfInBounds_toArray, List.set_cons_zero, List.set_cons_succ, i64_w, i32_w]
      rfl
    refine join_ (σ := Value × Value × Nat) 1 (bb 6 31) (fun s_ => [(8, .agg #[.bool t102, s_.1]), (9, .agg #[.bool t106, s_.2.1]), (5, .pointer (some ⟨s_.2.2, 0, none⟩))]) (fun s_ w' => (w'.cell? ⟨gb101, 0, none⟩ = some (.bool a0_0) ∧ w'.cell? ⟨gb101, 1, none⟩ = some (.slice A0_1 l0_1.length c0_1)) ∧ (Kd.V (Kd.int .i64) 3 w' w.heap.size (fun k_ => k_ ≠ gb101 ∧ k_ ≠ s_.2.2) s_.1 t103) ∧ (Kd.V (Kd.int .i64) 3 w' w.heap.size (fun k_ => k_ ≠ gb101 ∧ k_ ≠ s_.2.2) s_.2.1 t107) ∧ (w'.heap[gb101]? = some (.cells #[.bool a0_0, .slice A0_1 l0_1.length c0_1] 55 (0, 0))) ∧ (w'.heap[s_.2.2]? = some (.cells #[.bool false, .slice none 0 0] 55 (0, 0))) ∧ (w.heap.size ≤ s_.2.2) ∧ (w.heap.size ≤ s_.2.2) ∧ (gb101 ≠ s_.2.2) ∧ (s_.2.2 ≠ gb101) ∧ (Below w.heap.size w w')) ?_ ?_
    rotate_left
    · intro hCont
      refine two_ (i := 2) (j := 4) (Ni := some 8) (Nj := some 5) (bb 6 7) (bb 6 19) rfl rfl rfl rfl (by kernel_rfl) (by decide) (by decide) (fun K hK => ?_) (fun K hK => ?_)
      · skip
        refine goesq_ Try.func50 #[.int .i64 a1] ?_
        with_reducible refine (cobwebref01_Power.calls k a1 t102 t103 _ A3.out).mono ?_
        rintro e w13 ⟨v104, rfl, ho0, hb⟩
        refine ⟨_, rfl, ?_⟩
        have HO105 := A_ (Kd.V_lower (Kd.V_mono (ok' := fun k_ => k_ ≠ gb101) ho0 (fun k_ hk_ => (Kd.freshB (b_ BK101) k_ hk_))) (below_size (l_ HB)))
        replace BK101 := bb_ BK101 hb
        replace HB := st_ HB hb
        try clear hb ho0
        obtain ⟨Ao14, co14, eo14⟩ := Kd.V_slice HO105.out
        (first | subst eo14 | (injection eo14 with f1_ f2_ f3_; have f4_ := f1_.symm; have f5_ := f3_.symm; clear f1_ f2_ f3_; subst f4_; subst f5_))
        refine hK.out _ _ ⟨(blk_cell BK101.out 0).trans rfl, (blk_cell BK101.out 1).trans rfl⟩ (fun hHeld => ?_)
        clear hK K
        refine normq_ 8 ?_
        refine two_ (i := 3) (j := 4) (Ni := some 9) (Nj := some 5) (bb 6 15) (bb 6 23) rfl rfl rfl rfl (by kernel_rfl) (by decide) (by decide) (fun K hK => ?_) (fun K hK => ?_)
        · skip
          refine goesq_ Try.func44 #[.agg #[.bool a0_0, .slice A0_1 l0_1.length c0_1], .agg #[.bool t102, .slice Ao14 t103.length co14]] ?_
          with_reducible refine (cobwebref01_Mul.calls k a0_0 _ _ l0_1 t102 _ _ t103 t106 t107 _ ?side1 ?side2 ?side3 ?side4 A4.out).mono ?_
          (case side1 => exact c_ (Kd.C_below HR0_1.out HB.out))
          (case side2 => exact HC0_1.out)
          (case side3 => exact c_ (Kd.V_reads' HO105.out).2.2)
          (case side4 => exact (Kd.V_reads' HO105.out).2.1)
          rintro e w15 ⟨v108, rfl, ho0, hb⟩
          refine ⟨_, rfl, ?_⟩
          replace HO105 := A_ (Kd.V_below (v_ HO105.out) hb)
          have HO109 := A_ (Kd.V_lower (Kd.V_mono (ok' := fun k_ => k_ ≠ gb101) ho0 (fun k_ hk_ => (Kd.freshB (b_ BK101) k_ hk_))) (below_size (l_ HB)))
          replace BK101 := bb_ BK101 hb
          replace HB := st_ HB hb
          try clear hb ho0
          refine hK.out _ _ ⟨(blk_cell BK101.out 0).trans rfl, (blk_cell BK101.out 1).trans rfl⟩ (fun hHeld => ?_)
          clear hK K
          refine normq_ 9 ?_
          refine one_ (i := 4) (N := some 5) (bb 6 31) rfl rfl (by kernel_rfl) (by decide) (fun K hK => ?_)
          refine boxsq_ 5 #[.bool false, .slice none 0 0] 55 ?_
          intro gb110 hg w16 hbox hb
          replace HO105 := A_ (Kd.V_below (Kd.V_elderB (v_ HO105.out) gb110 (Nat.le_of_eq hg.symm)) hb)
          replace HO109 := A_ (Kd.V_below (Kd.V_elderB (v_ HO109.out) gb110 (Nat.le_of_eq hg.symm)) hb)
          have BK110 := A_ (hbox)
          have GW110 := ge_ HB hg
          replace HB := st_ HB hb
          have GE110 := GW110
          have NB101_110 := ne_ BK101 hg
          replace BK101 := bb_ BK101 hb
          have NB110_101 := A_ NB101_110.out.symm
          clear hb hbox hg
          refine hK.out _ _ ⟨(blk_cell BK101.out 0).trans rfl, (blk_cell BK101.out 1).trans rfl⟩ (fun hHeld => ?_)
          clear hK K
          refine normq_ 5 ?_
          exact normp_ (hCont (.slice Ao14 t103.length co14, v108, gb110) _ ⟨hHeld, (v_ HO105.out), (v_ HO109.out), (b_ BK101), (b_ BK110), GW110.out, GE110.out, NB101_110.out, NB110_101.out, (l_ HB)⟩)
        · skip
          refine boxsq_ 5 #[.bool false, .slice none 0 0] 55 ?_
          intro gb110 hg w14 hbox hb
          replace HO105 := A_ (Kd.V_below (Kd.V_elderB (v_ HO105.out) gb110 (Nat.le_of_eq hg.symm)) hb)
          have BK110 := A_ (hbox)
          have GW110 := ge_ HB hg
          replace HB := st_ HB hb
          have GE110 := GW110
          have NB101_110 := ne_ BK101 hg
          replace BK101 := bb_ BK101 hb
          have NB110_101 := A_ NB101_110.out.symm
          clear hb hbox hg
          obtain ⟨Ao15, co15, eo15⟩ := Kd.V_slice HO105.out
          (first | subst eo15 | (injection eo15 with f1_ f2_ f3_; have f4_ := f1_.symm; have f5_ := f3_.symm; clear f1_ f2_ f3_; subst f4_; subst f5_))
          refine hK.out _ _ ⟨(blk_cell BK101.out 0).trans rfl, (blk_cell BK101.out 1).trans rfl⟩ (fun hHeld => ?_)
          clear hK K
          refine normq_ 5 ?_
          refine one_ (i := 3) (N := some 9) (bb 6 31) rfl rfl (by kernel_rfl) (by decide) (fun K hK => ?_)
          refine goesq_ Try.func44 #[.agg #[.bool a0_0, .slice A0_1 l0_1.length c0_1], .agg #[.bool t102, .slice Ao15 t103.length co15]] ?_
          with_reducible refine (cobwebref01_Mul.calls k a0_0 _ _ l0_1 t102 _ _ t103 t106 t107 _ ?side1 ?side2 ?side3 ?side4 A4.out).mono ?_
          (case side1 => exact c_ (Kd.C_below HR0_1.out HB.out))
          (case side2 => exact HC0_1.out)
          (case side3 => exact c_ (Kd.V_reads' HO105.out).2.2)
          (case side4 => exact (Kd.V_reads' HO105.out).2.1)
          rintro e w16 ⟨v108, rfl, ho0, hb⟩
          refine ⟨_, rfl, ?_⟩
          replace HO105 := A_ (Kd.V_below (v_ HO105.out) hb)
          have HO109 := A_ (Kd.V_lower (Kd.V_mono (ok' := fun k_ => k_ ≠ gb101 ∧ k_ ≠ gb110) ho0 (fun k_ hk_ => ⟨(Kd.freshB (b_ BK101) k_ hk_), (Kd.freshB (b_ BK110) k_ hk_)⟩)) (below_size (l_ HB)))
          replace BK101 := bb_ BK101 hb
          replace BK110 := bb_ BK110 hb
          replace HB := st_ HB hb
          try clear hb ho0
          refine hK.out _ _ ⟨(blk_cell BK101.out 0).trans rfl, (blk_cell BK101.out 1).trans rfl⟩ (fun hHeld => ?_)
          clear hK K
          refine normq_ 9 ?_
          exact normp_ (hCont (.slice Ao15 t103.length co15, v108, gb110) _ ⟨hHeld, (v_ HO105.out), (v_ HO109.out), (b_ BK101), (b_ BK110), GW110.out, GE110.out, NB101_110.out, NB110_101.out, (l_ HB)⟩)
      · skip
        refine boxsq_ 5 #[.bool false, .slice none 0 0] 55 ?_
        intro gb110 hg w13 hbox hb
        have BK110 := A_ (hbox)
        have GW110 := ge_ HB hg
        replace HB := st_ HB hb
        have GE110 := GW110
        have NB101_110 := ne_ BK101 hg
        replace BK101 := bb_ BK101 hb
        have NB110_101 := A_ NB101_110.out.symm
        clear hb hbox hg
        refine hK.out _ _ ⟨(blk_cell BK101.out 0).trans rfl, (blk_cell BK101.out 1).trans rfl⟩ (fun hHeld => ?_)
        clear hK K
        refine normq_ 5 ?_
        refine one_ (i := 2) (N := some 8) (bb 6 23) rfl rfl (by kernel_rfl) (by decide) (fun K hK => ?_)
        refine goesq_ Try.func50 #[.int .i64 a1] ?_
        with_reducible refine (cobwebref01_Power.calls k a1 t102 t103 _ A3.out).mono ?_
        rintro e w14 ⟨v104, rfl, ho0, hb⟩
        refine ⟨_, rfl, ?_⟩
        have HO105 := A_ (Kd.V_lower (Kd.V_mono (ok' := fun k_ => k_ ≠ gb101 ∧ k_ ≠ gb110) ho0 (fun k_ hk_ => ⟨(Kd.freshB (b_ BK101) k_ hk_), (Kd.freshB (b_ BK110) k_ hk_)⟩)) (below_size (l_ HB)))
        replace BK101 := bb_ BK101 hb
        replace BK110 := bb_ BK110 hb
        replace HB := st_ HB hb
        try clear hb ho0
        obtain ⟨Ao15, co15, eo15⟩ := Kd.V_slice HO105.out
        (first | subst eo15 | (injection eo15 with f1_ f2_ f3_; have f4_ := f1_.symm; have f5_ := f3_.symm; clear f1_ f2_ f3_; subst f4_; subst f5_))
        refine hK.out _ _ ⟨(blk_cell BK101.out 0).trans rfl, (blk_cell BK101.out 1).trans rfl⟩ (fun hHeld => ?_)
        clear hK K
        refine normq_ 8 ?_
        refine one_ (i := 3) (N := some 9) (bb 6 31) rfl rfl (by kernel_rfl) (by decide) (fun K hK => ?_)
        refine goesq_ Try.func44 #[.agg #[.bool a0_0, .slice A0_1 l0_1.length c0_1], .agg #[.bool t102, .slice Ao15 t103.length co15]] ?_
        with_reducible refine (cobwebref01_Mul.calls k a0_0 _ _ l0_1 t102 _ _ t103 t106 t107 _ ?side1 ?side2 ?side3 ?side4 A4.out).mono ?_
        (case side1 => exact c_ (Kd.C_below HR0_1.out HB.out))
        (case side2 => exact HC0_1.out)
        (case side3 => exact c_ (Kd.V_reads' HO105.out).2.2)
        (case side4 => exact (Kd.V_reads' HO105.out).2.1)
        rintro e w16 ⟨v108, rfl, ho0, hb⟩
        refine ⟨_, rfl, ?_⟩
        replace HO105 := A_ (Kd.V_below (v_ HO105.out) hb)
        have HO109 := A_ (Kd.V_lower (Kd.V_mono (ok' := fun k_ => k_ ≠ gb101 ∧ k_ ≠ gb110) ho0 (fun k_ hk_ => ⟨(Kd.freshB (b_ BK101) k_ hk_), (Kd.freshB (b_ BK110) k_ hk_)⟩)) (below_size (l_ HB)))
        replace BK101 := bb_ BK101 hb
        replace BK110 := bb_ BK110 hb
        replace HB := st_ HB hb
        try clear hb ho0
        refine hK.out _ _ ⟨(blk_cell BK101.out 0).trans rfl, (blk_cell BK101.out 1).trans rfl⟩ (fun hHeld => ?_)
        clear hK K
        refine normq_ 9 ?_
        exact normp_ (hCont (.slice Ao15 t103.length co15, v108, gb110) _ ⟨hHeld, (v_ HO105.out), (v_ HO109.out), (b_ BK101), (b_ BK110), GW110.out, GE110.out, NB101_110.out, NB110_101.out, (l_ HB)⟩)
    rintro ⟨v104, v108, gb110⟩ w17 ⟨hS_, h0_, h1_, h2_, h3_, h4_, h5_, h6_, h7_, h8_⟩
    have n0_ : Aside0 (Kd.V (Kd.int .i64) 3 w17 w.heap.size (fun k_ => k_ ≠ gb101 ∧ k_ ≠ gb110) v104 t103) := ⟨h0_⟩
    have n1_ : Aside0 (Kd.V (Kd.int .i64) 3 w17 w.heap.size (fun k_ => k_ ≠ gb101 ∧ k_ ≠ gb110) v108 t107) := ⟨h1_⟩
    have n2_ : Aside0 (w17.heap[gb101]? = some (.cells #[.bool a0_0, .slice A0_1 l0_1.length c0_1] 55 (0, 0))) := ⟨h2_⟩
    have n3_ : Aside0 (w17.heap[gb110]? = some (.cells #[.bool false, .slice none 0 0] 55 (0, 0))) := ⟨h3_⟩
    have n4_ : Aside0 (w.heap.size ≤ gb110) := ⟨h4_⟩
    have n5_ : Aside0 (w.heap.size ≤ gb110) := ⟨h5_⟩
    have n6_ : Aside0 (gb101 ≠ gb110) := ⟨h6_⟩
    have n7_ : Aside0 (gb110 ≠ gb101) := ⟨h7_⟩
    have n8_ : Aside0 (Below w.heap.size w w17) := ⟨h8_⟩
    clear BK101 HB h0_ h1_ h2_ h3_ h4_ h5_ h6_ h7_ h8_
    have HO105 := n0_
    have HO109 := n1_
    have BK101 := n2_
    have BK110 := n3_
    have GW110 := n4_
    have GE110 := n5_
    have NB101_110 := n6_
    have NB110_101 := n7_
    have HB := n8_
    clear n0_ n1_ n2_ n3_ n4_ n5_ n6_ n7_ n8_
    have hHeld : w17.cell? ⟨gb101, 0, none⟩ = some (.bool a0_0) ∧ w17.cell? ⟨gb101, 1, none⟩ = some (.slice A0_1 l0_1.length c0_1) := hS_
    obtain ⟨Ao19, co19, eo19⟩ := Kd.V_slice HO109.out
    (first | subst eo19 | (injection eo19 with f1_ f2_ f3_; have f4_ := f1_.symm; have f5_ := f3_.symm; clear f1_ f2_ f3_; subst f4_; subst f5_))
    refine norm_ (a' := ?_) ?_ ?_
    rotate_left
    · simp only [putAll, Act.put, List.setIfInBounds_toArray, List.set_cons_zero, List.set_cons_succ]
      rfl
    refine one_ (i := 5) (N := none) (bb 6 63) rfl rfl (by kernel_rfl) (by decide) (fun K hK => ?_)
    have hs18 : w17.cell? ⟨gb110, 0, none⟩ = some (.bool false) := (blk_cell BK110.out 0).trans rfl
    have hfs18 := blk_frozen BK110.out 0
    have hns18_0 := NB101_110.out
    have hms18_0 := NB110_101.out
    have hs20 : w17.cell? ⟨gb110, 1, none⟩ = some (.slice none 0 0) := (blk_cell BK110.out 1).trans rfl
    have hfs20 := blk_frozen BK110.out 1
    have hns20_0 := NB101_110.out
    have hms20_0 := NB110_101.out
    refine skip_ (w1 := ?_) (by rfl) rfl ?_ ?_
    rotate_left
    · go_simp
      rfl
    refine hK.out _ _ ⟨((cell_far (p := ⟨gb110, _, none⟩) NB101_110.out _).trans (((cell_far (p := ⟨gb110, _, none⟩) NB101_110.out _).trans (hHeld.1)))), ((cell_far (p := ⟨gb110, _, none⟩) NB101_110.out _).trans (((cell_far (p := ⟨gb110, _, none⟩) NB101_110.out _).trans (hHeld.2))))⟩ (fun hHeld => ?_)
    clear hK K
    refine done_ (by kernel_rfl) ?_
    try go_wp2
    have n0_ : Aside0 (Kd.V (Kd.int .i64) 3 ((w17.setCell ⟨gb110, 0, none⟩ (.bool t106)).setCell ⟨gb110, 1, none⟩ (.slice Ao19 t107.length co19)) w.heap.size (fun k_ => k_ ≠ gb101 ∧ k_ ≠ gb110) v104 t103) := ⟨by (with_reducible repeat (first | apply Kd.V_alloc | apply Kd.V_drewN | apply Kd.V_drew)); exact Kd.V_mono (Kd.V_far (p := ⟨gb110, 1, none⟩) (Kd.V_far (p := ⟨gb110, 0, none⟩) (Kd.V_mono HO105.out (fun k_ hk => (⟨hk, hk.2⟩ : _ ∧ k_ ≠ gb110))) (fun _ hk => hk.2) (.bool t106)) (fun _ hk => hk.2) (.slice Ao19 t107.length co19)) (fun _ hk => ⟨hk.1.1, hk.1.2⟩)⟩
    have n1_ : Aside0 (Kd.V (Kd.int .i64) 3 ((w17.setCell ⟨gb110, 0, none⟩ (.bool t106)).setCell ⟨gb110, 1, none⟩ (.slice Ao19 t107.length co19)) w.heap.size (fun k_ => k_ ≠ gb101 ∧ k_ ≠ gb110) (.slice Ao19 t107.length co19) t107) := ⟨by (with_reducible repeat (first | apply Kd.V_alloc | apply Kd.V_drewN | apply Kd.V_drew)); exact Kd.V_mono (Kd.V_far (p := ⟨gb110, 1, none⟩) (Kd.V_far (p := ⟨gb110, 0, none⟩) (Kd.V_mono HO109.out (fun k_ hk => (⟨hk, hk.2⟩ : _ ∧ k_ ≠ gb110))) (fun _ hk => hk.2) (.bool t106)) (fun _ hk => hk.2) (.slice Ao19 t107.length co19)) (fun _ hk => ⟨hk.1.1, hk.1.2⟩)⟩
    have n2_ : Aside0 (((w17.setCell ⟨gb110, 0, none⟩ (.bool t106)).setCell ⟨gb110, 1, none⟩ (.slice Ao19 t107.length co19)).heap[gb101]? = some (.cells #[.bool a0_0, .slice A0_1 l0_1.length c0_1] 55 (0, 0))) := ⟨by (with_reducible repeat (first | refine blk_drewN ?_ _ | refine blk_drew ?_ | refine blk_alloc ?_ _)); refine blk_far ?_ NB101_110.out _; (with_reducible repeat (first | refine blk_drewN ?_ _ | refine blk_drew ?_ | refine blk_alloc ?_ _)); refine blk_far ?_ NB101_110.out _; (with_reducible repeat (first | refine blk_drewN ?_ _ | refine blk_drew ?_ | refine blk_alloc ?_ _)); exact BK101.out⟩
    have n3_ : Aside0 (((w17.setCell ⟨gb110, 0, none⟩ (.bool t106)).setCell ⟨gb110, 1, none⟩ (.slice Ao19 t107.length co19)).heap[gb110]? = some (.cells #[.bool t106, .slice Ao19 t107.length co19] 55 (0, 0))) := ⟨by (with_reducible repeat (first | refine blk_drewN ?_ _ | refine blk_drew ?_ | refine blk_alloc ?_ _)); refine blk_put (cs := #[.bool t106, .slice none 0 0]) ?_ 1 _ rfl; (with_reducible repeat (first | refine blk_drewN ?_ _ | refine blk_drew ?_ | refine blk_alloc ?_ _)); refine blk_put (cs := #[.bool false, .slice none 0 0]) ?_ 0 _ rfl; (with_reducible repeat (first | refine blk_drewN ?_ _ | refine blk_drew ?_ | refine blk_alloc ?_ _)); exact BK110.out⟩
    have n4_ : Aside0 (Below w.heap.size w ((w17.setCell ⟨gb110, 0, none⟩ (.bool t106)).setCell ⟨gb110, 1, none⟩ (.slice Ao19 t107.length co19))) := ⟨l_ HB⟩
    generalize ((w17.setCell ⟨gb110, 0, none⟩ (.bool t106)).setCell ⟨gb110, 1, none⟩ (.slice Ao19 t107.length co19)) = w21 at n0_ n1_ n2_ n3_ n4_ ⊢
    have HO105 := n0_
    have HO109 := n1_
    have BK101 := n2_
    have BK110 := n3_
    have HB := n4_
    clear n0_ n1_ n2_ n3_ n4_
    replace HO105 := A_ (Kd.V_drew HO105.out)
    replace HO109 := A_ (Kd.V_drew HO109.out)
    replace BK101 := A_ (blk_drew BK101.out)
    replace BK110 := A_ (blk_drew BK110.out)
    replace HB := A_ (below_drew1 HB.out)
    refine start_ (n := 12) (S := fun w' => w'.cell? ⟨gb110, 0, none⟩ = some (.bool t106) ∧ w'.cell? ⟨gb110, 1, none⟩ = some (.slice Ao19 t107.length co19)) (ds := []) (Array.replicate 12 false) (by kernel_rfl) rfl rfl ⟨(blk_cell BK110.out 0).trans rfl, (blk_cell BK110.out 1).trans rfl⟩ (fun hHeld => ?_); refine with_tabW cobwebref03_near.tab2 cobwebref03_near.bits2 (fun HT_ HW_ => ?_)
    generalize w21.drew = w22 at HO105 HO109 BK101 BK110 HB hHeld ⊢
    refine takeq_ 0 10 HT_ HW_ hHeld ?_
    refine oneq_ 1 (some 11) HT_ (fun K hK => ?_)
    refine goesq_ Try.func50 #[.int .i64 27] ?_
    with_reducible refine (cobwebref01_Power.calls k 27 t111 t112 _ A5.out).mono ?_
    rintro e w23 ⟨v113, rfl, ho0, hb⟩
    refine ⟨_, rfl, ?_⟩
    replace HO105 := A_ (Kd.V_below (v_ HO105.out) hb)
    replace HO109 := A_ (Kd.V_below (v_ HO109.out) hb)
    have HO114 := A_ (Kd.V_lower (Kd.V_mono (ok' := fun k_ => k_ ≠ gb101 ∧ k_ ≠ gb110) ho0 (fun k_ hk_ => ⟨(Kd.freshB (b_ BK101) k_ hk_), (Kd.freshB (b_ BK110) k_ hk_)⟩)) (below_size (l_ HB)))
    replace BK101 := bb_ BK101 hb
    replace BK110 := bb_ BK110 hb
    replace HB := st_ HB hb
    try clear hb ho0
    obtain ⟨Ao24, co24, eo24⟩ := Kd.V_slice HO114.out
    (first | subst eo24 | (injection eo24 with f1_ f2_ f3_; have f4_ := f1_.symm; have f5_ := f3_.symm; clear f1_ f2_ f3_; subst f4_; subst f5_))
    refine hK.out _ _ ⟨(blk_cell BK110.out 0).trans rfl, (blk_cell BK110.out 1).trans rfl⟩ (fun hHeld => ?_)
    clear hK K
    refine normq_ 11 ?_
    refine oneq_ 2 (some 12) HT_ (fun K hK => ?_)
    refine goesq_ Try.func52 #[.agg #[.bool t111, .slice Ao24 t112.length co24]] ?_
    with_reducible refine (cobwebref01_Neg.calls k t111 (fun k_ => (k_ ≠ gb101 ∧ k_ ≠ gb110)) _ _ t112 t115 t116 _ ?side1 A6.out).mono ?_
    (case side1 => exact HO114.out)
    rintro e w25 ⟨v117, rfl, ho0, hb⟩
    refine ⟨_, rfl, ?_⟩
    replace HO105 := A_ (Kd.V_below (v_ HO105.out) hb)
    replace HO109 := A_ (Kd.V_below (v_ HO109.out) hb)
    replace HO114 := A_ (Kd.V_below (v_ HO114.out) hb)
    have HO118 := A_ (Kd.V_lower (Kd.V_mono (ok' := fun k_ => k_ ≠ gb101 ∧ k_ ≠ gb110) ho0 (fun k_ hk_ => ⟨Or.elim hk_ (fun hs_ => hs_.1) (fun hn_ => (Kd.freshB (b_ BK101) k_ hn_)), Or.elim hk_ (fun hs_ => hs_.2) (fun hn_ => (Kd.freshB (b_ BK110) k_ hn_))⟩)) (below_size (l_ HB)))
    replace BK101 := bb_ BK101 hb
    replace BK110 := bb_ BK110 hb
    replace HB := st_ HB hb
    try clear hb ho0
    obtain ⟨Ao26, co26, eo26⟩ := Kd.V_slice HO118.out
    (first | subst eo26 | (injection eo26 with f1_ f2_ f3_; have f4_ := f1_.symm; have f5_ := f3_.symm; clear f1_ f2_ f3_; subst f4_; subst f5_))
    refine hK.out _ _ ⟨(blk_cell BK110.out 0).trans rfl, (blk_cell BK110.out 1).trans rfl⟩ (fun hHeld => ?_)
    clear hK K
    refine normq_ 12 ?_
    refine oneq_ 3 (some 13) HT_ (fun K hK => ?_)
    refine goesq_ Try.func51 #[.agg #[.bool t106, .slice Ao19 t107.length co19], .agg #[.bool t115, .slice Ao26 t116.length co26]] ?_
    with_reducible refine (cobwebref01_Cmp.calls k t106 _ _ t107 t115 _ _ t116 t119 _ ?side1 ?side2 ?side3 ?side4 A7.out).mono ?_
    (case side1 => exact c_ (Kd.V_reads' HO109.out).2.2)
    (case side2 => exact (Kd.V_reads' HO109.out).2.1)
    (case side3 => exact c_ (Kd.V_reads' HO118.out).2.2)
    (case side4 => exact (Kd.V_reads' HO118.out).2.1)
    rintro e w27 ⟨rfl, hb⟩
    refine ⟨_, rfl, ?_⟩
    replace HO105 := A_ (Kd.V_below (v_ HO105.out) hb)
    replace HO109 := A_ (Kd.V_below (v_ HO109.out) hb)
    replace HO114 := A_ (Kd.V_below (v_ HO114.out) hb)
    replace HO118 := A_ (Kd.V_below (v_ HO118.out) hb)
    replace BK101 := bb_ BK101 hb
    replace BK110 := bb_ BK110 hb
    replace HB := st_ HB hb
    try clear hb
    refine hK.out _ _ ⟨(blk_cell BK110.out 0).trans rfl, (blk_cell BK110.out 1).trans rfl⟩ (fun hHeld => ?_)
    clear hK K
    refine normq_ 13 ?_
    refine pureq_ 4 14 HT_ ?_
    refine pureq_ 5 15 HT_ ?_
    refine takeq_ 6 16 HT_ HW_ hHeld ?_
    refine oneq_ 7 (some 17) HT_ (fun K hK => ?_)
    refine goesq_ Try.func50 #[.int .i64 27] ?_
    with_reducible refine (cobwebref01_Power.calls k 27 t120 t121 _ A9.out).mono ?_
    rintro e w28 ⟨v122, rfl, ho0, hb⟩
    refine ⟨_, rfl, ?_⟩
    replace HO105 := A_ (Kd.V_below (v_ HO105.out) hb)
    replace HO109 := A_ (Kd.V_below (v_ HO109.out) hb)
    replace HO114 := A_ (Kd.V_below (v_ HO114.out) hb)
    replace HO118 := A_ (Kd.V_below (v_ HO118.out) hb)
    have HO123 := A_ (Kd.V_lower (Kd.V_mono (ok' := fun k_ => k_ ≠ gb101 ∧ k_ ≠ gb110) ho0 (fun k_ hk_ => ⟨(Kd.freshB (b_ BK101) k_ hk_), (Kd.freshB (b_ BK110) k_ hk_)⟩)) (below_size (l_ HB)))
    replace BK101 := bb_ BK101 hb
    replace BK110 := bb_ BK110 hb
    replace HB := st_ HB hb
    try clear hb ho0
    obtain ⟨Ao29, co29, eo29⟩ := Kd.V_slice HO123.out
    (first | subst eo29 | (injection eo29 with f1_ f2_ f3_; have f4_ := f1_.symm; have f5_ := f3_.symm; clear f1_ f2_ f3_; subst f4_; subst f5_))
    refine hK.out _ _ ⟨(blk_cell BK110.out 0).trans rfl, (blk_cell BK110.out 1).trans rfl⟩ (fun hHeld => ?_)
    clear hK K
    refine normq_ 17 ?_
    refine oneq_ 8 (some 18) HT_ (fun K hK => ?_)
    refine goesq_ Try.func51 #[.agg #[.bool t106, .slice Ao19 t107.length co19], .agg #[.bool t120, .slice Ao29 t121.length co29]] ?_
    with_reducible refine (cobwebref01_Cmp.calls k t106 _ _ t107 t120 _ _ t121 t124 _ ?side1 ?side2 ?side3 ?side4 A10.out).mono ?_
    (case side1 => exact c_ (Kd.V_reads' HO109.out).2.2)
    (case side2 => exact (Kd.V_reads' HO109.out).2.1)
    (case side3 => exact c_ (Kd.V_reads' HO123.out).2.2)
    (case side4 => exact (Kd.V_reads' HO123.out).2.1)
    rintro e w30 ⟨rfl, hb⟩
    refine ⟨_, rfl, ?_⟩
    replace HO105 := A_ (Kd.V_below (v_ HO105.out) hb)
    replace HO109 := A_ (Kd.V_below (v_ HO109.out) hb)
    replace HO114 := A_ (Kd.V_below (v_ HO114.out) hb)
    replace HO118 := A_ (Kd.V_below (v_ HO118.out) hb)
    replace HO123 := A_ (Kd.V_below (v_ HO123.out) hb)
    replace BK101 := bb_ BK101 hb
    replace BK110 := bb_ BK110 hb
    replace HB := st_ HB hb
    try clear hb
    refine hK.out _ _ ⟨(blk_cell BK110.out 0).trans rfl, (blk_cell BK110.out 1).trans rfl⟩ (fun hHeld => ?_)
    clear hK K
    refine normq_ 18 ?_
    refine pureq_ 9 19 HT_ ?_
    refine pureq_ 10 20 HT_ ?_
    refine pureq_ 11 4 HT_ ?_
    refine done_ (done_of HT_.out (by kernel_rfl)) ?_
    try go_wp2
    go_ret
    exact ⟨by first | rfl | (simp [errW_none, errW_some] <;> rfl) | (simp [*, errW_none, errW_some] <;> rfl), l_ HB⟩
  · rw [if_neg c8] at H
    have c8b0 : decide (0 ≤ t119) = false := decide_eq_false c8
    clear c8
    obtain rfl := Option.some.inj H
    go_enter Try.func35, Try.ntmps35
    try go_wp2_with (first | ((with_reducible refine gate_dst (N := 2) rfl ?_); refine boxeq_ 2 #[.bool a0_0, .slice A0_1 l0_1.length c0_1] 55 ?_; intro gb101 hg w31 hbox hb; have BK101 := A_ (hbox); have GW101 := ge_ HB hg; replace HB := st_ HB hb; have GE101 := GW101; clear hb hbox hg))
    replace BK101 := A_ (blk_drew BK101.out)
    replace HB := A_ (below_drew1 HB.out)
    refine start_ (n := 6) (S := fun w' => w'.cell? ⟨gb101, 0, none⟩ = some (.bool a0_0) ∧ w'.cell? ⟨gb101, 1, none⟩ = some (.slice A0_1 l0_1.length c0_1)) (ds := []) (Array.replicate 6 false) (by kernel_rfl) rfl rfl ⟨(blk_cell BK101.out 0).trans rfl, (blk_cell BK101.out 1).trans rfl⟩ (fun hHeld => ?_)
    generalize w31.drew = w32 at BK101 HB hHeld ⊢
    refine pure_ (i := 1) (N := some 7) (v := ?_) (a' := ?_) (bb 6 2) rfl rfl (by kernel_rfl) (fun _ _ _ h => h) (Or.inl ⟨by rfl, ?_⟩) ?_ ?_
    rotate_left
    · intro w'
      go_simp
      with_reducible rfl
    rotate_left
    · simp only [Act.put, List.setIfInBounds_toArray, List.set_cons_zero, List.set_cons_succ, i64_w, i32_w]
      rfl
    refine take_ (i := 0) (N := some 6) (v := ?_) (a' := ?_) (bb 6 3) rfl rfl (by kernel_rfl) (fun _ _ _ h => h) (Or.inl ⟨by rfl, ?_⟩) hHeld ?_ ?_
    rotate_left
    · rintro w' ⟨s0, s1⟩
      go_simp
      with_reducible rfl
    rotate_left
    · simp only [Act.put, List.setIfInBounds_toArray, List.set_cons_zero, List.set_cons_succ, i64_w, i32_w]
      rfl
    refine join_ (σ := Value × Value × Nat) 1 (bb 6 31) (fun s_ => [(8, .agg #[.bool t102, s_.1]), (9, .agg #[.bool t106, s_.2.1]), (5, .pointer (some ⟨s_.2.2, 0, none⟩))]) (fun s_ w' => (w'.cell? ⟨gb101, 0, none⟩ = some (.bool a0_0) ∧ w'.cell? ⟨gb101, 1, none⟩ = some (.slice A0_1 l0_1.length c0_1)) ∧ (Kd.V (Kd.int .i64) 3 w' w.heap.size (fun k_ => k_ ≠ gb101 ∧ k_ ≠ s_.2.2) s_.1 t103) ∧ (Kd.V (Kd.int .i64) 3 w' w.heap.size (fun k_ => k_ ≠ gb101 ∧ k_ ≠ s_.2.2) s_.2.1 t107) ∧ (w'.heap[gb101]? = some (.cells #[.bool a0_0, .slice A0_1 l0_1.length c0_1] 55 (0, 0))) ∧ (w'.heap[s_.2.2]? = some (.cells #[.bool false, .slice none 0 0] 55 (0, 0))) ∧ (w.heap.size ≤ s_.2.2) ∧ (w.heap.size ≤ s_.2.2) ∧ (gb101 ≠ s_.2.2) ∧ (s_.2.2 ≠ gb101) ∧ (Below w.heap.size w w')) ?_ ?_
    rotate_left
    · intro hCont
      refine two_ (i := 2) (j := 4) (Ni := some 8) (Nj := some 5) (bb 6 7) (bb 6 19) rfl rfl rfl rfl (by kernel_rfl) (by decide) (by decide) (fun K hK => ?_) (fun K hK => ?_)
      · skip
        refine goesq_ Try.func50 #[.int .i64 a1] ?_
        with_reducible refine (cobwebref01_Power.calls k a1 t102 t103 _ A3.out).mono ?_
        rintro e w33 ⟨v104, rfl, ho0, hb⟩
        refine ⟨_, rfl, ?_⟩
        have HO105 := A_ (Kd.V_lower (Kd.V_mono (ok' := fun k_ => k_ ≠ gb101) ho0 (fun k_ hk_ => (Kd.freshB (b_ BK101) k_ hk_))) (below_size (l_ HB)))
        replace BK101 := bb_ BK101 hb
        replace HB := st_ HB hb
        try clear hb ho0
        obtain ⟨Ao34, co34, eo34⟩ := Kd.V_slice HO105.out
        (first | subst eo34 | (injection eo34 with f1_ f2_ f3_; have f4_ := f1_.symm; have f5_ := f3_.symm; clear f1_ f2_ f3_; subst f4_; subst f5_))
        refine hK.out _ _ ⟨(blk_cell BK101.out 0).trans rfl, (blk_cell BK101.out 1).trans rfl⟩ (fun hHeld => ?_)
        clear hK K
        refine normq_ 8 ?_
        refine two_ (i := 3) (j := 4) (Ni := some 9) (Nj := some 5) (bb 6 15) (bb 6 23) rfl rfl rfl rfl (by kernel_rfl) (by decide) (by decide) (fun K hK => ?_) (fun K hK => ?_)
        · skip
          refine goesq_ Try.func44 #[.agg #[.bool a0_0, .slice A0_1 l0_1.length c0_1], .agg #[.bool t102, .slice Ao34 t103.length co34]] ?_
          with_reducible refine (cobwebref01_Mul.calls k a0_0 _ _ l0_1 t102 _ _ t103 t106 t107 _ ?side1 ?side2 ?side3 ?side4 A4.out).mono ?_
          (case side1 => exact c_ (Kd.C_below HR0_1.out HB.out))
          (case side2 => exact HC0_1.out)
          (case side3 => exact c_ (Kd.V_reads' HO105.out).2.2)
          (case side4 => exact (Kd.V_reads' HO105.out).2.1)
          rintro e w35 ⟨v108, rfl, ho0, hb⟩
          refine ⟨_, rfl, ?_⟩
          replace HO105 := A_ (Kd.V_below (v_ HO105.out) hb)
          have HO109 := A_ (Kd.V_lower (Kd.V_mono (ok' := fun k_ => k_ ≠ gb101) ho0 (fun k_ hk_ => (Kd.freshB (b_ BK101) k_ hk_))) (below_size (l_ HB)))
          replace BK101 := bb_ BK101 hb
          replace HB := st_ HB hb
          try clear hb ho0
          refine hK.out _ _ ⟨(blk_cell BK101.out 0).trans rfl, (blk_cell BK101.out 1).trans rfl⟩ (fun hHeld => ?_)
          clear hK K
          refine normq_ 9 ?_
          refine one_ (i := 4) (N := some 5) (bb 6 31) rfl rfl (by kernel_rfl) (by decide) (fun K hK => ?_)
          refine boxsq_ 5 #[.bool false, .slice none 0 0] 55 ?_
          intro gb110 hg w36 hbox hb
          replace HO105 := A_ (Kd.V_below (Kd.V_elderB (v_ HO105.out) gb110 (Nat.le_of_eq hg.symm)) hb)
          replace HO109 := A_ (Kd.V_below (Kd.V_elderB (v_ HO109.out) gb110 (Nat.le_of_eq hg.symm)) hb)
          have BK110 := A_ (hbox)
          have GW110 := ge_ HB hg
          replace HB := st_ HB hb
          have GE110 := GW110
          have NB101_110 := ne_ BK101 hg
          replace BK101 := bb_ BK101 hb
          have NB110_101 := A_ NB101_110.out.symm
          clear hb hbox hg
          refine hK.out _ _ ⟨(blk_cell BK101.out 0).trans rfl, (blk_cell BK101.out 1).trans rfl⟩ (fun hHeld => ?_)
          clear hK K
          refine normq_ 5 ?_
          exact normp_ (hCont (.slice Ao34 t103.length co34, v108, gb110) _ ⟨hHeld, (v_ HO105.out), (v_ HO109.out), (b_ BK101), (b_ BK110), GW110.out, GE110.out, NB101_110.out, NB110_101.out, (l_ HB)⟩)
        · skip
          refine boxsq_ 5 #[.bool false, .slice none 0 0] 55 ?_
          intro gb110 hg w34 hbox hb
          replace HO105 := A_ (Kd.V_below (Kd.V_elderB (v_ HO105.out) gb110 (Nat.le_of_eq hg.symm)) hb)
          have BK110 := A_ (hbox)
          have GW110 := ge_ HB hg
          replace HB := st_ HB hb
          have GE110 := GW110
          have NB101_110 := ne_ BK101 hg
          replace BK101 := bb_ BK101 hb
          have NB110_101 := A_ NB101_110.out.symm
          clear hb hbox hg
          obtain ⟨Ao35, co35, eo35⟩ := Kd.V_slice HO105.out
          (first | subst eo35 | (injection eo35 with f1_ f2_ f3_; have f4_ := f1_.symm; have f5_ := f3_.symm; clear f1_ f2_ f3_; subst f4_; subst f5_))
          refine hK.out _ _ ⟨(blk_cell BK101.out 0).trans rfl, (blk_cell BK101.out 1).trans rfl⟩ (fun hHeld => ?_)
          clear hK K
          refine normq_ 5 ?_
          refine one_ (i := 3) (N := some 9) (bb 6 31) rfl rfl (by kernel_rfl) (by decide) (fun K hK => ?_)
          refine goesq_ Try.func44 #[.agg #[.bool a0_0, .slice A0_1 l0_1.length c0_1], .agg #[.bool t102, .slice Ao35 t103.length co35]] ?_
          with_reducible refine (cobwebref01_Mul.calls k a0_0 _ _ l0_1 t102 _ _ t103 t106 t107 _ ?side1 ?side2 ?side3 ?side4 A4.out).mono ?_
          (case side1 => exact c_ (Kd.C_below HR0_1.out HB.out))
          (case side2 => exact HC0_1.out)
          (case side3 => exact c_ (Kd.V_reads' HO105.out).2.2)
          (case side4 => exact (Kd.V_reads' HO105.out).2.1)
          rintro e w36 ⟨v108, rfl, ho0, hb⟩
          refine ⟨_, rfl, ?_⟩
          replace HO105 := A_ (Kd.V_below (v_ HO105.out) hb)
          have HO109 := A_ (Kd.V_lower (Kd.V_mono (ok' := fun k_ => k_ ≠ gb101 ∧ k_ ≠ gb110) ho0 (fun k_ hk_ => ⟨(Kd.freshB (b_ BK101) k_ hk_), (Kd.freshB (b_ BK110) k_ hk_)⟩)) (below_size (l_ HB)))
          replace BK101 := bb_ BK101 hb
          replace BK110 := bb_ BK110 hb
          replace HB := st_ HB hb
          try clear hb ho0
          refine hK.out _ _ ⟨(blk_cell BK101.out 0).trans rfl, (blk_cell BK101.out 1).trans rfl⟩ (fun hHeld => ?_)
          clear hK K
          refine normq_ 9 ?_
          exact normp_ (hCont (.slice Ao35 t103.length co35, v108, gb110) _ ⟨hHeld, (v_ HO105.out), (v_ HO109.out), (b_ BK101), (b_ BK110), GW110.out, GE110.out, NB101_110.out, NB110_101.out, (l_ HB)⟩)
      · skip
        refine boxsq_ 5 #[.bool false, .slice none 0 0] 55 ?_
        intro gb110 hg w33 hbox hb
        have BK110 := A_ (hbox)
        have GW110 := ge_ HB hg
        replace HB := st_ HB hb
        have GE110 := GW110
        have NB101_110 := ne_ BK101 hg
        replace BK101 := bb_ BK101 hb
        have NB110_101 := A_ NB101_110.out.symm
        clear hb hbox hg
        refine hK.out _ _ ⟨(blk_cell BK101.out 0).trans rfl, (blk_cell BK101.out 1).trans rfl⟩ (fun hHeld => ?_)
        clear hK K
        refine normq_ 5 ?_
        refine one_ (i := 2) (N := some 8) (bb 6 23) rfl rfl (by kernel_rfl) (by decide) (fun K hK => ?_)
        refine goesq_ Try.func50 #[.int .i64 a1] ?_
        with_reducible refine (cobwebref01_Power.calls k a1 t102 t103 _ A3.out).mono ?_
        rintro e w34 ⟨v104, rfl, ho0, hb⟩
        refine ⟨_, rfl, ?_⟩
        have HO105 := A_ (Kd.V_lower (Kd.V_mono (ok' := fun k_ => k_ ≠ gb101 ∧ k_ ≠ gb110) ho0 (fun k_ hk_ => ⟨(Kd.freshB (b_ BK101) k_ hk_), (Kd.freshB (b_ BK110) k_ hk_)⟩)) (below_size (l_ HB)))
        replace BK101 := bb_ BK101 hb
        replace BK110 := bb_ BK110 hb
        replace HB := st_ HB hb
        try clear hb ho0
        obtain ⟨Ao35, co35, eo35⟩ := Kd.V_slice HO105.out
        (first | subst eo35 | (injection eo35 with f1_ f2_ f3_; have f4_ := f1_.symm; have f5_ := f3_.symm; clear f1_ f2_ f3_; subst f4_; subst f5_))
        refine hK.out _ _ ⟨(blk_cell BK101.out 0).trans rfl, (blk_cell BK101.out 1).trans rfl⟩ (fun hHeld => ?_)
        clear hK K
        refine normq_ 8 ?_
        refine one_ (i := 3) (N := some 9) (bb 6 31) rfl rfl (by kernel_rfl) (by decide) (fun K hK => ?_)
        refine goesq_ Try.func44 #[.agg #[.bool a0_0, .slice A0_1 l0_1.length c0_1], .agg #[.bool t102, .slice Ao35 t103.length co35]] ?_
        with_reducible refine (cobwebref01_Mul.calls k a0_0 _ _ l0_1 t102 _ _ t103 t106 t107 _ ?side1 ?side2 ?side3 ?side4 A4.out).mono ?_
        (case side1 => exact c_ (Kd.C_below HR0_1.out HB.out))
        (case side2 => exact HC0_1.out)
        (case side3 => exact c_ (Kd.V_reads' HO105.out).2.2)
        (case side4 => exact (Kd.V_reads' HO105.out).2.1)
        rintro e w36 ⟨v108, rfl, ho0, hb⟩
        refine ⟨_, rfl, ?_⟩
        replace HO105 := A_ (Kd.V_below (v_ HO105.out) hb)
        have HO109 := A_ (Kd.V_lower (Kd.V_mono (ok' := fun k_ => k_ ≠ gb101 ∧ k_ ≠ gb110) ho0 (fun k_ hk_ => ⟨(Kd.freshB (b_ BK101) k_ hk_), (Kd.freshB (b_ BK110) k_ hk_)⟩)) (below_size (l_ HB)))
        replace BK101 := bb_ BK101 hb
        replace BK110 := bb_ BK110 hb
        replace HB := st_ HB hb
        try clear hb ho0
        refine hK.out _ _ ⟨(blk_cell BK101.out 0).trans rfl, (blk_cell BK101.out 1).trans rfl⟩ (fun hHeld => ?_)
        clear hK K
        refine normq_ 9 ?_
        exact normp_ (hCont (.slice Ao35 t103.length co35, v108, gb110) _ ⟨hHeld, (v_ HO105.out), (v_ HO109.out), (b_ BK101), (b_ BK110), GW110.out, GE110.out, NB101_110.out, NB110_101.out, (l_ HB)⟩)
    rintro ⟨v104, v108, gb110⟩ w37 ⟨hS_, h0_, h1_, h2_, h3_, h4_, h5_, h6_, h7_, h8_⟩
    have n0_ : Aside0 (Kd.V (Kd.int .i64) 3 w37 w.heap.size (fun k_ => k_ ≠ gb101 ∧ k_ ≠ gb110) v104 t103) := ⟨h0_⟩
    have n1_ : Aside0 (Kd.V (Kd.int .i64) 3 w37 w.heap.size (fun k_ => k_ ≠ gb101 ∧ k_ ≠ gb110) v108 t107) := ⟨h1_⟩
    have n2_ : Aside0 (w37.heap[gb101]? = some (.cells #[.bool a0_0, .slice A0_1 l0_1.length c0_1] 55 (0, 0))) := ⟨h2_⟩
    have n3_ : Aside0 (w37.heap[gb110]? = some (.cells #[.bool false, .slice none 0 0] 55 (0, 0))) := ⟨h3_⟩
    have n4_ : Aside0 (w.heap.size ≤ gb110) := ⟨h4_⟩
    have n5_ : Aside0 (w.heap.size ≤ gb110) := ⟨h5_⟩
    have n6_ : Aside0 (gb101 ≠ gb110) := ⟨h6_⟩
    have n7_ : Aside0 (gb110 ≠ gb101) := ⟨h7_⟩
    have n8_ : Aside0 (Below w.heap.size w w37) := ⟨h8_⟩
    clear BK101 HB h0_ h1_ h2_ h3_ h4_ h5_ h6_ h7_ h8_
    have HO105 := n0_
    have HO109 := n1_
    have BK101 := n2_
    have BK110 := n3_
    have GW110 := n4_
    have GE110 := n5_
    have NB101_110 := n6_
    have NB110_101 := n7_
    have HB := n8_
    clear n0_ n1_ n2_ n3_ n4_ n5_ n6_ n7_ n8_
    have hHeld : w37.cell? ⟨gb101, 0, none⟩ = some (.bool a0_0) ∧ w37.cell? ⟨gb101, 1, none⟩ = some (.slice A0_1 l0_1.length c0_1) := hS_
    obtain ⟨Ao39, co39, eo39⟩ := Kd.V_slice HO109.out
    (first | subst eo39 | (injection eo39 with f1_ f2_ f3_; have f4_ := f1_.symm; have f5_ := f3_.symm; clear f1_ f2_ f3_; subst f4_; subst f5_))
    refine norm_ (a' := ?_) ?_ ?_
    rotate_left
    · simp only [putAll, Act.put, List.setIfInBounds_toArray, List.set_cons_zero, List.set_cons_succ]
      rfl
    refine one_ (i := 5) (N := none) (bb 6 63) rfl rfl (by kernel_rfl) (by decide) (fun K hK => ?_)
    have hs38 : w37.cell? ⟨gb110, 0, none⟩ = some (.bool false) := (blk_cell BK110.out 0).trans rfl
    have hfs38 := blk_frozen BK110.out 0
    have hns38_0 := NB101_110.out
    have hms38_0 := NB110_101.out
    have hs40 : w37.cell? ⟨gb110, 1, none⟩ = some (.slice none 0 0) := (blk_cell BK110.out 1).trans rfl
    have hfs40 := blk_frozen BK110.out 1
    have hns40_0 := NB101_110.out
    have hms40_0 := NB110_101.out
    refine skip_ (w1 := ?_) (by rfl) rfl ?_ ?_
    rotate_left
    · go_simp
      rfl
    refine hK.out _ _ ⟨((cell_far (p := ⟨gb110, _, none⟩) NB101_110.out _).trans (((cell_far (p := ⟨gb110, _, none⟩) NB101_110.out _).trans (hHeld.1)))), ((cell_far (p := ⟨gb110, _, none⟩) NB101_110.out _).trans (((cell_far (p := ⟨gb110, _, none⟩) NB101_110.out _).trans (hHeld.2))))⟩ (fun hHeld => ?_)
    clear hK K
    refine done_ (by kernel_rfl) ?_
    try go_wp2
    have n0_ : Aside0 (Kd.V (Kd.int .i64) 3 ((w37.setCell ⟨gb110, 0, none⟩ (.bool t106)).setCell ⟨gb110, 1, none⟩ (.slice Ao39 t107.length co39)) w.heap.size (fun k_ => k_ ≠ gb101 ∧ k_ ≠ gb110) v104 t103) := ⟨by (with_reducible repeat (first | apply Kd.V_alloc | apply Kd.V_drewN | apply Kd.V_drew)); exact Kd.V_mono (Kd.V_far (p := ⟨gb110, 1, none⟩) (Kd.V_far (p := ⟨gb110, 0, none⟩) (Kd.V_mono HO105.out (fun k_ hk => (⟨hk, hk.2⟩ : _ ∧ k_ ≠ gb110))) (fun _ hk => hk.2) (.bool t106)) (fun _ hk => hk.2) (.slice Ao39 t107.length co39)) (fun _ hk => ⟨hk.1.1, hk.1.2⟩)⟩
    have n1_ : Aside0 (Kd.V (Kd.int .i64) 3 ((w37.setCell ⟨gb110, 0, none⟩ (.bool t106)).setCell ⟨gb110, 1, none⟩ (.slice Ao39 t107.length co39)) w.heap.size (fun k_ => k_ ≠ gb101 ∧ k_ ≠ gb110) (.slice Ao39 t107.length co39) t107) := ⟨by (with_reducible repeat (first | apply Kd.V_alloc | apply Kd.V_drewN | apply Kd.V_drew)); exact Kd.V_mono (Kd.V_far (p := ⟨gb110, 1, none⟩) (Kd.V_far (p := ⟨gb110, 0, none⟩) (Kd.V_mono HO109.out (fun k_ hk => (⟨hk, hk.2⟩ : _ ∧ k_ ≠ gb110))) (fun _ hk => hk.2) (.bool t106)) (fun _ hk => hk.2) (.slice Ao39 t107.length co39)) (fun _ hk => ⟨hk.1.1, hk.1.2⟩)⟩
    have n2_ : Aside0 (((w37.setCell ⟨gb110, 0, none⟩ (.bool t106)).setCell ⟨gb110, 1, none⟩ (.slice Ao39 t107.length co39)).heap[gb101]? = some (.cells #[.bool a0_0, .slice A0_1 l0_1.length c0_1] 55 (0, 0))) := ⟨by (with_reducible repeat (first | refine blk_drewN ?_ _ | refine blk_drew ?_ | refine blk_alloc ?_ _)); refine blk_far ?_ NB101_110.out _; (with_reducible repeat (first | refine blk_drewN ?_ _ | refine blk_drew ?_ | refine blk_alloc ?_ _)); refine blk_far ?_ NB101_110.out _; (with_reducible repeat (first | refine blk_drewN ?_ _ | refine blk_drew ?_ | refine blk_alloc ?_ _)); exact BK101.out⟩
    have n3_ : Aside0 (((w37.setCell ⟨gb110, 0, none⟩ (.bool t106)).setCell ⟨gb110, 1, none⟩ (.slice Ao39 t107.length co39)).heap[gb110]? = some (.cells #[.bool t106, .slice Ao39 t107.length co39] 55 (0, 0))) := ⟨by (with_reducible repeat (first | refine blk_drewN ?_ _ | refine blk_drew ?_ | refine blk_alloc ?_ _)); refine blk_put (cs := #[.bool t106, .slice none 0 0]) ?_ 1 _ rfl; (with_reducible repeat (first | refine blk_drewN ?_ _ | refine blk_drew ?_ | refine blk_alloc ?_ _)); refine blk_put (cs := #[.bool false, .slice none 0 0]) ?_ 0 _ rfl; (with_reducible repeat (first | refine blk_drewN ?_ _ | refine blk_drew ?_ | refine blk_alloc ?_ _)); exact BK110.out⟩
    have n4_ : Aside0 (Below w.heap.size w ((w37.setCell ⟨gb110, 0, none⟩ (.bool t106)).setCell ⟨gb110, 1, none⟩ (.slice Ao39 t107.length co39))) := ⟨l_ HB⟩
    generalize ((w37.setCell ⟨gb110, 0, none⟩ (.bool t106)).setCell ⟨gb110, 1, none⟩ (.slice Ao39 t107.length co39)) = w41 at n0_ n1_ n2_ n3_ n4_ ⊢
    have HO105 := n0_
    have HO109 := n1_
    have BK101 := n2_
    have BK110 := n3_
    have HB := n4_
    clear n0_ n1_ n2_ n3_ n4_
    replace HO105 := A_ (Kd.V_drew HO105.out)
    replace HO109 := A_ (Kd.V_drew HO109.out)
    replace BK101 := A_ (blk_drew BK101.out)
    replace BK110 := A_ (blk_drew BK110.out)
    replace HB := A_ (below_drew1 HB.out)
    refine start_ (n := 12) (S := fun w' => w'.cell? ⟨gb110, 0, none⟩ = some (.bool t106) ∧ w'.cell? ⟨gb110, 1, none⟩ = some (.slice Ao39 t107.length co39)) (ds := []) (Array.replicate 12 false) (by kernel_rfl) rfl rfl ⟨(blk_cell BK110.out 0).trans rfl, (blk_cell BK110.out 1).trans rfl⟩ (fun hHeld => ?_); refine with_tabW cobwebref03_near.tab2 cobwebref03_near.bits2 (fun HT_ HW_ => ?_)
    generalize w41.drew = w42 at HO105 HO109 BK101 BK110 HB hHeld ⊢
    refine takeq_ 0 10 HT_ HW_ hHeld ?_
    refine oneq_ 1 (some 11) HT_ (fun K hK => ?_)
    refine goesq_ Try.func50 #[.int .i64 27] ?_
    with_reducible refine (cobwebref01_Power.calls k 27 t111 t112 _ A5.out).mono ?_
    rintro e w43 ⟨v113, rfl, ho0, hb⟩
    refine ⟨_, rfl, ?_⟩
    replace HO105 := A_ (Kd.V_below (v_ HO105.out) hb)
    replace HO109 := A_ (Kd.V_below (v_ HO109.out) hb)
    have HO114 := A_ (Kd.V_lower (Kd.V_mono (ok' := fun k_ => k_ ≠ gb101 ∧ k_ ≠ gb110) ho0 (fun k_ hk_ => ⟨(Kd.freshB (b_ BK101) k_ hk_), (Kd.freshB (b_ BK110) k_ hk_)⟩)) (below_size (l_ HB)))
    replace BK101 := bb_ BK101 hb
    replace BK110 := bb_ BK110 hb
    replace HB := st_ HB hb
    try clear hb ho0
    obtain ⟨Ao44, co44, eo44⟩ := Kd.V_slice HO114.out
    (first | subst eo44 | (injection eo44 with f1_ f2_ f3_; have f4_ := f1_.symm; have f5_ := f3_.symm; clear f1_ f2_ f3_; subst f4_; subst f5_))
    refine hK.out _ _ ⟨(blk_cell BK110.out 0).trans rfl, (blk_cell BK110.out 1).trans rfl⟩ (fun hHeld => ?_)
    clear hK K
    refine normq_ 11 ?_
    refine oneq_ 2 (some 12) HT_ (fun K hK => ?_)
    refine goesq_ Try.func52 #[.agg #[.bool t111, .slice Ao44 t112.length co44]] ?_
    with_reducible refine (cobwebref01_Neg.calls k t111 (fun k_ => (k_ ≠ gb101 ∧ k_ ≠ gb110)) _ _ t112 t115 t116 _ ?side1 A6.out).mono ?_
    (case side1 => exact HO114.out)
    rintro e w45 ⟨v117, rfl, ho0, hb⟩
    refine ⟨_, rfl, ?_⟩
    replace HO105 := A_ (Kd.V_below (v_ HO105.out) hb)
    replace HO109 := A_ (Kd.V_below (v_ HO109.out) hb)
    replace HO114 := A_ (Kd.V_below (v_ HO114.out) hb)
    have HO118 := A_ (Kd.V_lower (Kd.V_mono (ok' := fun k_ => k_ ≠ gb101 ∧ k_ ≠ gb110) ho0 (fun k_ hk_ => ⟨Or.elim hk_ (fun hs_ => hs_.1) (fun hn_ => (Kd.freshB (b_ BK101) k_ hn_)), Or.elim hk_ (fun hs_ => hs_.2) (fun hn_ => (Kd.freshB (b_ BK110) k_ hn_))⟩)) (below_size (l_ HB)))
    replace BK101 := bb_ BK101 hb
    replace BK110 := bb_ BK110 hb
    replace HB := st_ HB hb
    try clear hb ho0
    obtain ⟨Ao46, co46, eo46⟩ := Kd.V_slice HO118.out
    (first | subst eo46 | (injection eo46 with f1_ f2_ f3_; have f4_ := f1_.symm; have f5_ := f3_.symm; clear f1_ f2_ f3_; subst f4_; subst f5_))
    refine hK.out _ _ ⟨(blk_cell BK110.out 0).trans rfl, (blk_cell BK110.out 1).trans rfl⟩ (fun hHeld => ?_)
    clear hK K
    refine normq_ 12 ?_
    refine oneq_ 3 (some 13) HT_ (fun K hK => ?_)
    refine goesq_ Try.func51 #[.agg #[.bool t106, .slice Ao39 t107.length co39], .agg #[.bool t115, .slice Ao46 t116.length co46]] ?_
    with_reducible refine (cobwebref01_Cmp.calls k t106 _ _ t107 t115 _ _ t116 t119 _ ?side1 ?side2 ?side3 ?side4 A7.out).mono ?_
    (case side1 => exact c_ (Kd.V_reads' HO109.out).2.2)
    (case side2 => exact (Kd.V_reads' HO109.out).2.1)
    (case side3 => exact c_ (Kd.V_reads' HO118.out).2.2)
    (case side4 => exact (Kd.V_reads' HO118.out).2.1)
    rintro e w47 ⟨rfl, hb⟩
    refine ⟨_, rfl, ?_⟩
    replace HO105 := A_ (Kd.V_below (v_ HO105.out) hb)
    replace HO109 := A_ (Kd.V_below (v_ HO109.out) hb)
    replace HO114 := A_ (Kd.V_below (v_ HO114.out) hb)
    replace HO118 := A_ (Kd.V_below (v_ HO118.out) hb)
    replace BK101 := bb_ BK101 hb
    replace BK110 := bb_ BK110 hb
    replace HB := st_ HB hb
    try clear hb
    refine hK.out _ _ ⟨(blk_cell BK110.out 0).trans rfl, (blk_cell BK110.out 1).trans rfl⟩ (fun hHeld => ?_)
    clear hK K
    refine normq_ 13 ?_
    refine pureq_ 4 14 HT_ ?_
    refine pureq_ 5 15 HT_ ?_
    refine puren_ 6 16 HT_ ?_
    refine puren_ 7 17 HT_ ?_
    refine puren_ 8 18 HT_ ?_
    refine puren_ 9 19 HT_ ?_
    refine pureq_ 10 20 HT_ ?_
    refine pureq_ 11 4 HT_ ?_
    refine done_ (done_of HT_.out (by kernel_rfl)) ?_
    try go_wp2
    go_ret
    exact ⟨by first | rfl | (simp [errW_none, errW_some] <;> rfl) | (simp [*, errW_none, errW_some] <;> rfl), l_ HB⟩

end Go.Proofs.Ytglkjeeiiflpjaa.F
