-- PRINTED by print.py (a twelfth state) out of the translation. Not trusted: Lean checks it.
import Derived.Test.YtglkjeeiiflpjaaF0
import Derived.Test.YtglkjeeiiflpjaaB3
import Derived.Test.YtglkjeeiiflpjaaF28
import Derived.Test.YtglkjeeiiflpjaaF49
namespace Go.Proofs.Ytglkjeeiiflpjaa.F
open Go.RowKit Go.Proofs.YtglkjeeiiflpjaaW.PrintWords Go.Proofs.YtglkjeeiiflpjaaW.PrintLast Go.Proofs.YtglkjeeiiflpjaaW.PrintMore
attribute [local go_sem] max2_int min2_int max_two min_two max_three min_three max_four min_four   -- for this text's walks alone
set_option linter.unusedVariables false
set_option linter.unusedSimpArgs false

/-! ### cobwebref06_within: function 32 -/
def cobwebref06_within.f (k : Nat) (a0_0 : Bool) (l0_1 : List Int) (a0_2 : Bool) (l0_3 : List Int) (a1 : Int) (a2 : Int) (a3 : Int) : Option (Bool) := (cobwebref06_num.f k a1).bind fun bt102 => ((cobwebref06_num.f k 1).bind fun bt106 => ((cobwebref02_Cmp.f k bt102.1 bt102.2 bt106.1 bt106.2 a0_0 l0_1 a0_2 l0_3).bind fun t110 => ((cobwebref06_num.f k a2).bind fun bt111 => ((cobwebref06_num.f k 1).bind fun bt115 => ((cobwebref02_Cmp.f k a0_0 l0_1 a0_2 l0_3 bt111.1 bt111.2 bt115.1 bt115.2).bind fun t119 => (if t110 < 0 then (if t119 < 0 then (some true) else (if t119 = 0 then (some (a3 == 1)) else (some false))) else (if t110 = 0 then (if a3 = 2 then (some false) else (if t119 < 0 then (some true) else (if t119 = 0 then (some (a3 == 1)) else (some false)))) else (some false))))))))
theorem cobwebref06_within.mono : ∀ a0 a1 a2 a3 a4 a5 a6 k, LeO (cobwebref06_within.f k a0 a1 a2 a3 a4 a5 a6) (cobwebref06_within.f (k + 1) a0 a1 a2 a3 a4 a5 a6) := by
  intro a0 a1 a2 a3 a4 a5 a6 k
  unfold cobwebref06_within.f
  repeat' first
      | (with_reducible exact cobwebref02_Cmp.mono _ _ _ _ _ _ _ _ _)
      | (with_reducible exact cobwebref06_num.mono _ _)
      | (with_reducible exact LeO.refl _)
      | (with_reducible exact LeO.none _)
      | (with_reducible refine LeO.ite ?_ ?_)
      | (with_reducible refine LeO.bind ?_ (fun _ => ?_))
      | exact cobwebref02_Cmp.mono _ _ _ _ _ _ _ _ _
      | exact cobwebref06_num.mono _ _
      | exact LeO.none _
      | refine LeO.ite ?_ ?_
      | refine LeO.bind ?_ (fun _ => ?_)
set_option maxHeartbeats 8000000 in
set_option maxRecDepth 100000 in
theorem cobwebref06_within.calls (k : Nat) (a0_0 : Bool) (A0_1 : Option Addr) (c0_1 : Nat) (l0_1 : List Int) (a0_2 : Bool) (A0_3 : Option Addr) (c0_3 : Nat) (l0_3 : List Int) (a1 : Int) (a2 : Int) (a3 : Int) (r : Bool) (w : World) (hr0_1 : Kd.C (Kd.int .i64) w A0_1 l0_1.length l0_1) (hc0_1 : l0_1.length ≤ c0_1) (hr0_3 : Kd.C (Kd.int .i64) w A0_3 l0_3.length l0_3) (hc0_3 : l0_3.length ≤ c0_3) (h : cobwebref06_within.f k a0_0 l0_1 a0_2 l0_3 a1 a2 a3 = some r) :
    Calls Try.prog 32 #[.agg #[.bool a0_0, .slice A0_1 l0_1.length c0_1, .bool a0_2, .slice A0_3 l0_3.length c0_3], .int .i64 a1, .int .i64 a2, .int .i64 a3] w fun e w' => e = .returned (.bool r) ∧ Below w.heap.size w w' := by
  have hu58 := Try.underlying58
  have HR0_1 := A_ hr0_1
  have HC0_1 := A_ hc0_1
  clear hr0_1 hc0_1
  have HR0_3 := A_ hr0_3
  have HC0_3 := A_ hc0_3
  clear hr0_3 hc0_3
  have HB := A_ (Below.refl w.heap.size w)
  have H : ((cobwebref06_num.f k a1).bind fun bt102 => ((cobwebref06_num.f k 1).bind fun bt106 => ((cobwebref02_Cmp.f k bt102.1 bt102.2 bt106.1 bt106.2 a0_0 l0_1 a0_2 l0_3).bind fun t110 => ((cobwebref06_num.f k a2).bind fun bt111 => ((cobwebref06_num.f k 1).bind fun bt115 => ((cobwebref02_Cmp.f k a0_0 l0_1 a0_2 l0_3 bt111.1 bt111.2 bt115.1 bt115.2).bind fun t119 => (if t110 < 0 then (if t119 < 0 then (some true) else (if t119 = 0 then (some (a3 == 1)) else (some false))) else (if t110 = 0 then (if a3 = 2 then (some false) else (if t119 < 0 then (some true) else (if t119 = 0 then (some (a3 == 1)) else (some false)))) else (some false))))))))) = some r := h
  clear h
  replace H := Option.bind_eq_some_iff.mp H
  obtain ⟨⟨t102, t103⟩, A50, H⟩ := H
  replace H : ((cobwebref06_num.f k 1).bind fun bt106 => ((cobwebref02_Cmp.f k t102 t103 bt106.1 bt106.2 a0_0 l0_1 a0_2 l0_3).bind fun t110 => ((cobwebref06_num.f k a2).bind fun bt111 => ((cobwebref06_num.f k 1).bind fun bt115 => ((cobwebref02_Cmp.f k a0_0 l0_1 a0_2 l0_3 bt111.1 bt111.2 bt115.1 bt115.2).bind fun t119 => (if t110 < 0 then (if t119 < 0 then (some true) else (if t119 = 0 then (some (a3 == 1)) else (some false))) else (if t110 = 0 then (if a3 = 2 then (some false) else (if t119 < 0 then (some true) else (if t119 = 0 then (some (a3 == 1)) else (some false)))) else (some false)))))))) = some r := H
  have A5 := A_ A50
  clear A50
  replace H := Option.bind_eq_some_iff.mp H
  obtain ⟨⟨t106, t107⟩, A60, H⟩ := H
  replace H : ((cobwebref02_Cmp.f k t102 t103 t106 t107 a0_0 l0_1 a0_2 l0_3).bind fun t110 => ((cobwebref06_num.f k a2).bind fun bt111 => ((cobwebref06_num.f k 1).bind fun bt115 => ((cobwebref02_Cmp.f k a0_0 l0_1 a0_2 l0_3 bt111.1 bt111.2 bt115.1 bt115.2).bind fun t119 => (if t110 < 0 then (if t119 < 0 then (some true) else (if t119 = 0 then (some (a3 == 1)) else (some false))) else (if t110 = 0 then (if a3 = 2 then (some false) else (if t119 < 0 then (some true) else (if t119 = 0 then (some (a3 == 1)) else (some false)))) else (some false))))))) = some r := H
  have A6 := A_ A60
  clear A60
  replace H := Option.bind_eq_some_iff.mp H
  obtain ⟨t110, A70, H⟩ := H
  replace H : ((cobwebref06_num.f k a2).bind fun bt111 => ((cobwebref06_num.f k 1).bind fun bt115 => ((cobwebref02_Cmp.f k a0_0 l0_1 a0_2 l0_3 bt111.1 bt111.2 bt115.1 bt115.2).bind fun t119 => (if t110 < 0 then (if t119 < 0 then (some true) else (if t119 = 0 then (some (a3 == 1)) else (some false))) else (if t110 = 0 then (if a3 = 2 then (some false) else (if t119 < 0 then (some true) else (if t119 = 0 then (some (a3 == 1)) else (some false)))) else (some false)))))) = some r := H
  have A7 := A_ A70
  clear A70
  replace H := Option.bind_eq_some_iff.mp H
  obtain ⟨⟨t111, t112⟩, A80, H⟩ := H
  replace H : ((cobwebref06_num.f k 1).bind fun bt115 => ((cobwebref02_Cmp.f k a0_0 l0_1 a0_2 l0_3 t111 t112 bt115.1 bt115.2).bind fun t119 => (if t110 < 0 then (if t119 < 0 then (some true) else (if t119 = 0 then (some (a3 == 1)) else (some false))) else (if t110 = 0 then (if a3 = 2 then (some false) else (if t119 < 0 then (some true) else (if t119 = 0 then (some (a3 == 1)) else (some false)))) else (some false))))) = some r := H
  have A8 := A_ A80
  clear A80
  replace H := Option.bind_eq_some_iff.mp H
  obtain ⟨⟨t115, t116⟩, A90, H⟩ := H
  replace H : ((cobwebref02_Cmp.f k a0_0 l0_1 a0_2 l0_3 t111 t112 t115 t116).bind fun t119 => (if t110 < 0 then (if t119 < 0 then (some true) else (if t119 = 0 then (some (a3 == 1)) else (some false))) else (if t110 = 0 then (if a3 = 2 then (some false) else (if t119 < 0 then (some true) else (if t119 = 0 then (some (a3 == 1)) else (some false)))) else (some false)))) = some r := H
  have A9 := A_ A90
  clear A90
  replace H := Option.bind_eq_some_iff.mp H
  obtain ⟨t119, A100, H⟩ := H
  replace H : (if t110 < 0 then (if t119 < 0 then (some true) else (if t119 = 0 then (some (a3 == 1)) else (some false))) else (if t110 = 0 then (if a3 = 2 then (some false) else (if t119 < 0 then (some true) else (if t119 = 0 then (some (a3 == 1)) else (some false)))) else (some false))) = some r := H
  have A10 := A_ A100
  clear A100
  replace H := A_ H
  go_enter Try.func32, Try.ntmps32
  try go_wp2_with (first | ((with_reducible refine gate_dst (N := 4) rfl ?_); refine boxeq_ 4 #[.bool a0_0, .slice A0_1 l0_1.length c0_1, .bool a0_2, .slice A0_3 l0_3.length c0_3] 58 ?_; intro gb101 hg w13 hbox hb; have BK101 := A_ (hbox); have GW101 := ge_ HB hg; replace HB := st_ HB hb; have GE101 := GW101; clear hb hbox hg))
  replace BK101 := A_ (blk_drew BK101.out)
  replace HB := A_ (below_drew1 HB.out)
  refine start_ (n := 7) (S := fun w' => w'.cell? ⟨gb101, 0, none⟩ = some (.bool a0_0) ∧ w'.cell? ⟨gb101, 1, none⟩ = some (.slice A0_1 l0_1.length c0_1) ∧ w'.cell? ⟨gb101, 2, none⟩ = some (.bool a0_2) ∧ w'.cell? ⟨gb101, 3, none⟩ = some (.slice A0_3 l0_3.length c0_3)) (ds := []) (Array.replicate 7 false) (by kernel_rfl) rfl rfl ⟨(blk_cell BK101.out 0).trans rfl, (blk_cell BK101.out 1).trans rfl, (blk_cell BK101.out 2).trans rfl, (blk_cell BK101.out 3).trans rfl⟩ (fun hHeld => ?_)
  generalize w13.drew = w14 at BK101 HB hHeld ⊢
  refine pure_ (i := 0) (N := some 11) (v := ?_) (a' := ?_) (bb 7 1) rfl rfl (by kernel_rfl) (fun _ _ _ h => h) (Or.inl ⟨by rfl, ?_⟩) ?_ ?_
  rotate_left
  · intro w'
    go_simp
    with_reducible rfl
  rotate_left
  · simp only [Act.put, List.setIfInBounds_toArray, List.set_cons_zero, List.set_cons_succ, i64_w, i32_w]
    rfl
  refine take_ (i := 4) (N := some 15) (v := ?_) (a' := ?_) (bb 7 17) rfl rfl (by kernel_rfl) (fun _ _ _ h => h) (Or.inl ⟨by rfl, ?_⟩) hHeld ?_ ?_
  rotate_left
  · rintro w' ⟨s0, s1, s2, s3⟩
    go_simp
    with_reducible rfl
  rotate_left
  · simp only [Act.put, List.setIfInBounds_toArray, List.set_cons_zero, List.set_cons_succ, i64_w, i32_w]
    rfl
  refine one_ (i := 1) (N := some 12) (bb 7 19) rfl rfl (by kernel_rfl) (by decide) (fun K hK => ?_)
  refine goesq_ Try.func28 #[.int .i64 a1] ?_
  with_reducible refine (cobwebref06_num.calls k a1 t102 t103 _ A5.out).mono ?_
  rintro e w15 ⟨v104, rfl, ho0, hb⟩
  refine ⟨_, rfl, ?_⟩
  have HO105 := A_ (Kd.R_lower ho0 (below_size (l_ HB)))
  replace BK101 := bb_ BK101 hb
  replace HB := st_ HB hb
  try clear hb ho0
  refine hK.out _ _ ⟨(blk_cell BK101.out 0).trans rfl, (blk_cell BK101.out 1).trans rfl, (blk_cell BK101.out 2).trans rfl, (blk_cell BK101.out 3).trans rfl⟩ (fun hHeld => ?_)
  clear hK K
  refine normq_ 12 ?_
  refine one_ (i := 2) (N := some 13) (bb 7 23) rfl rfl (by kernel_rfl) (by decide) (fun K hK => ?_)
  refine goesq_ Try.func28 #[.int .i64 1] ?_
  with_reducible refine (cobwebref06_num.calls k 1 t106 t107 _ A6.out).mono ?_
  rintro e w16 ⟨v108, rfl, ho0, hb⟩
  refine ⟨_, rfl, ?_⟩
  have HO109 := A_ (Kd.R_lower (Kd.R_new' ho0 (Kd.R_lt (r_ HO105.out))) (below_size (l_ HB)))
  replace HO105 := A_ (Kd.R_elder' (r_ HO105.out) (Kd.R_base ho0) hb)
  replace BK101 := bb_ BK101 hb
  replace HB := st_ HB hb
  try clear hb ho0
  obtain ⟨Ao17, co17, eo17⟩ := Kd.R_slice HO109.out
  (first | subst eo17 | (injection eo17 with f1_ f2_ f3_; have f4_ := f1_.symm; have f5_ := f3_.symm; clear f1_ f2_ f3_; subst f4_; subst f5_))
  obtain ⟨Ao18, co18, eo18⟩ := Kd.R_slice HO105.out
  (first | subst eo18 | (injection eo18 with f1_ f2_ f3_; have f4_ := f1_.symm; have f5_ := f3_.symm; clear f1_ f2_ f3_; subst f4_; subst f5_))
  refine hK.out _ _ ⟨(blk_cell BK101.out 0).trans rfl, (blk_cell BK101.out 1).trans rfl, (blk_cell BK101.out 2).trans rfl, (blk_cell BK101.out 3).trans rfl⟩ (fun hHeld => ?_)
  clear hK K
  refine normq_ 13 ?_
  refine pure_ (i := 3) (N := some 14) (v := ?_) (a' := ?_) (bb 7 31) rfl rfl (by kernel_rfl) (fun _ _ _ h => h) (Or.inl ⟨by rfl, ?_⟩) ?_ ?_
  rotate_left
  · intro w'
    go_simp
    with_reducible rfl
  rotate_left
  · simp only [Act.put, List.setIfInBounds_toArray, List.set_cons_zero, List.set_cons_succ, i64_w, i32_w]
    rfl
  refine one_ (i := 5) (N := some 16) (bb 7 63) rfl rfl (by kernel_rfl) (by decide) (fun K hK => ?_)
  refine goesq_ Try.func49 #[.agg #[.bool t102, .slice Ao18 t103.length co18, .bool t106, .slice Ao17 t107.length co17], .agg #[.bool a0_0, .slice A0_1 l0_1.length c0_1, .bool a0_2, .slice A0_3 l0_3.length c0_3]] ?_
  with_reducible refine (cobwebref02_Cmp.calls k t102 _ _ t103 t106 _ _ t107 a0_0 _ _ l0_1 a0_2 _ _ l0_3 t110 _ ?side1 ?side2 ?side3 ?side4 ?side5 ?side6 ?side7 ?side8 A7.out).mono ?_
  (case side1 => exact c_ (Kd.R_reads' HO105.out).2.2)
  (case side2 => exact (Kd.R_reads' HO105.out).2.1)
  (case side3 => exact c_ (Kd.R_reads' HO109.out).2.2)
  (case side4 => exact (Kd.R_reads' HO109.out).2.1)
  (case side5 => exact c_ (Kd.C_below HR0_1.out HB.out))
  (case side6 => exact HC0_1.out)
  (case side7 => exact c_ (Kd.C_below HR0_3.out HB.out))
  (case side8 => exact HC0_3.out)
  rintro e w19 ⟨rfl, hb⟩
  refine ⟨_, rfl, ?_⟩
  replace HO105 := A_ (Kd.R_below (r_ HO105.out) hb)
  replace HO109 := A_ (Kd.R_below (r_ HO109.out) hb)
  replace BK101 := bb_ BK101 hb
  replace HB := st_ HB hb
  try clear hb
  refine hK.out _ _ ⟨(blk_cell BK101.out 0).trans rfl, (blk_cell BK101.out 1).trans rfl, (blk_cell BK101.out 2).trans rfl, (blk_cell BK101.out 3).trans rfl⟩ (fun hHeld => ?_)
  clear hK K
  refine normq_ 16 ?_
  refine pure_ (i := 6) (N := some 9) (v := ?_) (a' := ?_) (bb 7 127) rfl rfl (by kernel_rfl) (fun _ _ _ h => h) (Or.inl ⟨by rfl, ?_⟩) ?_ ?_
  rotate_left
  · intro w'
    go_simp
    with_reducible rfl
  rotate_left
  · simp only [Act.put, List.setIfInBounds_toArray, List.set_cons_zero, List.set_cons_succ, i64_w, i32_w]
    rfl
  refine done_ (by kernel_rfl) ?_
  try go_wp2
  replace HO105 := A_ (Kd.R_drew HO105.out)
  replace HO109 := A_ (Kd.R_drew HO109.out)
  replace BK101 := A_ (blk_drew BK101.out)
  replace HB := A_ (below_drew1 HB.out)
  refine start_ (n := 7) (S := fun w' => w'.cell? ⟨gb101, 0, none⟩ = some (.bool a0_0) ∧ w'.cell? ⟨gb101, 1, none⟩ = some (.slice A0_1 l0_1.length c0_1) ∧ w'.cell? ⟨gb101, 2, none⟩ = some (.bool a0_2) ∧ w'.cell? ⟨gb101, 3, none⟩ = some (.slice A0_3 l0_3.length c0_3)) (ds := []) (Array.replicate 7 false) (by kernel_rfl) rfl rfl ⟨(blk_cell BK101.out 0).trans rfl, (blk_cell BK101.out 1).trans rfl, (blk_cell BK101.out 2).trans rfl, (blk_cell BK101.out 3).trans rfl⟩ (fun hHeld => ?_)
  generalize w19.drew = w20 at HO105 HO109 BK101 HB hHeld ⊢
  refine pure_ (i := 1) (N := some 18) (v := ?_) (a' := ?_) (bb 7 2) rfl rfl (by kernel_rfl) (fun _ _ _ h => h) (Or.inl ⟨by rfl, ?_⟩) ?_ ?_
  rotate_left
  · intro w'
    go_simp
    with_reducible rfl
  rotate_left
  · simp only [Act.put, List.setIfInBounds_toArray, List.set_cons_zero, List.set_cons_succ, i64_w, i32_w]
    rfl
  refine take_ (i := 0) (N := some 17) (v := ?_) (a' := ?_) (bb 7 3) rfl rfl (by kernel_rfl) (fun _ _ _ h => h) (Or.inl ⟨by rfl, ?_⟩) hHeld ?_ ?_
  rotate_left
  · rintro w' ⟨s0, s1, s2, s3⟩
    go_simp
    with_reducible rfl
  rotate_left
  · simp only [Act.put, List.setIfInBounds_toArray, List.set_cons_zero, List.set_cons_succ, i64_w, i32_w]
    rfl
  refine one_ (i := 2) (N := some 19) (bb 7 7) rfl rfl (by kernel_rfl) (by decide) (fun K hK => ?_)
  refine goesq_ Try.func28 #[.int .i64 a2] ?_
  with_reducible refine (cobwebref06_num.calls k a2 t111 t112 _ A8.out).mono ?_
  rintro e w21 ⟨v113, rfl, ho0, hb⟩
  refine ⟨_, rfl, ?_⟩
  have HO114 := A_ (Kd.R_lower (Kd.R_new' (Kd.R_new' ho0 (Kd.R_lt (r_ HO105.out))) (Kd.R_lt (r_ HO109.out))) (below_size (l_ HB)))
  replace HO105 := A_ (Kd.R_elder' (r_ HO105.out) (Kd.R_base ho0) hb)
  replace HO109 := A_ (Kd.R_elder' (r_ HO109.out) (Kd.R_base ho0) hb)
  replace BK101 := bb_ BK101 hb
  replace HB := st_ HB hb
  try clear hb ho0
  refine hK.out _ _ ⟨(blk_cell BK101.out 0).trans rfl, (blk_cell BK101.out 1).trans rfl, (blk_cell BK101.out 2).trans rfl, (blk_cell BK101.out 3).trans rfl⟩ (fun hHeld => ?_)
  clear hK K
  refine normq_ 19 ?_
  refine one_ (i := 3) (N := some 20) (bb 7 15) rfl rfl (by kernel_rfl) (by decide) (fun K hK => ?_)
  refine goesq_ Try.func28 #[.int .i64 1] ?_
  with_reducible refine (cobwebref06_num.calls k 1 t115 t116 _ A9.out).mono ?_
  rintro e w22 ⟨v117, rfl, ho0, hb⟩
  refine ⟨_, rfl, ?_⟩
  have HO118 := A_ (Kd.R_lower (Kd.R_new' (Kd.R_new' (Kd.R_new' ho0 (Kd.R_lt (r_ HO105.out))) (Kd.R_lt (r_ HO109.out))) (Kd.R_lt (r_ HO114.out))) (below_size (l_ HB)))
  replace HO105 := A_ (Kd.R_elder' (r_ HO105.out) (Kd.R_base ho0) hb)
  replace HO109 := A_ (Kd.R_elder' (r_ HO109.out) (Kd.R_base ho0) hb)
  replace HO114 := A_ (Kd.R_elder' (r_ HO114.out) (Kd.R_base ho0) hb)
  replace BK101 := bb_ BK101 hb
  replace HB := st_ HB hb
  try clear hb ho0
  obtain ⟨Ao23, co23, eo23⟩ := Kd.R_slice HO118.out
  (first | subst eo23 | (injection eo23 with f1_ f2_ f3_; have f4_ := f1_.symm; have f5_ := f3_.symm; clear f1_ f2_ f3_; subst f4_; subst f5_))
  obtain ⟨Ao24, co24, eo24⟩ := Kd.R_slice HO114.out
  (first | subst eo24 | (injection eo24 with f1_ f2_ f3_; have f4_ := f1_.symm; have f5_ := f3_.symm; clear f1_ f2_ f3_; subst f4_; subst f5_))
  refine hK.out _ _ ⟨(blk_cell BK101.out 0).trans rfl, (blk_cell BK101.out 1).trans rfl, (blk_cell BK101.out 2).trans rfl, (blk_cell BK101.out 3).trans rfl⟩ (fun hHeld => ?_)
  clear hK K
  refine normq_ 20 ?_
  refine pure_ (i := 4) (N := some 21) (v := ?_) (a' := ?_) (bb 7 31) rfl rfl (by kernel_rfl) (fun _ _ _ h => h) (Or.inl ⟨by rfl, ?_⟩) ?_ ?_
  rotate_left
  · intro w'
    go_simp
    with_reducible rfl
  rotate_left
  · simp only [Act.put, List.setIfInBounds_toArray, List.set_cons_zero, List.set_cons_succ, i64_w, i32_w]
    rfl
  refine one_ (i := 5) (N := some 22) (bb 7 63) rfl rfl (by kernel_rfl) (by decide) (fun K hK => ?_)
  refine goesq_ Try.func49 #[.agg #[.bool a0_0, .slice A0_1 l0_1.length c0_1, .bool a0_2, .slice A0_3 l0_3.length c0_3], .agg #[.bool t111, .slice Ao24 t112.length co24, .bool t115, .slice Ao23 t116.length co23]] ?_
  with_reducible refine (cobwebref02_Cmp.calls k a0_0 _ _ l0_1 a0_2 _ _ l0_3 t111 _ _ t112 t115 _ _ t116 t119 _ ?side1 ?side2 ?side3 ?side4 ?side5 ?side6 ?side7 ?side8 A10.out).mono ?_
  (case side1 => exact c_ (Kd.C_below HR0_1.out HB.out))
  (case side2 => exact HC0_1.out)
  (case side3 => exact c_ (Kd.C_below HR0_3.out HB.out))
  (case side4 => exact HC0_3.out)
  (case side5 => exact c_ (Kd.R_reads' HO114.out).2.2)
  (case side6 => exact (Kd.R_reads' HO114.out).2.1)
  (case side7 => exact c_ (Kd.R_reads' HO118.out).2.2)
  (case side8 => exact (Kd.R_reads' HO118.out).2.1)
  rintro e w25 ⟨rfl, hb⟩
  refine ⟨_, rfl, ?_⟩
  replace HO105 := A_ (Kd.R_below (r_ HO105.out) hb)
  replace HO109 := A_ (Kd.R_below (r_ HO109.out) hb)
  replace HO114 := A_ (Kd.R_below (r_ HO114.out) hb)
  replace HO118 := A_ (Kd.R_below (r_ HO118.out) hb)
  replace BK101 := bb_ BK101 hb
  replace HB := st_ HB hb
  try clear hb
  refine hK.out _ _ ⟨(blk_cell BK101.out 0).trans rfl, (blk_cell BK101.out 1).trans rfl, (blk_cell BK101.out 2).trans rfl, (blk_cell BK101.out 3).trans rfl⟩ (fun hHeld => ?_)
  clear hK K
  refine normq_ 22 ?_
  refine pure_ (i := 6) (N := some 10) (v := ?_) (a' := ?_) (bb 7 127) rfl rfl (by kernel_rfl) (fun _ _ _ h => h) (Or.inl ⟨by rfl, ?_⟩) ?_ ?_
  rotate_left
  · intro w'
    go_simp
    with_reducible rfl
  rotate_left
  · simp only [Act.put, List.setIfInBounds_toArray, List.set_cons_zero, List.set_cons_succ, i64_w, i32_w]
    rfl
  refine done_ (by kernel_rfl) ?_
  replace H := H.out
  by_cases c11 : t110 < 0
  · rw [if_pos c11] at H
    have c11b0 : decide (t110 < 0) = true := decide_eq_true c11
    clear c11
    by_cases c12 : t119 < 0
    · rw [if_pos c12] at H
      have c12b0 : decide (t119 < 0) = true := decide_eq_true c12
      clear c12
      obtain rfl := Option.some.inj H
      try go_wp2
      go_ret
      exact ⟨by first | rfl | (simp [errW_none, errW_some] <;> rfl) | (simp [*, errW_none, errW_some] <;> rfl), l_ HB⟩
    · rw [if_neg c12] at H
      have c12b0 : decide (t119 < 0) = false := decide_eq_false c12
      clear c12
      by_cases c26 : t119 = 0
      · rw [if_pos c26] at H
        have c26b0 : (t119 == 0) = true := beq_iff_eq.mpr c26
        have c26b1 : (t119 != 0) = false := bne_eq_false_iff_eq.mpr c26
        clear c26
        obtain rfl := Option.some.inj H
        try go_wp2
        go_ret
        exact ⟨by first | rfl | (simp [errW_none, errW_some] <;> rfl) | (simp [*, errW_none, errW_some] <;> rfl), l_ HB⟩
      · rw [if_neg c26] at H
        have c26b0 : (t119 == 0) = false := beq_eq_false_iff_ne.mpr c26
        have c26b1 : (t119 != 0) = true := bne_iff_ne.mpr c26
        obtain rfl := Option.some.inj H
        try go_wp2
        go_ret
        exact ⟨by first | rfl | (simp [errW_none, errW_some] <;> rfl) | (simp [*, errW_none, errW_some] <;> rfl), l_ HB⟩
  · rw [if_neg c11] at H
    have c11b0 : decide (t110 < 0) = false := decide_eq_false c11
    clear c11
    by_cases c53 : t110 = 0
    · rw [if_pos c53] at H
      have c53b0 : (t110 == 0) = true := beq_iff_eq.mpr c53
      have c53b1 : (t110 != 0) = false := bne_eq_false_iff_eq.mpr c53
      clear c53
      by_cases c54 : a3 = 2
      · rw [if_pos c54] at H
        have c54b0 : (a3 == 2) = true := beq_iff_eq.mpr c54
        have c54b1 : (a3 != 2) = false := bne_eq_false_iff_eq.mpr c54
        clear c54
        obtain rfl := Option.some.inj H
        try go_wp2
        go_ret
        exact ⟨by first | rfl | (simp [errW_none, errW_some] <;> rfl) | (simp [*, errW_none, errW_some] <;> rfl), l_ HB⟩
      · rw [if_neg c54] at H
        have c54b0 : (a3 == 2) = false := beq_eq_false_iff_ne.mpr c54
        have c54b1 : (a3 != 2) = true := bne_iff_ne.mpr c54
        by_cases c68 : t119 < 0
        · rw [if_pos c68] at H
          have c68b0 : decide (t119 < 0) = true := decide_eq_true c68
          clear c68
          obtain rfl := Option.some.inj H
          try go_wp2
          go_ret
          exact ⟨by first | rfl | (simp [errW_none, errW_some] <;> rfl) | (simp [*, errW_none, errW_some] <;> rfl), l_ HB⟩
        · rw [if_neg c68] at H
          have c68b0 : decide (t119 < 0) = false := decide_eq_false c68
          clear c68
          by_cases c82 : t119 = 0
          · rw [if_pos c82] at H
            have c82b0 : (t119 == 0) = true := beq_iff_eq.mpr c82
            have c82b1 : (t119 != 0) = false := bne_eq_false_iff_eq.mpr c82
            clear c82
            obtain rfl := Option.some.inj H
            try go_wp2
            go_ret
            exact ⟨by first | rfl | (simp [errW_none, errW_some] <;> rfl) | (simp [*, errW_none, errW_some] <;> rfl), l_ HB⟩
          · rw [if_neg c82] at H
            have c82b0 : (t119 == 0) = false := beq_eq_false_iff_ne.mpr c82
            have c82b1 : (t119 != 0) = true := bne_iff_ne.mpr c82
            obtain rfl := Option.some.inj H
            try go_wp2
            go_ret
            exact ⟨by first | rfl | (simp [errW_none, errW_some] <;> rfl) | (simp [*, errW_none, errW_some] <;> rfl), l_ HB⟩
    · rw [if_neg c53] at H
      have c53b0 : (t110 == 0) = false := beq_eq_false_iff_ne.mpr c53
      have c53b1 : (t110 != 0) = true := bne_iff_ne.mpr c53
      obtain rfl := Option.some.inj H
      try go_wp2
      go_ret
      exact ⟨by first | rfl | (simp [errW_none, errW_some] <;> rfl) | (simp [*, errW_none, errW_some] <;> rfl), l_ HB⟩

end Go.Proofs.Ytglkjeeiiflpjaa.F
