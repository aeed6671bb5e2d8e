-- PRINTED by print.py (a twelfth state) out of the translation. Not trusted: Lean checks it.
import Derived.Test.YtglkjeeiiflpjaaF0
import Derived.Test.YtglkjeeiiflpjaaB3
import Derived.Test.YtglkjeeiiflpjaaF28
namespace Go.Proofs.Ytglkjeeiiflpjaa.F
open Go.RowKit Go.Proofs.YtglkjeeiiflpjaaW.PrintWords Go.Proofs.YtglkjeeiiflpjaaW.PrintLast Go.Proofs.YtglkjeeiiflpjaaW.PrintMore
attribute [local go_sem] max2_int min2_int max_two min_two max_three min_three max_four min_four   -- for this text's walks alone
set_option linter.unusedVariables false
set_option linter.unusedSimpArgs false

/-! ### cobwebref06_ways: function 29 -/
mutual
def cobwebref06_ways.j0 : Nat → Int → Int → Option ((List (S58)))
  | 0, _, _ => none
  | k + 1, x7, x8 => if x8 = 0 then (cobwebref06_ways.j1 k x7 x8 true) else (if x7 < 0 then (cobwebref06_ways.j1 k x7 x8 true) else (cobwebref06_ways.j1 k x7 x8 (decide (x7 > x8))))
def cobwebref06_ways.j1 : Nat → Int → Int → Bool → Option ((List (S58)))
  | 0, _, _, _ => none
  | k + 1, x7, x8, x33 => if x33 = true then (some ([] : List (S58))) else ((cobwebref06_num.f k x7).bind fun bt101 => ((cobwebref06_num.f k x8).bind fun bt105 => (some (([(⟨(⟨bt101.1, bt101.2⟩ : S55), (⟨bt105.1, bt105.2⟩ : S55)⟩ : S58)] : List (S58))))))
end
def cobwebref06_ways.f (k : Nat) (a0 : Int) (a1 : Int) (a2 : Int) : Option ((List (S58))) := if (wrap64 (2 * (wrap64 (a1 - a0)))) < 0 then (cobwebref06_ways.j0 k (wrap64 (-(wrap64 (a2 - (wrap64 (2 * a0)))))) (wrap64 (-(wrap64 (2 * (wrap64 (a1 - a0))))))) else (cobwebref06_ways.j0 k (wrap64 (a2 - (wrap64 (2 * a0)))) (wrap64 (2 * (wrap64 (a1 - a0)))))
theorem cobwebref06_ways.mono_l : ∀ k, (∀ y0 y1, LeO (cobwebref06_ways.j0 k y0 y1) (cobwebref06_ways.j0 (k + 1) y0 y1)) ∧ (∀ y0 y1 y2, LeO (cobwebref06_ways.j1 k y0 y1 y2) (cobwebref06_ways.j1 (k + 1) y0 y1 y2))
  | 0 => ⟨fun _ _ r h => by simp [cobwebref06_ways.j0] at h, fun _ _ _ r h => by simp [cobwebref06_ways.j1] at h⟩
  | k + 1 => by
    obtain ⟨ih0, ih1⟩ := cobwebref06_ways.mono_l k
    refine ⟨?_, ?_⟩
    · intro y0 y1
      unfold cobwebref06_ways.j0
      repeat' first
      | (with_reducible exact ih0 _ _)
      | (with_reducible exact ih1 _ _ _)
      | (with_reducible exact cobwebref06_num.mono _ _)
      | (with_reducible exact LeO.refl _)
      | (with_reducible exact LeO.none _)
      | (with_reducible refine LeO.ite ?_ ?_)
      | (with_reducible refine LeO.bind ?_ (fun _ => ?_))
      | exact ih0 _ _
      | exact ih1 _ _ _
      | exact cobwebref06_num.mono _ _
      | exact LeO.none _
      | refine LeO.ite ?_ ?_
      | refine LeO.bind ?_ (fun _ => ?_)
    · intro y0 y1 y2
      unfold cobwebref06_ways.j1
      repeat' first
      | (with_reducible exact ih0 _ _)
      | (with_reducible exact ih1 _ _ _)
      | (with_reducible exact cobwebref06_num.mono _ _)
      | (with_reducible exact LeO.refl _)
      | (with_reducible exact LeO.none _)
      | (with_reducible refine LeO.ite ?_ ?_)
      | (with_reducible refine LeO.bind ?_ (fun _ => ?_))
      | exact ih0 _ _
      | exact ih1 _ _ _
      | exact cobwebref06_num.mono _ _
      | exact LeO.none _
      | refine LeO.ite ?_ ?_
      | refine LeO.bind ?_ (fun _ => ?_)
theorem cobwebref06_ways.mono : ∀ a0 a1 a2 k, LeO (cobwebref06_ways.f k a0 a1 a2) (cobwebref06_ways.f (k + 1) a0 a1 a2) := by
  intro a0 a1 a2 k
  obtain ⟨ih0, ih1⟩ := cobwebref06_ways.mono_l k
  unfold cobwebref06_ways.f
  repeat' first
      | (with_reducible exact ih0 _ _)
      | (with_reducible exact ih1 _ _ _)
      | (with_reducible exact cobwebref06_num.mono _ _)
      | (with_reducible exact LeO.refl _)
      | (with_reducible exact LeO.none _)
      | (with_reducible refine LeO.ite ?_ ?_)
      | (with_reducible refine LeO.bind ?_ (fun _ => ?_))
      | exact ih0 _ _
      | exact ih1 _ _ _
      | exact cobwebref06_num.mono _ _
      | exact LeO.none _
      | refine LeO.ite ?_ ?_
      | refine LeO.bind ?_ (fun _ => ?_)
set_option maxHeartbeats 8000000 in
set_option maxRecDepth 100000 in
theorem cobwebref06_ways.calls (k : Nat) (a0 : Int) (a1 : Int) (a2 : Int) (r : List (S58)) (w : World) (h : cobwebref06_ways.f k a0 a1 a2 = some r) :
    Calls Try.prog 29 #[.int .i64 a0, .int .i64 a1, .int .i64 a2] w fun e w' => ∃ v0_ : Value, e = .returned (v0_) ∧ Kd.N k58 58 w' w.heap.size (fun k_ => (w.heap.size ≤ k_)) v0_ r ∧ Below w.heap.size w w' := by
  have hu58 := Try.underlying58
  have HB := A_ (Below.refl w.heap.size w)
  have H : (if (wrap64 (2 * (wrap64 (a1 - a0)))) < 0 then (cobwebref06_ways.j0 k (wrap64 (-(wrap64 (a2 - (wrap64 (2 * a0)))))) (wrap64 (-(wrap64 (2 * (wrap64 (a1 - a0))))))) else (cobwebref06_ways.j0 k (wrap64 (a2 - (wrap64 (2 * a0)))) (wrap64 (2 * (wrap64 (a1 - a0)))))) = some r := h
  clear h
  have HC4 := A_ H
  clear H
  go_enter Try.func29, Try.ntmps29
  go_upto_if 18 with (fail)
  go_cut [7, 8] (fun v7 v8 wc => ∃ (kq : Nat) (x7_3 : Int) (x8_3 : Int), v7 = .int .i64 x7_3 ∧ v8 = .int .i64 x8_3 ∧ Aside0 (cobwebref06_ways.j0 kq x7_3 x8_3 = some r) ∧ Aside0 (kq ≤ k) ∧ Aside0 (Below w.heap.size w wc))
  case first =>
    have H := HC4.out
    clear HC4
    by_cases c5 : (wrap64 (2 * (wrap64 (a1 - a0)))) < 0
    · rw [if_pos c5] at H
      have c5b0 : decide ((wrap64 (2 * (wrap64 (a1 - a0)))) < 0) = true := decide_eq_true c5
      clear c5
      (first | rw [c5b0] | (simp only [i64_w, i32_w]; rw [c5b0]) | skip)
      have H' := A_ H
      clear H
      go_wp2
      go_meet
      case rel => exact ⟨_, (wrap64 (-(wrap64 (a2 - (wrap64 (2 * a0)))))), (wrap64 (-(wrap64 (2 * (wrap64 (a1 - a0)))))), (by first | rfl | (simp; done) | (simp [*]; done)), (by first | rfl | (simp; done) | (simp [*]; done)), H', ⟨by first | omega | exact Nat.le_refl _⟩, ⟨l_ HB⟩⟩
    · rw [if_neg c5] at H
      have c5b0 : decide ((wrap64 (2 * (wrap64 (a1 - a0)))) < 0) = false := decide_eq_false c5
      clear c5
      (first | rw [c5b0] | (simp only [i64_w, i32_w]; rw [c5b0]) | skip)
      have H' := A_ H
      clear H
      go_wp2
      go_meet
      case rel => exact ⟨_, (wrap64 (a2 - (wrap64 (2 * a0)))), (wrap64 (2 * (wrap64 (a1 - a0)))), (by first | rfl | (simp; done) | (simp [*]; done)), (by first | rfl | (simp; done) | (simp [*]; done)), H', ⟨by first | omega | exact Nat.le_refl _⟩, ⟨l_ HB⟩⟩
  case rest =>
    clear HC4
    try clear c2
    try clear p2
    try clear c5
    try clear c5b0
    obtain ⟨kq, x7_3, x8_3, rfl, rfl, HA, HJ3, HB⟩ := hcut
    cases kq with
    | zero => exact absurd HA.out (by simp [cobwebref06_ways.j0])
    | succ kj3 =>
      have H := HA.out
      clear HA
      simp only [cobwebref06_ways.j0] at H
      have HC6 := A_ H
      clear H
      go_upto_region 6 with (fail)
      go_cut [33] (fun v33 wc => ∃ (kq : Nat) (x33_5 : Bool), v33 = .bool x33_5 ∧ Aside0 (cobwebref06_ways.j1 kq x7_3 x8_3 x33_5 = some r) ∧ Aside0 (kq ≤ kj3) ∧ Aside0 (Below w.heap.size w wc))
      case first =>
        have H := HC6.out
        clear HC6
        by_cases c7 : x8_3 = 0
        · rw [if_pos c7] at H
          have c7b0 : (x8_3 == 0) = true := beq_iff_eq.mpr c7
          have c7b1 : (x8_3 != 0) = false := bne_eq_false_iff_eq.mpr c7
          clear c7
          (first | rw [c7b0] | (simp only [i64_w, i32_w]; rw [c7b0]) | skip)
          have H' := A_ H
          clear H
          go_wp2
          go_meet
          case rel => exact ⟨_, (true), (by first | rfl | (simp; done) | (simp [*]; done)), H', ⟨by have := HJ3.out; first | omega | exact Nat.le_refl _⟩, ⟨l_ HB⟩⟩
        · rw [if_neg c7] at H
          have c7b0 : (x8_3 == 0) = false := beq_eq_false_iff_ne.mpr c7
          have c7b1 : (x8_3 != 0) = true := bne_iff_ne.mpr c7
          (first | rw [c7b0] | (simp only [i64_w, i32_w]; rw [c7b0]) | skip)
          by_cases c8 : x7_3 < 0
          · rw [if_pos c8] at H
            have c8b0 : decide (x7_3 < 0) = true := decide_eq_true c8
            clear c8
            have H' := A_ H
            clear H
            go_wp2
            go_meet
            case rel => exact ⟨_, (true), (by first | rfl | (simp; done) | (simp [*]; done)), H', ⟨by have := HJ3.out; first | omega | exact Nat.le_refl _⟩, ⟨l_ HB⟩⟩
          · rw [if_neg c8] at H
            have c8b0 : decide (x7_3 < 0) = false := decide_eq_false c8
            clear c8
            have H' := A_ H
            clear H
            go_wp2
            go_meet
            case rel => exact ⟨_, (decide (x7_3 > x8_3)), (by first | rfl | (simp; done) | (simp [*]; done)), H', ⟨by have := HJ3.out; first | omega | exact Nat.le_refl _⟩, ⟨l_ HB⟩⟩
      case rest =>
        clear HC6
        try clear c2
        try clear p2
        try clear c5
        try clear c5b0
        try clear p6
        try clear c7
        try clear c7b0
        try clear c7b1
        try clear c8
        try clear c8b0
        try clear p2
        obtain ⟨kq, x33_5, rfl, HA, HJ5, HB⟩ := hcut
        cases kq with
        | zero => exact absurd HA.out (by simp [cobwebref06_ways.j1])
        | succ kj5 =>
          have H := HA.out
          clear HA
          simp only [cobwebref06_ways.j1] at H
          by_cases c9 : x33_5 = true
          · subst c9
            have H1 : (some ([] : List (S58))) = some r := by rw [if_pos rfl] at H; exact H
            clear H
            have H := H1
            clear H1
            obtain rfl := Option.some.inj H
            go_wp2
            go_ret
            exact ⟨_, by first | rfl | (simp [errW_none, errW_some] <;> rfl) | (simp [*, errW_none, errW_some] <;> rfl), by first | exact Kd.S_nil _ _ _ _ _ | exact Kd.N_nil _ _ _ _ _ | exact Kd.V_nil _ _ _ _ _ | exact Kd.Q_nil _ _ _ _ _ | exact Kd.R_nil _ _ _ _ _, l_ HB⟩
          · replace c9 := Bool.eq_false_iff.mpr c9
            subst c9
            have H1 : ((cobwebref06_num.f kj5 x7_3).bind fun bt101 => ((cobwebref06_num.f kj5 x8_3).bind fun bt105 => (some (([(⟨(⟨bt101.1, bt101.2⟩ : S55), (⟨bt105.1, bt105.2⟩ : S55)⟩ : S58)] : List (S58)))))) = some r := by rw [if_neg (show ¬ (false = true) by decide)] at H; exact H
            clear H
            have H := H1
            clear H1
            replace H := Option.bind_eq_some_iff.mp H
            obtain ⟨⟨t101, t102⟩, A100, H⟩ := H
            replace H : ((cobwebref06_num.f kj5 x8_3).bind fun bt105 => (some (([(⟨(⟨t101, t102⟩ : S55), (⟨bt105.1, bt105.2⟩ : S55)⟩ : S58)] : List (S58))))) = some r := H
            have A10 := A_ A100
            clear A100
            replace H := Option.bind_eq_some_iff.mp H
            obtain ⟨⟨t105, t106⟩, A110, H⟩ := H
            replace H : (some (([(⟨(⟨t101, t102⟩ : S55), (⟨t105, t106⟩ : S55)⟩ : S58)] : List (S58)))) = some r := H
            have A11 := A_ A110
            clear A110
            obtain ⟨y109, hy109⟩ : ∃ y_ : List (S58), y_ = (([(⟨(⟨t101, t102⟩ : S55), (⟨t105, t106⟩ : S55)⟩ : S58)] : List (S58))) := ⟨_, rfl⟩
            replace H : (some y109) = some r := by first | (rw [hy109]; with_reducible exact H) | (have H2_ := (Option.bind_some _ _).symm.trans H; rw [hy109]; with_reducible exact H2_) | (have H2_ := (Option.bind_some _ _).symm.trans H; with_reducible exact H2_) | with_reducible exact H | (rw [hy109]; exact H) | exact H
            have Ny109 := A_ hy109
            clear hy109
            obtain rfl := Option.some.inj H
            go_wp2_with (first | ((with_reducible refine gate_callee (f := 28) rfl ?_); refine goesLq_ 35 rfl Try.func28 #[.int .i64 x7_3] ?_; (with_reducible refine (cobwebref06_num.calls kj5 x7_3 t101 t102 _ A10.out).mono ?_); rintro e w12 ⟨v103, rfl, ho0, hb⟩; refine ⟨_, rfl, ?_⟩; have HO104 := A_ (Kd.R_lower (Kd.R_newM (M := fun k_ => (w.heap.size ≤ k_)) ho0 (below_size (l_ HB)) (fun k_ h_ => h_)) (below_size (l_ HB))); replace HB := st_ HB hb; (try clear hb); (try clear hb2); (try clear hk); (try clear hi); (try clear ho0)) | ((with_reducible refine gate_callee (f := 28) rfl ?_); refine goesLq_ 37 rfl Try.func28 #[.int .i64 x8_3] ?_; (with_reducible refine (cobwebref06_num.calls kj5 x8_3 t105 t106 _ A11.out).mono ?_); rintro e w13 ⟨v107, rfl, ho0, hb⟩; refine ⟨_, rfl, ?_⟩; have HO108 := A_ (Kd.R_lower (Kd.R_new' (Kd.R_newM (M := fun k_ => (w.heap.size ≤ k_)) ho0 (below_size (l_ HB)) (fun k_ h_ => h_)) (Kd.R_lt (r_ HO104.out))) (below_size (l_ HB))); replace HO104 := A_ (Kd.R_elder' (r_ HO104.out) (Kd.R_base ho0) hb); replace HB := st_ HB hb; (try clear hb); (try clear hb2); (try clear hk); (try clear hi); (try clear ho0); obtain ⟨Ao14, co14, eo14⟩ := Kd.R_slice HO108.out; subst eo14; obtain ⟨Ao15, co15, eo15⟩ := Kd.R_slice HO104.out; subst eo15) | ((with_reducible refine gate_dst (N := 39) rfl ?_); refine Kd.N_lit k58 _ 58 ?hg (N' := 39) ?hd (xs := ([(⟨(⟨t101, t102⟩ : S55), (⟨t105, t106⟩ : S55)⟩ : S58)] : List (S58))) (inner := [.bool t101, .slice Ao15 t102.length co15, .bool t105, .slice Ao14 t106.length co14]) (ok := (fun k_ => (w.heap.size ≤ k_))) (okp := (fun k_ => (w.heap.size ≤ k_))) ?hr ?hp (fun _ hk => hk) ((show ∀ k_, w13.heap.size ≤ k_ → (fun k_ => (w.heap.size ≤ k_)) k_ from fun k_ hk => (Nat.le_trans (below_size (l_ HB)) hk)) _ (Nat.le_refl _)) (Below.refl _ _) (Nat.le_refl _) (by simp) ?_; (case hd => rfl); (case hg => rfl); (case hr => first | (go_simp; done) | (go_simp; rfl)); (case hp => exact (Reps.c4 (show Kd.FK k58 _ _ (⟨(⟨t101, t102⟩ : S55), (⟨t105, t106⟩ : S55)⟩ : S58) [.bool t101, .slice Ao15 t102.length co15, .bool t105, .slice Ao14 t106.length co14] from (k58_mkF _ _ (⟨(⟨t101, t102⟩ : S55), (⟨t105, t106⟩ : S55)⟩ : S58) (Kd.R_reads' (Kd.R_mono (ok' := (fun k_ => (w.heap.size ≤ k_))) (HO104.out) (fun k_ hk => hk.1.1))).2.1 (Kd.R_F (Kd.R_mono (ok' := (fun k_ => (w.heap.size ≤ k_))) (HO104.out) (fun k_ hk => hk.1.1))) (Kd.R_reads' (Kd.R_mono (ok' := (fun k_ => (w.heap.size ≤ k_))) (HO108.out) (fun k_ hk => hk.1.1))).2.1 (Kd.R_F (Kd.R_mono (ok' := (fun k_ => (w.heap.size ≤ k_))) (HO108.out) (fun k_ hk => hk.1.1))))) (Reps.none _ _))); intro v110 w16 ho17 hb hg_ hnew_; clear hg_ hnew_; (first | rw [← Ny109.out] at ho17 | (simp only [Int.reduceToNat] at ho17; rw [← Ny109.out] at ho17)); have HO111 := A_ (Kd.N_lower ho17 (below_size (l_ HB))); replace HB := st_ HB hb; clear HO104 HO108; clear hb ho17))
            go_ret
            exact ⟨_, by first | rfl | (simp [errW_none, errW_some] <;> rfl) | (simp [*, errW_none, errW_some] <;> rfl), by (with_reducible repeat (first | apply Kd.N_alloc | apply Kd.N_drewN | apply Kd.N_drew)); exact HO111.out, l_ HB⟩

end Go.Proofs.Ytglkjeeiiflpjaa.F
