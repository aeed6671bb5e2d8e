/- NearIn, walked by hand. Conditions: the entries' numbers are those of 64 bits. -/
import Derived.Test.YtcfgpfappidkaaaN8
namespace Go.Proofs.Ytcfgpfappidkaaa.F
open Go.RowKit Go.Proofs.YtcfgpfappidkaaaW.PrintWords Go.Proofs.YtcfgpfappidkaaaW.PrintLast Go.Proofs.YtcfgpfappidkaaaW.PrintMore
set_option linter.unusedVariables false
set_option linter.unusedSimpArgs false
def nearIn.T4 : Bool × List (List Nat × List Nat) := (true, [([], []), ([0, 0], [0]), ([1], [1]), ([1], [1]), ([1], [1]), ([2, 3, 4, 1, 1], [1, 2, 3, 4]), ([1], [1]), ([1], [1]), ([1], [1]), ([6, 7, 8, 5, 1], [1, 6, 7, 8]), ([5, 9, 9, 1], [1, 5, 9]), ([1, 10], [1, 10]), ([11, 10, 0, 1, 2, 3, 4, 5, 6, 7, 8, 9, 10, 11], [11])])
def nearIn.B4 : List Nat := [0, 1, 3, 3, 3, 31, 3, 3, 3, 511, 1023, 2047, 4095]
theorem nearIn.tab4 : rtab .any (opsOf Try.f5 4) = nearIn.T4 := by kernel_rfl
theorem nearIn.bits4 : waitsOk nearIn.T4.2 nearIn.B4 = true := by kernel_rfl
set_option maxHeartbeats 8000000 in
set_option maxRecDepth 100000 in
theorem nearIn.walk (A : Option Addr) (c : Nat) (l : List S31) (lx ly hx hy : Int) (w : World) (hr : Kd.C k31 w A l.length l) (hc : l.length ≤ c) (hmin : ∀ e ∈ l, -9223372036854775808 ≤ e.f0.f1) :
    Calls Try.prog 5 #[.slice A l.length c, .agg #[.int .i64 lx, .int .i64 ly], .agg #[.int .i64 hx, .int .i64 hy]] w fun e w' => e = .returned (.bool true) ∧ Below w.heap.size w w' := by
  have hb01 := below_alloc (below_alloc (Below.refl _ w) (.cells #[.int .i64 lx, .int .i64 ly] 35)) (.cells #[.int .i64 hx, .int .i64 hy] 35)
  have HB1 := Aside0.mk hb01
  have T1 := Aside0.mk ((show TgtB (w.alloc (.cells #[.int .i64 lx, .int .i64 ly] 35)) w.heap.size lx ly from heap_alloc_new w _).below (below_alloc (Below.refl _ _) (.cells #[.int .i64 hx, .int .i64 hy] 35)))
  have U1 := Aside0.mk (show TgtB ((w.alloc (.cells #[.int .i64 lx, .int .i64 ly] 35)).alloc (.cells #[.int .i64 hx, .int .i64 hy] 35)) (w.alloc (.cells #[.int .i64 lx, .int .i64 ly] 35)).heap.size hx hy from heap_alloc_new _ _)
  have U1' : Aside0 (TgtB ((w.alloc (.cells #[.int .i64 lx, .int .i64 ly] 35)).alloc (.cells #[.int .i64 hx, .int .i64 hy] 35)) (w.heap.size + 1) hx hy) := ⟨by have := U1.out; simpa using this⟩
  clear U1
  by_cases hl : l.length > 120
  · have hd : decide ((l.length : Int) > 120) = true := decide_eq_true (by omega)
    have hd2 : decide (120 < l.length) = true := decide_eq_true hl
    have hd3 : decide (l.length > 120) = true := decide_eq_true hl
    clear hr hc hl hb01
    go_enter Try.func5, Try.ntmps5
    go_wp2_with (go_at_call 8; (with_reducible refine (alive_b _).mono ?_); rintro e w2 ⟨rfl, hb⟩; have B2 := Aside0.mk (below_step HB1.out hb))
    go_ret
    exact ⟨rfl, B2.out⟩
  · have hd : decide ((l.length : Int) > 120) = false := decide_eq_false (by omega)
    have hd2 : decide (120 < l.length) = false := decide_eq_false hl
    have hd3 : decide (l.length > 120) = false := decide_eq_false hl
    have HL := Aside0.mk (Nat.le_of_not_lt hl)
    have HC := Aside0.mk (Kd.C_below hr hb01)
    have Hc := Aside0.mk hc
    obtain ⟨L, hL⟩ : ∃ L, L = putsR l := ⟨_, rfl⟩
    have HLE := Aside0.mk hL
    have HS := Aside0.mk (show Rising (rows L) by rw [hL]; exact puts_rising l)
    have HLN := Aside0.mk (show L.length ≤ 120 by rw [hL]; exact Nat.le_trans (puts_len l) (Nat.le_of_not_lt hl))
    obtain ⟨M, hM⟩ : ∃ M, M = inR L lx ly hx hy := ⟨_, rfl⟩
    have HML := Aside0.mk (show M.length ≤ 120 by rw [hM]; exact Nat.le_trans (List.length_filter_le _ _) HLN.out)
    have HIN := Aside0.mk (show inL (rows L) lx ly hx hy = rows M by rw [hM, inL_rows L lx ly hx hy HS.out (by rw [hL]; exact puts_min l hmin)])
    have HRI := Aside0.mk (show cobwebref08_In.f (L.length + 1) L lx ly hx hy = some M by rw [hM]; exact In_eq L lx ly hx hy (Nat.lt_of_le_of_lt HLN.out (by decide)))
    clear hr hc hl hL hM hmin hb01
    go_enter Try.func5, Try.ntmps5
    go_wp2_with fail
    generalize (w.alloc (.cells #[.int .i64 lx, .int .i64 ly] 35)).alloc (.cells #[.int .i64 hx, .int .i64 hy] 35) = w1 at HB1 T1 U1' HC ⊢
    refine (made.calls A c l w1 HC.out Hc.out HL.out).mono ?_
    rw [← HLE.out]
    rintro e w2 ⟨bx, s, v2, rfl, hi, ho⟩
    obtain ⟨A2, c2, rfl⟩ := Kd.R_slice ho
    have I2 := Aside0.mk hi
    have O2 := Aside0.mk ho
    have T2 := Aside0.mk (T1.out.below hi.bel)
    have U2 := Aside0.mk (U1'.out.below hi.bel)
    have B2 := Aside0.mk (below_step HB1.out hi.bel)
    clear hi ho T1 U1' HB1 HC
    go_wp2_with fail
    have hb := below_drew (Below.refl w2.heap.size w2)
    have B3 := Aside0.mk (below_step B2.out hb)
    have I3 := Aside0.mk (I2.out.below hb)
    have O3 := Aside0.mk (Kd.R_below O2.out hb)
    have hh : TgtB w2.drew w.heap.size lx ly ∧ TgtB w2.drew (w.heap.size + 1) hx hy := ⟨T2.out.below hb, U2.out.below hb⟩
    refine start_ (n := 13) (S := fun W => TgtB W w.heap.size lx ly ∧ TgtB W (w.heap.size + 1) hx hy) (ds := []) #[false, false, false, false, false, false, false, false, false, false, false, false, false] (by kernel_rfl) rfl rfl hh (fun hHeld => ?_); refine with_tabW nearIn.tab4 nearIn.bits4 (fun HT_ HW_ => ?_)
    generalize w2.drew = w3 at hHeld B3 I3 O3
    clear hh hb I2 O2 T2 U2 B2
    refine one_ (i := 0) (N := (some 18)) #[true, false, false, false, false, false, false, false, false, false, false, false, false] rfl rfl (one_of HT_.out (by kernel_rfl)) (by decide) (fun K hK => ?_)
    refine goes_ Try.func8 (by kernel_rfl) rfl #[] (by rfl) rfl rfl (by (try simp only [List.map_toArray, List.map_cons, List.map_nil]); first | done | rfl) ?_
    with_reducible refine (alive_b _).mono ?_
    rintro e w4 ⟨rfl, hb⟩
    refine ⟨_, rfl, ?_⟩
    have B4 := Aside0.mk (below_step B3.out hb)
    have I4 := Aside0.mk (I3.out.below hb)
    have O4 := Aside0.mk (Kd.R_below O3.out hb)
    have hHeld2 : _ ∧ _ := ⟨hHeld.1.below hb, hHeld.2.below hb⟩
    clear hHeld
    clear hb B3 I3 O3
    refine hK.out _ _ hHeld2 (fun hHeld => ?_)
    clear hK K hHeld2
    refine norm_ (a' := ?_) ?_ ?_
    rotate_left
    · show Act.put _ (some 18) _ = _
      simp only [Act.put, List.setIfInBounds_toArray, List.set_cons_zero, List.set_cons_succ, i64_w, i32_w]
      rfl
    refine pure_ (i := 1) (N := (some 19)) (v := ?_) (a' := ?_) #[true, true, false, false, false, false, false, false, false, false, false, false, false] rfl rfl (any_of HT_.out (by kernel_rfl)) (fun _ _ _ h => h) (Or.inl ⟨by rfl, ?_⟩) ?_ ?_
    rotate_left
    · intro w'
      go_simp
      with_reducible rfl
    rotate_left
    · simp only [Act.put, List.setIfInBounds_toArray, List.set_cons_zero, List.set_cons_succ, i64_w, i32_w]
      rfl
    refine pure_ (i := 2) (N := (some 20)) (v := ?_) (a' := ?_) #[true, true, true, false, false, false, false, false, false, false, false, false, false] rfl rfl (any_of HT_.out (by kernel_rfl)) (fun _ _ _ h => h) (Or.inl ⟨by rfl, ?_⟩) ?_ ?_
    rotate_left
    · intro w'
      go_simp
      with_reducible rfl
    rotate_left
    · simp only [Act.put, List.setIfInBounds_toArray, List.set_cons_zero, List.set_cons_succ, i64_w, i32_w]
      rfl
    refine pure_ (i := 6) (N := (some 24)) (v := ?_) (a' := ?_) #[true, true, true, false, false, false, true, false, false, false, false, false, false] rfl rfl (any_of HT_.out (by kernel_rfl)) (fun _ _ _ h => h) (Or.inl ⟨by rfl, ?_⟩) ?_ ?_
    rotate_left
    · intro w'
      go_simp
      with_reducible rfl
    rotate_left
    · simp only [Act.put, List.setIfInBounds_toArray, List.set_cons_zero, List.set_cons_succ, i64_w, i32_w]
      rfl
    refine take_ (i := 3) (N := (some 21)) (v := ?_) (a' := ?_) #[true, true, true, true, false, false, true, false, false, false, false, false, false] rfl rfl (take_ofW HT_.out HW_.out (by kernel_rfl)) (fun _ _ _ h => h) (Or.inl ⟨by rfl, ?_⟩) hHeld ?_ ?_
    rotate_left
    · rintro w' ⟨s1, t1⟩
      have h0 := s1.c0
      have h1 := s1.c1
      have h2 := t1.c0
      have h3 := t1.c1
      go_simp
      with_reducible rfl
    rotate_left
    · simp only [Act.put, List.setIfInBounds_toArray, List.set_cons_zero, List.set_cons_succ, i64_w, i32_w]
      rfl
    refine take_ (i := 4) (N := (some 22)) (v := ?_) (a' := ?_) #[true, true, true, true, true, false, true, false, false, false, false, false, false] rfl rfl (take_ofW HT_.out HW_.out (by kernel_rfl)) (fun _ _ _ h => h) (Or.inl ⟨by rfl, ?_⟩) hHeld ?_ ?_
    rotate_left
    · rintro w' ⟨s1, t1⟩
      have h0 := s1.c0
      have h1 := s1.c1
      have h2 := t1.c0
      have h3 := t1.c1
      go_simp
      with_reducible rfl
    rotate_left
    · simp only [Act.put, List.setIfInBounds_toArray, List.set_cons_zero, List.set_cons_succ, i64_w, i32_w]
      rfl
    refine take_ (i := 7) (N := (some 25)) (v := ?_) (a' := ?_) #[true, true, true, true, true, false, true, true, false, false, false, false, false] rfl rfl (take_ofW HT_.out HW_.out (by kernel_rfl)) (fun _ _ _ h => h) (Or.inl ⟨by rfl, ?_⟩) hHeld ?_ ?_
    rotate_left
    · rintro w' ⟨s1, t1⟩
      have h0 := s1.c0
      have h1 := s1.c1
      have h2 := t1.c0
      have h3 := t1.c1
      go_simp
      with_reducible rfl
    rotate_left
    · simp only [Act.put, List.setIfInBounds_toArray, List.set_cons_zero, List.set_cons_succ, i64_w, i32_w]
      rfl
    refine take_ (i := 8) (N := (some 26)) (v := ?_) (a' := ?_) #[true, true, true, true, true, false, true, true, true, false, false, false, false] rfl rfl (take_ofW HT_.out HW_.out (by kernel_rfl)) (fun _ _ _ h => h) (Or.inl ⟨by rfl, ?_⟩) hHeld ?_ ?_
    rotate_left
    · rintro w' ⟨s1, t1⟩
      have h0 := s1.c0
      have h1 := s1.c1
      have h2 := t1.c0
      have h3 := t1.c1
      go_simp
      with_reducible rfl
    rotate_left
    · simp only [Act.put, List.setIfInBounds_toArray, List.set_cons_zero, List.set_cons_succ, i64_w, i32_w]
      rfl
    refine one_ (i := 5) (N := (some 23)) #[true, true, true, true, true, true, true, true, true, false, false, false, false] rfl rfl (one_of HT_.out (by kernel_rfl)) (by decide) (fun K hK => ?_)
    refine goes_ Try.func17 (by kernel_rfl) rfl #[.pointer (some ⟨bx, 0, none⟩), .agg #[.int .i64 lx, .int .i64 ly], .agg #[.int .i64 hx, .int .i64 hy]] (by rfl) rfl rfl (by (try simp only [List.map_toArray, List.map_cons, List.map_nil]); first | done | rfl) ?_
    with_reducible refine (near_In.calls bx s (rows L) lx ly hx hy _ I4.out.ix HS.out (fits_rows (by have := HLN.out; omega))).mono ?_
    rintro e w5 ⟨v5, rfl, ho5, hb⟩
    refine ⟨_, rfl, ?_⟩
    rw [HIN.out] at ho5
    obtain ⟨A5, c5, rfl⟩ := Kd.R_slice ho5
    have R5 := Aside0.mk ho5
    have B5 := Aside0.mk (below_step B4.out hb)
    have O5 := Aside0.mk (Kd.R_below O4.out hb)
    have hHeld2 : _ ∧ _ := ⟨hHeld.1.below hb, hHeld.2.below hb⟩
    clear hHeld
    clear hb ho5 B4 I4 O4
    refine hK.out _ _ hHeld2 (fun hHeld => ?_)
    clear hK K hHeld2
    refine norm_ (a' := ?_) ?_ ?_
    rotate_left
    · show Act.put _ (some 23) _ = _
      simp only [Act.put, List.setIfInBounds_toArray, List.set_cons_zero, List.set_cons_succ, i64_w, i32_w]
      rfl
    refine one_ (i := 9) (N := (some 27)) #[true, true, true, true, true, true, true, true, true, true, false, false, false] rfl rfl (one_of HT_.out (by kernel_rfl)) (by decide) (fun K hK => ?_)
    refine goes_ Try.func18 (by kernel_rfl) rfl #[.slice A2 L.length c2, .agg #[.int .i64 lx, .int .i64 ly], .agg #[.int .i64 hx, .int .i64 hy]] (by rfl) rfl rfl (by (try simp only [List.map_toArray, List.map_cons, List.map_nil]); first | done | rfl) ?_
    with_reducible refine (cobwebref08_In.calls (L.length + 1) A2 c2 L lx ly hx hy M _ (Kd.R_reads' O5.out).2.2 (Kd.R_reads' O5.out).2.1 HRI.out).mono ?_
    rintro e w6 ⟨v6, rfl, ho6, hb⟩
    refine ⟨_, rfl, ?_⟩
    obtain ⟨A6, c6, rfl⟩ := Kd.R_slice ho6
    have R6 := Aside0.mk ho6
    have B6 := Aside0.mk (below_step B5.out hb)
    have Q6 := Aside0.mk (Kd.R_below R5.out hb)
    have hHeld2 : _ ∧ _ := ⟨hHeld.1.below hb, hHeld.2.below hb⟩
    clear hHeld
    clear hb ho6 B5 O5 R5
    refine hK.out _ _ hHeld2 (fun hHeld => ?_)
    clear hK K hHeld2
    refine norm_ (a' := ?_) ?_ ?_
    rotate_left
    · show Act.put _ (some 27) _ = _
      simp only [Act.put, List.setIfInBounds_toArray, List.set_cons_zero, List.set_cons_succ, i64_w, i32_w]
      rfl
    refine one_ (i := 10) (N := (some 28)) #[true, true, true, true, true, true, true, true, true, true, true, false, false] rfl rfl (one_of HT_.out (by kernel_rfl)) (by decide) (fun K hK => ?_)
    refine goes_ Try.func13 (by kernel_rfl) rfl #[.slice A5 (rows M).length c5, .slice A6 M.length c6] (by rfl) rfl rfl (by (try simp only [List.map_toArray, List.map_cons, List.map_nil]); first | done | rfl) ?_
    with_reducible refine (cobweblaw08_same.calls (M.length + 1) A5 c5 (rows M) A6 c6 M true _ (Kd.R_reads' Q6.out).2.2 (Kd.R_reads' Q6.out).2.1 (Kd.R_reads' R6.out).2.2 (Kd.R_reads' R6.out).2.1 (same_eq M (Nat.lt_of_le_of_lt HML.out (by decide)))).mono ?_
    rintro e w7 ⟨rfl, hb⟩
    refine ⟨_, rfl, ?_⟩
    have B7 := Aside0.mk (below_step B6.out hb)
    have hHeld2 : _ ∧ _ := ⟨hHeld.1.below hb, hHeld.2.below hb⟩
    clear hHeld
    clear hb B6 Q6 R6
    refine hK.out _ _ hHeld2 (fun hHeld => ?_)
    clear hK K hHeld2
    refine norm_ (a' := ?_) ?_ ?_
    rotate_left
    · show Act.put _ (some 28) _ = _
      simp only [Act.put, List.setIfInBounds_toArray, List.set_cons_zero, List.set_cons_succ, i64_w, i32_w]
      rfl
    refine pure_ (i := 11) (N := (some 29)) (v := ?_) (a' := ?_) #[true, true, true, true, true, true, true, true, true, true, true, true, false] rfl rfl (any_of HT_.out (by kernel_rfl)) (fun _ _ _ h => h) (Or.inl ⟨by rfl, ?_⟩) ?_ ?_
    rotate_left
    · intro w'
      go_simp
      with_reducible rfl
    rotate_left
    · simp only [Act.put, List.setIfInBounds_toArray, List.set_cons_zero, List.set_cons_succ, i64_w, i32_w]
      rfl
    refine pure_ (i := 12) (N := (some 6)) (v := ?_) (a' := ?_) #[true, true, true, true, true, true, true, true, true, true, true, true, true] rfl rfl (any_of HT_.out (by kernel_rfl)) (fun _ _ _ h => h) (Or.inl ⟨by rfl, ?_⟩) ?_ ?_
    rotate_left
    · intro w'
      go_simp
      with_reducible rfl
    rotate_left
    · simp only [Act.put, List.setIfInBounds_toArray, List.set_cons_zero, List.set_cons_succ, i64_w, i32_w]
      rfl
    refine done_ (done_of HT_.out (by kernel_rfl)) ?_
    go_wp2_with fail
    go_ret
    exact ⟨rfl, B7.out⟩
end Go.Proofs.Ytcfgpfappidkaaa.F
