/- order.Sort at two element types, walked by hand. -/
import Derived.Test.YtcfnheoppaelbaaHClone
import Derived.Test.YtcfnheoppaelbaaF15
namespace Go.Proofs.Ytcfnheoppaelbaa.F
open Go.RowKit Go.Proofs.YtcfnheoppaelbaaW.PrintWords Go.Proofs.YtcfnheoppaelbaaW.PrintLast Go.Proofs.YtcfnheoppaelbaaW.PrintMore
set_option linter.unusedVariables false
set_option linter.unusedSimpArgs false
def sortInt_14.T4 : Bool × List (List Nat × List Nat) := (true, [([], []), ([], []), ([], []), ([0, 1, 2], [0, 1, 2]), ([], []), ([3, 4], [3, 4]), ([], []), ([], []), ([6, 7], [6, 7]), ([], []), ([8, 9, 5], [8, 9]), ([], []), ([5, 10, 11, 10], [5, 10, 11]), ([12, 12, 0, 1, 2, 3, 4, 5, 6, 7, 8, 9, 10, 11, 12], [12])])
def sortInt_14.B4 : List Nat := [0, 0, 0, 7, 0, 31, 0, 0, 192, 0, 1023, 0, 4095, 8191]
theorem sortInt_14.tab4 : rtab .any (opsOf Try.f14 4) = sortInt_14.T4 := by kernel_rfl
theorem sortInt_14.bits4 : waitsOk sortInt_14.T4.2 sortInt_14.B4 = true := by kernel_rfl
def sortInt_14.f : Nat → List Int → Option (List Int)
  | 0, _ => none
  | k + 1, l => if l.length < 2 then int_int_26.f l else (sortInt_14.f k (l.take (l.length / 2))).bind fun a => (sortInt_14.f k (l.drop (l.length / 2))).bind fun b => order_Merge_int.f k a b
theorem sortInt_14.mono : ∀ a0 k, LeO (sortInt_14.f k a0) (sortInt_14.f (k + 1) a0) := by
  intro a0 k
  induction k generalizing a0 with
  | zero => intro r h; simp [sortInt_14.f] at h
  | succ k ih =>
    rw [sortInt_14.f.eq_2, sortInt_14.f.eq_2]
    refine LeO.ite (LeO.refl _) (LeO.bind (ih _) fun _ => LeO.bind (ih _) fun _ => ?_)
    exact order_Merge_int.mono _ _ k
set_option maxHeartbeats 1600000 in
set_option maxRecDepth 100000 in
theorem sortInt_14.calls (k : Nat) : ∀ (A0 : Option Addr) (c0 : Nat) (l0 : List Int) (r : List Int) (w : World) (hr0 : Kd.C (Kd.int .i64) w A0 l0.length l0) (hc0 : l0.length ≤ c0) (h : sortInt_14.f k l0 = some r),
    Calls Try.prog 14 #[.slice A0 l0.length c0, .func (.func 13) #[] #[]] w fun e w' => ∃ v0_ : Value, e = .returned (v0_) ∧ Kd.R (Kd.int .i64) 3 w' w.heap.size (fun _ => True) v0_ r ∧ Below w.heap.size w w' := by
  induction k with
  | zero => intro A0 c0 l0 r w hr0 hc0 h; exact absurd h (by simp [sortInt_14.f])
  | succ k ih =>
  intro A0 c0 l0 r w hr0 hc0 h
  simp only [sortInt_14.f] at h
  have hmax := hr0.2.1
  have HR := Aside0.mk hr0
  have HC := Aside0.mk hc0
  clear hr0 hc0
  by_cases c1 : l0.length < 2
  · rw [if_pos c1] at h
    have H := Aside0.mk h
    clear h
    have c1b : decide (l0.length < 2) = true := decide_eq_true c1
    have c1c : decide ((l0.length : Int) < 2) = true := decide_eq_true (by omega)
    clear c1 hmax
    go_enter Try.func14, Try.ntmps14
    go_wp2_with (go_at_call 26; (with_reducible refine (int_int_26.calls _ _ l0 r _ HR.out HC.out H.out).mono ?_); rintro e w' ⟨v0, rfl, ho, hb⟩; have HO := Aside0.mk ho; have HB := Aside0.mk hb; clear ho hb)
    go_ret
    exact ⟨_, rfl, HO.out, HB.out⟩
  · rw [if_neg c1] at h
    replace h := Option.bind_eq_some_iff.mp h
    obtain ⟨ra, ha, h⟩ := h
    replace h := Option.bind_eq_some_iff.mp h
    obtain ⟨rb, hb, h⟩ := h
    have HA := Aside0.mk ha
    have HBB := Aside0.mk hb
    have HM := Aside0.mk h
    clear ha hb h
    have c1b : decide (l0.length < 2) = false := decide_eq_false c1
    have c1c : decide ((l0.length : Int) < 2) = false := decide_eq_false (by omega)
    have HL2 := Aside0.mk (show 2 ≤ l0.length by omega)
    clear c1
    obtain ⟨half, hhalf⟩ : ∃ h : Nat, h = l0.length / 2 := ⟨_, rfl⟩
    have hle : half ≤ l0.length := by rw [hhalf]; omega
    have hquo : ((l0.length : Int) / 2) = (half : Int) := by rw [hhalf]; omega
    rw [← hhalf] at HA HBB
    have HH := Aside0.mk hhalf
    clear hhalf
    obtain ⟨i0, hi0, _, hsz, _⟩ := info_parts info3
    have hcut1 : ∀ W : World, (Instr.slice 40 (.slice A0 l0.length c0) none (some (.int .i64 (half : Int))) (some (.int .i64 (half : Int)))).run Try.prog W = .ok (.slice A0 half half) W := by
      intro W
      have hel : Try.prog.elem 40 = 3 := by simp [Program.elem, Try.underlying40]
      have hu : Try.prog.underlying 40 = some (.slice (Try.prog.elem 40)) := by rw [hel]; exact Try.underlying40
      have hc := HC.out
      rw [run_slice_hm W 40 A0 l0.length c0 hu .i64 .i64 half half (by omega) (by omega) (by omega), hel]
      have hq : A0.map (·.add 0) = A0 := by cases A0 <;> simp [Addr.add]
      simp [sizeOf, typeInfo, hi0, sliced, Result.andThen, hq]
    have hcut2 := cut_from (P := Try.prog) 40 3 .i64 Try.underlying40 hi0 1 hsz A0 l0.length c0 (half : Int) (by omega) (by omega)
    simp only [Int.toNat_natCast] at hcut2
    have hr1 := Kd.C_take (m := half) HR.out hle
    have hr2 := Kd.C_drop (m := half) HR.out hle HC.out
    have e1 : (l0.take half).length = half := by simp; omega
    have e2 : (l0.drop half).length = l0.length - half := by simp
    obtain ⟨A2, hA2⟩ : ∃ A2, A2 = (if c0 = half then A0 else A0.map (·.add (half * 1))) := ⟨_, rfl⟩
    replace hr2 : Kd.C (Kd.int .i64) w A2 (l0.drop half).length (l0.drop half) := by rw [hA2]; exact hr2
    rw [← hA2] at hcut2
    have HR1 := Aside0.mk hr1
    have HR2 := Aside0.mk hr2
    have E1 := Aside0.mk e1
    have E2 := Aside0.mk e2
    have HLE := Aside0.mk hle
    have HIH := Aside0.mk ih
    clear hr1 hr2 e1 e2 hA2 hi0 hsz ih hle
    have HBW := Aside0.mk (Below.refl w.heap.size w)
    go_enter Try.func14, Try.ntmps14
    go_wp2_with fail
    refine start_ (n := 14) (S := fun _ => True) (ds := []) #[false, false, false, false, false, false, false, false, false, false, false, false, false, false] (by kernel_rfl) rfl rfl trivial (fun hHeld => ?_); refine with_tabW sortInt_14.tab4 sortInt_14.bits4 (fun HT_ HW_ => ?_)
    generalize hw0 : w.drew = w0
    have HB0 := Aside0.mk (show Below w.heap.size w w0 from by rw [← hw0]; exact below_drew HBW.out)
    clear hw0 hHeld
    refine pure_ (i := 0) (N := (some 14)) (v := ?_) (a' := ?_) #[true, false, false, false, false, false, false, false, false, false, false, false, false, false] rfl rfl (any_of HT_.out (by kernel_rfl)) (fun _ _ _ h => h) (Or.inl ⟨by rfl, ?_⟩) ?_ ?_
    rotate_left
    · intro w'
      go_simp
      with_reducible rfl
    rotate_left
    · simp only [Act.put, List.setIfInBounds_toArray, List.set_cons_zero, List.set_cons_succ, i64_w, i32_w]
      rfl
    refine pure_ (i := 1) (N := (some 15)) (v := ?_) (a' := ?_) #[true, true, false, false, false, false, false, false, false, false, false, false, false, false] rfl rfl (any_of HT_.out (by kernel_rfl)) (fun _ _ _ h => h) (Or.inl ⟨by rfl, ?_⟩) ?_ ?_
    rotate_left
    · intro w'
      go_simp
      with_reducible rfl
    rotate_left
    · simp only [Act.put, List.setIfInBounds_toArray, List.set_cons_zero, List.set_cons_succ, i64_w, i32_w]
      rfl
    refine pure_ (i := 2) (N := (some 16)) (v := ?_) (a' := ?_) #[true, true, true, false, false, false, false, false, false, false, false, false, false, false] rfl rfl (any_of HT_.out (by kernel_rfl)) (fun _ _ _ h => h) (Or.inl ⟨by rfl, ?_⟩) ?_ ?_
    rotate_left
    · intro w'
      go_simp
      with_reducible rfl
    rotate_left
    · simp only [Act.put, List.setIfInBounds_toArray, List.set_cons_zero, List.set_cons_succ, i64_w, i32_w]
      rfl
    refine pure_ (i := 4) (N := (some 18)) (v := ?_) (a' := ?_) #[true, true, true, false, true, false, false, false, false, false, false, false, false, false] rfl rfl (any_of HT_.out (by kernel_rfl)) (fun _ _ _ h => h) (Or.inl ⟨by rfl, ?_⟩) ?_ ?_
    rotate_left
    · intro w'
      go_simp
      with_reducible rfl
    rotate_left
    · simp only [Act.put, List.setIfInBounds_toArray, List.set_cons_zero, List.set_cons_succ, i64_w, i32_w]
      rfl
    refine pure_ (i := 6) (N := (some 20)) (v := ?_) (a' := ?_) #[true, true, true, false, true, false, true, false, false, false, false, false, false, false] rfl rfl (any_of HT_.out (by kernel_rfl)) (fun _ _ _ h => h) (Or.inl ⟨by rfl, ?_⟩) ?_ ?_
    rotate_left
    · intro w'
      go_simp
      with_reducible rfl
    rotate_left
    · simp only [Act.put, List.setIfInBounds_toArray, List.set_cons_zero, List.set_cons_succ, i64_w, i32_w]
      rfl
    refine pure_ (i := 7) (N := (some 21)) (v := ?_) (a' := ?_) #[true, true, true, false, true, false, true, true, false, false, false, false, false, false] rfl rfl (any_of HT_.out (by kernel_rfl)) (fun _ _ _ h => h) (Or.inl ⟨by rfl, ?_⟩) ?_ ?_
    rotate_left
    · intro w'
      go_simp
      with_reducible rfl
    rotate_left
    · simp only [Act.put, List.setIfInBounds_toArray, List.set_cons_zero, List.set_cons_succ, i64_w, i32_w]
      rfl
    refine pure_ (i := 9) (N := (some 23)) (v := ?_) (a' := ?_) #[true, true, true, false, true, false, true, true, false, true, false, false, false, false] rfl rfl (any_of HT_.out (by kernel_rfl)) (fun _ _ _ h => h) (Or.inl ⟨by rfl, ?_⟩) ?_ ?_
    rotate_left
    · intro w'
      go_simp
      with_reducible rfl
    rotate_left
    · simp only [Act.put, List.setIfInBounds_toArray, List.set_cons_zero, List.set_cons_succ, i64_w, i32_w]
      rfl
    refine pure_ (i := 11) (N := (some 25)) (v := ?_) (a' := ?_) #[true, true, true, false, true, false, true, true, false, true, false, true, false, false] rfl rfl (any_of HT_.out (by kernel_rfl)) (fun _ _ _ h => h) (Or.inl ⟨by rfl, ?_⟩) ?_ ?_
    rotate_left
    · intro w'
      go_simp
      with_reducible rfl
    rotate_left
    · simp only [Act.put, List.setIfInBounds_toArray, List.set_cons_zero, List.set_cons_succ, i64_w, i32_w]
      rfl
    refine pure_ (i := 3) (N := (some 17)) (v := ?_) (a' := ?_) #[true, true, true, true, true, false, true, true, false, true, false, true, false, false] rfl rfl (any_of HT_.out (by kernel_rfl)) (fun _ _ _ h => h) (Or.inl ⟨by rfl, ?_⟩) ?_ ?_
    rotate_left
    · intro w'
      first | (go_simp; with_reducible rfl) | (go_simp; simp only [hcut1, hcut2]; rfl)
    rotate_left
    · simp only [Act.put, List.setIfInBounds_toArray, List.set_cons_zero, List.set_cons_succ, i64_w, i32_w]
      rfl
    refine pure_ (i := 8) (N := (some 22)) (v := ?_) (a' := ?_) #[true, true, true, true, true, false, true, true, true, true, false, true, false, false] rfl rfl (any_of HT_.out (by kernel_rfl)) (fun _ _ _ h => h) (Or.inl ⟨by rfl, ?_⟩) ?_ ?_
    rotate_left
    · intro w'
      first | (go_simp; with_reducible rfl) | (go_simp; simp only [hcut1, hcut2]; rfl)
    rotate_left
    · simp only [Act.put, List.setIfInBounds_toArray, List.set_cons_zero, List.set_cons_succ, i64_w, i32_w]
      rfl
    refine one_ (i := 5) (N := (some 19)) #[true, true, true, true, true, true, true, true, true, true, false, true, false, false] rfl rfl (one_of HT_.out (by kernel_rfl)) (by decide) (fun K hK => ?_)
    refine goes_ Try.func14 (by kernel_rfl) rfl #[.slice A0 half half, .func (.func 13) #[] #[]] (by rfl) rfl rfl (by (try simp only [List.map_toArray, List.map_cons, List.map_nil]); first | done | rfl) ?_
    have HK1 := HIH.out A0 half (l0.take half) ra w0 (by rw [E1.out]; have z := Kd.C_below HR1.out HB0.out; rw [E1.out] at z; exact z) (by rw [E1.out]; exact Nat.le_refl _) HA.out
    rw [E1.out] at HK1
    refine HK1.mono ?_
    clear HK1
    rintro e w1 ⟨v1, rfl, ho, hb⟩
    refine ⟨_, rfl, ?_⟩
    have HO1 := Aside0.mk ho
    have HB1 := Aside0.mk (below_step HB0.out hb)
    have HB01 := Aside0.mk hb
    clear ho hb
    refine hK.out _ _ trivial (fun hHeld => ?_)
    clear hK K
    refine norm_ (a' := ?_) ?_ ?_
    rotate_left
    · show Act.put _ (some 19) _ = _
      simp only [Act.put, List.setIfInBounds_toArray, List.set_cons_zero, List.set_cons_succ, i64_w, i32_w]
      rfl
    refine one_ (i := 10) (N := (some 24)) #[true, true, true, true, true, true, true, true, true, true, true, true, false, false] rfl rfl (one_of HT_.out (by kernel_rfl)) (by decide) (fun K hK => ?_)
    refine goes_ Try.func14 (by kernel_rfl) rfl #[.slice A2 (l0.length - half) (c0 - half), .func (.func 13) #[] #[]] (by rfl) rfl rfl (by (try simp only [List.map_toArray, List.map_cons, List.map_nil]); first | done | rfl) ?_
    have HK2 := HIH.out A2 (c0 - half) (l0.drop half) rb w1 (by have z := Kd.C_below HR2.out HB1.out; exact z) (by rw [E2.out]; have := HC.out; omega) HBB.out
    rw [E2.out] at HK2
    refine HK2.mono ?_
    clear HK2
    rintro e w2 ⟨v2, rfl, ho, hb⟩
    refine ⟨_, rfl, ?_⟩
    have HO1' := Aside0.mk (Kd.R_below HO1.out hb)
    have HO2 := Aside0.mk ho
    have HB2 := Aside0.mk (below_step HB1.out hb)
    clear ho hb HO1
    refine hK.out _ _ trivial (fun hHeld => ?_)
    clear hK K
    refine norm_ (a' := ?_) ?_ ?_
    rotate_left
    · show Act.put _ (some 24) _ = _
      simp only [Act.put, List.setIfInBounds_toArray, List.set_cons_zero, List.set_cons_succ, i64_w, i32_w]
      rfl
    obtain ⟨Aa, ca, ea⟩ := Kd.R_slice HO1'.out
    obtain ⟨Ab, cb, eb⟩ := Kd.R_slice HO2.out
    subst ea
    subst eb
    refine one_ (i := 12) (N := (some 26)) #[true, true, true, true, true, true, true, true, true, true, true, true, true, false] rfl rfl (one_of HT_.out (by kernel_rfl)) (by decide) (fun K hK => ?_)
    refine goes_ Try.func15 (by kernel_rfl) rfl #[.slice Aa ra.length ca, .slice Ab rb.length cb, .func (.func 13) #[] #[]] (by rfl) rfl rfl (by (try simp only [List.map_toArray, List.map_cons, List.map_nil]); first | done | rfl) ?_
    refine (order_Merge_int.calls k (fun _ => True) Aa ca ra (fun _ => True) Ab cb rb r w2 (Kd.R_V HO1'.out) (Kd.R_V HO2.out) HM.out).mono ?_
    rintro e w3 ⟨v3, rfl, ho, hb⟩
    refine ⟨_, rfl, ?_⟩
    have HO3 := Aside0.mk ho
    have HB3 := Aside0.mk (below_step HB2.out hb)
    have HB23 := Aside0.mk hb
    have HSZ := Aside0.mk HB2.out.size
    clear ho hb
    refine hK.out _ _ trivial (fun hHeld => ?_)
    clear hK K
    refine norm_ (a' := ?_) ?_ ?_
    rotate_left
    · show Act.put _ (some 26) _ = _
      simp only [Act.put, List.setIfInBounds_toArray, List.set_cons_zero, List.set_cons_succ, i64_w, i32_w]
      rfl
    refine pure_ (i := 13) (N := (some 4)) (v := ?_) (a' := ?_) #[true, true, true, true, true, true, true, true, true, true, true, true, true, true] rfl rfl (any_of HT_.out (by kernel_rfl)) (fun _ _ _ h => h) (Or.inl ⟨by rfl, ?_⟩) ?_ ?_
    rotate_left
    · intro w'
      go_simp
      with_reducible rfl
    rotate_left
    · simp only [Act.put, List.setIfInBounds_toArray, List.set_cons_zero, List.set_cons_succ, i64_w, i32_w]
      rfl
    refine done_ (done_of HT_.out (by kernel_rfl)) ?_
    try go_wp2_with fail
    go_ret
    exact ⟨_, rfl, Kd.R_mono (Kd.R_lower HO3.out HSZ.out) (fun _ _ => trivial), HB3.out⟩
end Go.Proofs.Ytcfnheoppaelbaa.F
