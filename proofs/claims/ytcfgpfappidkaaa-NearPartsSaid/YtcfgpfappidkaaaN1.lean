/- near.Index in memory; where a pixel stands in it (at), and what is told of it: Get, Len, All, Copy, walked by hand. Conditions: its row rises. -/
import Derived.Test.YtcfgpfappidkaaaN0
import Derived.Test.YtcfgpfappidkaaaHClone
namespace Go.Proofs.Ytcfgpfappidkaaa.F
open Go.RowKit Go.Proofs.YtcfgpfappidkaaaW.PrintWords Go.Proofs.YtcfgpfappidkaaaW.PrintLast Go.Proofs.YtcfgpfappidkaaaW.PrintMore
set_option linter.unusedVariables false
set_option linter.unusedSimpArgs false
def near_at.T1 : Bool × List (List Nat × List Nat) := (true, [([], []), ([0], [0]), ([1], [1]), ([2], [2]), ([], []), ([3, 4], [3, 4]), ([5], [5]), ([5], [5]), ([6, 5, 0, 1, 2, 3, 4, 5, 6, 7], [6]), ([7, 8, 0, 1, 2, 3, 4, 5, 6, 7, 8], [7])])
def near_at.B1 : List Nat := [0, 1, 3, 7, 0, 31, 63, 63, 255, 511]
theorem near_at.tab1 : rtab .any (opsOf Try.f21 1) = near_at.T1 := by kernel_rfl
theorem near_at.bits1 : waitsOk near_at.T1.2 near_at.B1 = true := by kernel_rfl
/-- An index lies in block bx: its row s has the entries l. -/
structure IdxAt (w : World) (bx : Nat) (s : Value) (l : List S52) : Prop where
  blk : w.heap[bx]? = some (.cells #[s] 27 (0, 0))
  row : Kd.R k52 52 w 0 (fun _ => True) s l
  ne : some bx ≠ s.ownBlock
theorem IdxAt.lt {w : World} {bx : Nat} {s : Value} {l : List S52} (h : IdxAt w bx s l) : bx < w.heap.size := blk_lt h.blk
theorem IdxAt.below {w w' : World} {bx : Nat} {s : Value} {l : List S52} (h : IdxAt w bx s l) (hb : Below w.heap.size w w') : IdxAt w' bx s l :=
  ⟨(hb.block _ h.lt).trans h.blk, Kd.R_below h.row hb, h.ne⟩
theorem IdxAt.cell {w : World} {bx : Nat} {s : Value} {l : List S52} (h : IdxAt w bx s l) : w.cell? ⟨bx, 0, none⟩ = some s := blk_cell h.blk 0
/-- How long a row may be here. -/
def Fits (l : List S52) : Prop := l.length < 1099511627776
set_option maxHeartbeats 4000000 in
set_option maxRecDepth 100000 in
theorem near_at.calls (bx : Nat) (s : Value) (l : List S52) (qx qy : Int) (w : World) (hI : IdxAt w bx s l) (hs : Rising l) (hf : Fits l) :
    Calls Try.prog 21 #[.pointer (some ⟨bx, 0, none⟩), .agg #[.int .i64 qx, .int .i64 qy]] w fun e w' => e = .returned (.tuple #[.int .i64 (rank l qx qy : Nat), .bool (has l qx qy)]) ∧ Below w.heap.size w w' := by
  obtain ⟨A, c, rfl, hc, hC⟩ := Kd.R_reads hI.row
  have HI := Aside0.mk hI.cell
  have HL := Aside0.mk hI.lt
  have HC := Aside0.mk hC
  have HS := Aside0.mk hs
  have HF := Aside0.mk hf
  have Hc := Aside0.mk hc
  have T0 : Aside0 (TgtAt (w.alloc (.cells #[.int .i64 qx, .int .i64 qy] 35)) w.heap.size qx qy) := Aside0.mk (TgtAt.new _ _ _)
  have B1 : Aside0 (Below w.heap.size w (w.alloc (.cells #[.int .i64 qx, .int .i64 qy] 35))) := Aside0.mk (below_alloc (Below.refl _ _) _)
  clear hI hs hf hC hc
  go_enter Try.func21, Try.ntmps21
  go_wp2_with fail
  generalize w.alloc (.cells #[.int .i64 qx, .int .i64 qy] 35) = w1 at T0 B1 ⊢
  have hb := below_drew (Below.refl w1.heap.size w1)
  have hh : w1.drew.cell? ⟨bx, 0, none⟩ = some (.slice A l.length c) ∧ TgtAt w1.drew w.heap.size qx qy := ⟨(hb.cell (p := ⟨bx, 0, none⟩) (Nat.lt_of_lt_of_le HL.out B1.out.size)).trans ((B1.out.cell (p := ⟨bx, 0, none⟩) HL.out).trans HI.out), T0.out.below hb⟩
  have B2 := Aside0.mk (below_step B1.out hb)
  refine start_ (n := 10) (S := fun W => W.cell? ⟨bx, 0, none⟩ = some (.slice A l.length c) ∧ TgtAt W w.heap.size qx qy) (ds := []) #[false, false, false, false, false, false, false, false, false, false] (by kernel_rfl) rfl rfl hh (fun hHeld => ?_); refine with_tabW near_at.tab1 near_at.bits1 (fun HT_ HW_ => ?_)
  generalize w1.drew = w2 at hHeld B2
  clear hh hb T0 B1
  refine pure_ (i := 0) (N := (some 6)) (v := ?_) (a' := ?_) #[true, false, false, false, false, false, false, false, false, false] rfl rfl (any_of HT_.out (by kernel_rfl)) (fun _ _ _ h => h) (Or.inl ⟨by rfl, ?_⟩) ?_ ?_
  rotate_left
  · intro w'
    go_simp
    with_reducible rfl
  rotate_left
  · simp only [Act.put, List.setIfInBounds_toArray, List.set_cons_zero, List.set_cons_succ, i64_w, i32_w]
    rfl
  refine pure_ (i := 1) (N := (some 7)) (v := ?_) (a' := ?_) #[true, true, false, false, false, false, false, false, false, false] rfl rfl (any_of HT_.out (by kernel_rfl)) (fun _ _ _ h => h) (Or.inl ⟨by rfl, ?_⟩) ?_ ?_
  rotate_left
  · intro w'
    go_simp
    with_reducible rfl
  rotate_left
  · simp only [Act.put, List.setIfInBounds_toArray, List.set_cons_zero, List.set_cons_succ, i64_w, i32_w]
    rfl
  refine pure_ (i := 2) (N := (some 8)) (v := ?_) (a' := ?_) #[true, true, true, false, false, false, false, false, false, false] rfl rfl (any_of HT_.out (by kernel_rfl)) (fun _ _ _ h => h) (Or.inl ⟨by rfl, ?_⟩) ?_ ?_
  rotate_left
  · intro w'
    go_simp
    with_reducible rfl
  rotate_left
  · simp only [Act.put, List.setIfInBounds_toArray, List.set_cons_zero, List.set_cons_succ, i64_w, i32_w]
    rfl
  refine take_ (i := 3) (N := (some 9)) (v := ?_) (a' := ?_) #[true, true, true, true, false, false, false, false, false, false] rfl rfl (take_ofW HT_.out HW_.out (by kernel_rfl)) (fun _ _ _ h => h) (Or.inl ⟨by rfl, ?_⟩) hHeld ?_ ?_
  rotate_left
  · rintro w' ⟨s, t⟩
    have h0 := s
    go_simp
    with_reducible rfl
  rotate_left
  · simp only [Act.put, List.setIfInBounds_toArray, List.set_cons_zero, List.set_cons_succ, i64_w, i32_w]
    rfl
  refine take_ (i := 4) (N := (some 10)) (v := ?_) (a' := ?_) #[true, true, true, true, true, false, false, false, false, false] rfl rfl (take_ofW HT_.out HW_.out (by kernel_rfl)) (fun _ _ _ h => h) (Or.inl ⟨by rfl, ?_⟩) hHeld ?_ ?_
  rotate_left
  · rintro w' ⟨s, t⟩
    have h0 := t.c0
    have h1 := t.c1
    go_simp
    with_reducible rfl
  rotate_left
  · simp only [Act.put, List.setIfInBounds_toArray, List.set_cons_zero, List.set_cons_succ, i64_w, i32_w]
    rfl
  refine one_ (i := 5) (N := (some 11)) #[true, true, true, true, true, true, false, false, false, false] rfl rfl (one_of HT_.out (by kernel_rfl)) (by decide) (fun K hK => ?_)
  refine goes_ Try.func24 (by kernel_rfl) rfl #[.slice A l.length c, .agg #[.int .i64 qx, .int .i64 qy], .func (.func 25) #[] #[]] (by rfl) rfl rfl (by (try simp only [List.map_toArray, List.map_cons, List.map_nil]); first | done | rfl) ?_
  with_reducible refine (bsearch.calls A c l qx qy _ (Kd.C_below HC.out B2.out) Hc.out HS.out (by have := HF.out; unfold Fits at this; omega)).mono ?_
  rintro e w3 ⟨rfl, hb⟩
  refine ⟨_, rfl, ?_⟩
  have S3 := Aside0.mk (below_step B2.out hb)
  have hHeld2 : _ ∧ _ := ⟨(hb.cell (p := ⟨bx, 0, none⟩) (Nat.lt_of_lt_of_le HL.out B2.out.size)).trans hHeld.1, hHeld.2.below hb⟩
  clear hHeld B2 hb
  refine hK.out _ _ hHeld2 (fun hHeld => ?_)
  clear hK K hHeld2
  refine norm_ (a' := ?_) ?_ ?_
  rotate_left
  · show Act.put _ (some 11) _ = _
    simp only [Act.put, List.setIfInBounds_toArray, List.set_cons_zero, List.set_cons_succ, i64_w, i32_w]
    rfl
  refine pure_ (i := 6) (N := (some 12)) (v := ?_) (a' := ?_) #[true, true, true, true, true, true, true, false, false, false] rfl rfl (any_of HT_.out (by kernel_rfl)) (fun _ _ _ h => h) (Or.inl ⟨by rfl, ?_⟩) ?_ ?_
  rotate_left
  · intro w'
    go_simp
    with_reducible rfl
  rotate_left
  · simp only [Act.put, List.setIfInBounds_toArray, List.set_cons_zero, List.set_cons_succ, i64_w, i32_w]
    rfl
  refine pure_ (i := 7) (N := (some 13)) (v := ?_) (a' := ?_) #[true, true, true, true, true, true, true, true, false, false] rfl rfl (any_of HT_.out (by kernel_rfl)) (fun _ _ _ h => h) (Or.inl ⟨by rfl, ?_⟩) ?_ ?_
  rotate_left
  · intro w'
    go_simp
    with_reducible rfl
  rotate_left
  · simp only [Act.put, List.setIfInBounds_toArray, List.set_cons_zero, List.set_cons_succ, i64_w, i32_w]
    rfl
  refine pure_ (i := 8) (N := (some 4)) (v := ?_) (a' := ?_) #[true, true, true, true, true, true, true, true, true, false] rfl rfl (any_of HT_.out (by kernel_rfl)) (fun _ _ _ h => h) (Or.inl ⟨by rfl, ?_⟩) ?_ ?_
  rotate_left
  · intro w'
    go_simp
    with_reducible rfl
  rotate_left
  · simp only [Act.put, List.setIfInBounds_toArray, List.set_cons_zero, List.set_cons_succ, i64_w, i32_w]
    rfl
  refine pure_ (i := 9) (N := (some 5)) (v := ?_) (a' := ?_) #[true, true, true, true, true, true, true, true, true, true] rfl rfl (any_of HT_.out (by kernel_rfl)) (fun _ _ _ h => h) (Or.inl ⟨by rfl, ?_⟩) ?_ ?_
  rotate_left
  · intro w'
    go_simp
    with_reducible rfl
  rotate_left
  · simp only [Act.put, List.setIfInBounds_toArray, List.set_cons_zero, List.set_cons_succ, i64_w, i32_w]
    rfl
  refine done_ (done_of HT_.out (by kernel_rfl)) ?_
  go_wp2_with fail
  go_ret2
  exact ⟨rfl, S3.out⟩
/-- What Get tells. -/
def valOf (l : List S52) (qx qy : Int) : Int := if has l qx qy = true then (rd_T52 l (rank l qx qy : Nat)).f1 else 0
set_option maxHeartbeats 4000000 in
set_option maxRecDepth 100000 in
theorem near_Get.calls (bx : Nat) (s : Value) (l : List S52) (qx qy : Int) (w : World) (hI : IdxAt w bx s l) (hs : Rising l) (hf : Fits l) :
    Calls Try.prog 16 #[.pointer (some ⟨bx, 0, none⟩), .agg #[.int .i64 qx, .int .i64 qy]] w fun e w' => e = .returned (.tuple #[.int .i64 (valOf l qx qy), .bool (has l qx qy)]) ∧ Below w.heap.size w w' := by
  obtain ⟨z, hz⟩ : ∃ z, z = has l qx qy := ⟨_, rfl⟩
  obtain ⟨rk, hr⟩ : ∃ k, k = rank l qx qy := ⟨_, rfl⟩
  have HA : Aside0 (∀ W, IdxAt W bx s l → Calls Try.prog 21 #[.pointer (some ⟨bx, 0, none⟩), .agg #[.int .i64 qx, .int .i64 qy]] W fun e w' => e = .returned (.tuple #[.int .i64 (rk : Nat), .bool z]) ∧ Below W.heap.size W w') := ⟨fun W h => by rw [hz, hr]; exact near_at.calls bx s l qx qy W h hs hf⟩
  have hl : z = true → rk < l.length := fun e => by subst hz; subst hr; unfold has at e; simp at e; exact e.1
  have hv : valOf l qx qy = if z = true then (rd_T52 l (rk : Nat)).f1 else 0 := by unfold valOf; rw [hz, hr]
  rw [hv, ← hz]
  clear hz hr hv
  have T0 : Aside0 (TgtAt (w.alloc (.cells #[.int .i64 qx, .int .i64 qy] 35)) w.heap.size qx qy) := Aside0.mk (TgtAt.new _ _ _)
  have B1 : Aside0 (Below w.heap.size w (w.alloc (.cells #[.int .i64 qx, .int .i64 qy] 35))) := Aside0.mk (below_alloc (Below.refl _ _) _)
  have HI := Aside0.mk hI
  clear hI hs hf
  have t0 := T0.out.c0
  have t1 := T0.out.c1
  cases z
  · rw [if_neg (by decide)]
    clear hl
    go_enter Try.func16, Try.ntmps16
    go_wp2_with fail
    generalize w.alloc (.cells #[.int .i64 qx, .int .i64 qy] 35) = w1 at T0 B1 t0 t1 ⊢
    have I1 := Aside0.mk (HI.out.below B1.out)
    go_wp2_with (go_at_call 21; (with_reducible refine (HA.out _ I1.out).mono ?_); rintro e w2 ⟨rfl, hb⟩; have B2 := Aside0.mk (below_step B1.out hb); clear t0 t1 T0 B1 I1 hb)
    go_ret2
    exact ⟨rfl, B2.out⟩
  · rw [if_pos rfl]
    have HLT := Aside0.mk (hl rfl)
    clear hl
    go_enter Try.func16, Try.ntmps16
    go_wp2_with fail
    generalize w.alloc (.cells #[.int .i64 qx, .int .i64 qy] 35) = w1 at T0 B1 t0 t1 ⊢
    have I1 := Aside0.mk (HI.out.below B1.out)
    go_wp2_with (go_at_call 21; (with_reducible refine (HA.out _ I1.out).mono ?_); rintro e w2 ⟨rfl, hb⟩; have B2 := Aside0.mk (below_step B1.out hb); have I2 := Aside0.mk (HI.out.below B2.out); obtain ⟨A, c, rfl, hc, hC⟩ := Kd.R_reads I2.out.row; have hcell := I2.out.cell; obtain ⟨ad, e1, ee⟩ := ent_of hC (rk : Int) (by omega) (by have := HLT.out; omega); cases e1; rw [Int.toNat_natCast] at ee; have h0 := ee.c0; have h1 := ee.c1; have h2 := ee.c2; have q1 : (0 ≤ (rk : Int)) = True := eq_true (by omega); have q2 : ((rk : Int) < (l.length : Int)) = True := eq_true (by have := HLT.out; omega); clear hC ee t0 t1 T0 B1 I1 hb)
    go_ret2
    exact ⟨rfl, B2.out⟩
set_option maxHeartbeats 4000000 in
set_option maxRecDepth 100000 in
theorem near_Len.calls (bx : Nat) (s : Value) (l : List S52) (w : World) (hI : IdxAt w bx s l) :
    Calls Try.prog 12 #[.pointer (some ⟨bx, 0, none⟩)] w fun e w' => e = .returned (.int .i64 (l.length : Int)) ∧ w' = w := by
  obtain ⟨A, c, rfl, hc, hC⟩ := Kd.R_reads hI.row
  have hcell := hI.cell
  clear hI hC
  go_enter Try.func12, Try.ntmps12
  go_wp2_with fail
  go_ret
  exact ⟨rfl, rfl⟩
set_option maxHeartbeats 4000000 in
set_option maxRecDepth 100000 in
theorem near_All.calls (bx : Nat) (s : Value) (l : List S52) (w : World) (hI : IdxAt w bx s l) (hf : Fits l) :
    Calls Try.prog 14 #[.pointer (some ⟨bx, 0, none⟩)] w fun e w' => ∃ v, e = .returned v ∧ Kd.R k52 52 w' w.heap.size (fun _ => True) v l ∧ Below w.heap.size w w' := by
  obtain ⟨A, c, rfl, hc, hC⟩ := Kd.R_reads hI.row
  have hcell := hI.cell
  have HC := Aside0.mk hC
  have Hc := Aside0.mk hc
  have H := Aside0.mk (show near_Entry_int_23.f l = some l by unfold near_Entry_int_23.f; unfold Fits at hf; rw [if_pos (by omega)])
  clear hI hC hc hf
  go_enter Try.func14, Try.ntmps14
  go_wp2_with (go_at_call 23; (with_reducible refine (near_Entry_int_23.calls _ _ l l _ HC.out Hc.out H.out).mono ?_); rintro e w2 ⟨v, rfl, ho, hb⟩; have HO := Aside0.mk ho; have HB := Aside0.mk hb; clear ho hb)
  go_ret
  exact ⟨_, rfl, HO.out, HB.out⟩
end Go.Proofs.Ytcfgpfappidkaaa.F
