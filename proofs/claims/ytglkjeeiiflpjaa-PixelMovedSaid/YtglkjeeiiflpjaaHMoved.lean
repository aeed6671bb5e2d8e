/- PixelMoved, walked by hand. Conditions: none beyond the law's own guards. -/
import Derived.Test.YtglkjeeiiflpjaaPV
import Derived.Test.YtglkjeeiiflpjaaHAlive06
namespace Go.Proofs.Ytglkjeeiiflpjaa.F
open Go.RowKit Go.Proofs.Ytglkjeeiiflpjaa.PxM Go.Proofs.YtglkjeeiiflpjaaW.PrintWords Go.Proofs.YtglkjeeiiflpjaaW.PrintLast Go.Proofs.YtglkjeeiiflpjaaW.PrintMore
set_option linter.unusedVariables false
set_option linter.unusedSimpArgs false
def pixelMoved.T1 : Bool × List (List Nat × List Nat) := (true, [([], []), ([0], [0]), ([], []), ([2], [2]), ([], []), ([4], [4]), ([1, 0, 1], [1]), ([3, 6, 0, 1, 2, 3, 6], [3]), ([5, 7, 0, 1, 2, 3, 4, 5, 6, 7], [5])])
def pixelMoved.B1 : List Nat := [0, 1, 0, 4, 0, 16, 3, 79, 255]
theorem pixelMoved.tab1 : rtab .any (opsOf Try.f7 1) = pixelMoved.T1 := by kernel_rfl
theorem pixelMoved.bits1 : waitsOk pixelMoved.T1.2 pixelMoved.B1 = true := by kernel_rfl
def pixelMoved.T16 : Bool × List (List Nat × List Nat) := (true, [([], []), ([0, 0], [0]), ([1], [1]), ([1], [1]), ([2, 3, 1, 1], [1, 2, 3]), ([4, 1], [1, 4]), ([5, 4, 1], [1, 5]), ([6], [6]), ([7, 6], [6, 7]), ([6], [6]), ([9, 6], [6, 9]), ([6], [6]), ([6], [6]), ([8, 10, 11, 12, 6, 6], [6, 8, 10, 11, 12]), ([6], [6]), ([14, 6], [6, 14]), ([6], [6]), ([16, 6], [6, 16]), ([6], [6]), ([6], [6]), ([15, 17, 18, 19, 13, 6], [6, 15, 17, 18, 19]), ([13, 20, 6], [6, 13, 20]), ([6, 21, 1], [1, 6, 21]), ([1, 22], [1, 22]), ([23, 20, 0, 1, 2, 3, 4, 5, 6, 7, 8, 9, 10, 11, 12, 13, 14, 15, 16, 17, 18, 19, 20, 21, 22, 23], [23])])
def pixelMoved.B16 : List Nat := [0, 1, 3, 3, 15, 31, 63, 127, 255, 127, 639, 127, 127, 8191, 127, 16511, 127, 65663, 127, 127, 1048575, 2097151, 4194303, 8388607, 16777215]
theorem pixelMoved.tab16 : rtab .any (opsOf Try.f7 16) = pixelMoved.T16 := by kernel_rfl
theorem pixelMoved.bits16 : waitsOk pixelMoved.T16.2 pixelMoved.B16 = true := by kernel_rfl
theorem bkc {w : World} {g : Nat} {t : TypeId} {cs : Array Value} (h : w.heap[g]? = some (.cells cs t (0, 0))) (i : Nat) (v : Value) (hv : cs[i]? = some v) : w.cell? ⟨g, i, none⟩ = some v := (blk_cell h i).trans hv
theorem bkb {w w' : World} {g : Nat} {o : Obj} (h : w.heap[g]? = some o) (hb : Below w.heap.size w w') : w'.heap[g]? = some o := (hb.block g (blk_lt h)).trans h
theorem alive_m (w : World) : Calls Try.prog 13 #[] w fun e w' => e = .returned (.bool true) ∧ Below w.heap.size w w' := cobweblaw06_alive.calls0 w
theorem rung_m (k : Int) (w : World) : Calls Try.prog 15 #[.int .i64 k] w fun e w' => e = .returned (.int .i64 (rungR k)) ∧ Below w.heap.size w w' := (cobwebref03_Rung.calls k _ w (Rung_eq k)).mono fun e w' h => ⟨h.1, h.2.below⟩
theorem size_m (k : Int) (h0 : 0 ≤ k) (h1 : k ≤ 28) (w : World) : Calls Try.prog 17 #[.int .i64 k] w fun e w' => e = .returned (.int .i64 (sz k)) ∧ Below w.heap.size w w' := (cobwebref03_Size.calls 40 k _ w (Size_eq h0 h1)).mono fun e w' h => ⟨h.1, h.2.below⟩
theorem right_m (x y : Int) (w : World) : Calls Try.prog 19 #[.agg #[.int .i64 x, .int .i64 y]] w fun e w' => e = .returned (.bool (rightB 134217728 x y)) ∧ Below w.heap.size w w' := cobwebref05_Right.calls x y _ w (right05V x y)
theorem in_m (qx qy k : Int) (w : World) : Calls Try.prog 20 #[.agg #[.int .i64 qx, .int .i64 qy], .int .i64 k] w fun e w' => e = .returned (.bool (nearB k qx && nearB k qy)) ∧ Below w.heap.size w w' := grid_In.calls qx qy k _ w rfl
theorem hits_m (ax ay bx yb qx qy k : Int) (w : World) : Calls Try.prog 14 #[.agg #[.int .i64 ax, .int .i64 ay], .agg #[.int .i64 bx, .int .i64 yb], .agg #[.int .i64 qx, .int .i64 qy], .int .i64 k] w fun e w' => e = .returned (.bool (hitsB ax ay bx yb qx qy k)) ∧ Below w.heap.size w w' := pixel_Hits.calls 1 ax ay bx yb qx qy k _ w (Hits_eq 0 ax ay bx yb qx qy k)
theorem wsum {a d : Int} (h1 : -134217728 ≤ a) (h2 : a ≤ 134217728) (h3 : -281474976710656 ≤ d) (h4 : d ≤ 281474976710656) : wrap64 (a + d) = a + d := w64 (by omega) (by omega)
theorem idx0 (a b c d : Int) (w : World) : (Instr.index 24 (.agg #[.int .i64 a, .int .i64 b, .int .i64 c, .int .i64 d]) (.int .i64 0)).run Try.prog w = .ok (.agg #[.int .i64 a, .int .i64 b]) w := by
  have h24 := Try.underlying24
  have h23 := Try.underlying23
  unfold Instr.index
  simp [run_underlying Try.underlying24, part]
  go_simp
theorem idx1 (a b c d : Int) (w : World) : (Instr.index 24 (.agg #[.int .i64 a, .int .i64 b, .int .i64 c, .int .i64 d]) (.int .i64 1)).run Try.prog w = .ok (.agg #[.int .i64 c, .int .i64 d]) w := by
  have h24 := Try.underlying24
  have h23 := Try.underlying23
  unfold Instr.index
  simp [run_underlying Try.underlying24, part]
  go_simp
theorem znear {k q x : Int} (h : nearB k q = true) (h1 : -1048576 ≤ x) (h2 : x ≤ 1048576) : wrap64 (q + x) = q + x := by
  have hm := mostAt_bounds k
  unfold nearB at h
  rw [Bool.and_eq_true, decide_eq_true_eq, decide_eq_true_eq] at h
  exact w64 (by omega) (by omega)
/-- The moved points, so far. -/
def tcell (i : Nat) (a b c d : Int) : Array Value := match i with
  | 0 => #[.int .i64 0, .int .i64 0, .int .i64 0, .int .i64 0]
  | 1 => #[.int .i64 a, .int .i64 b, .int .i64 0, .int .i64 0]
  | _ => #[.int .i64 a, .int .i64 b, .int .i64 c, .int .i64 d]
set_option maxHeartbeats 16000000 in
set_option maxRecDepth 100000 in
theorem pixelMoved.walk (ax ay bx yb qx qy k x y : Int) (w : World) :
    Calls Try.prog 7 #[.agg #[.int .i64 ax, .int .i64 ay, .int .i64 bx, .int .i64 yb], .agg #[.int .i64 qx, .int .i64 qy], .agg #[.int .i64 k, .int .i64 x, .int .i64 y]] w fun e w' => e = .returned (.bool true) ∧ Below w.heap.size w w' := by
  have hb1 := below_alloc (Below.refl _ w) (.cells #[.int .i64 ax, .int .i64 ay, .int .i64 bx, .int .i64 yb] 24 (0, 0))
  have hb2 := below_alloc hb1 (.cells #[.int .i64 qx, .int .i64 qy] 30 (0, 0))
  have hb3 := below_alloc hb2 (.cells #[.int .i64 k, .int .i64 x, .int .i64 y] 41 (0, 0))
  have hbd := below_drew hb3
  have k3 : (((w.alloc (.cells #[.int .i64 ax, .int .i64 ay, .int .i64 bx, .int .i64 yb] 24 (0, 0))).alloc (.cells #[.int .i64 qx, .int .i64 qy] 30 (0, 0))).alloc (.cells #[.int .i64 k, .int .i64 x, .int .i64 y] 41 (0, 0))).heap[w.heap.size]? = some (.cells #[.int .i64 ax, .int .i64 ay, .int .i64 bx, .int .i64 yb] 24 (0, 0)) := bkb (bkb (heap_alloc_new w (.cells #[.int .i64 ax, .int .i64 ay, .int .i64 bx, .int .i64 yb] 24 (0, 0))) (below_alloc (Below.refl _ _) (.cells #[.int .i64 qx, .int .i64 qy] 30 (0, 0)))) (below_alloc (Below.refl _ _) (.cells #[.int .i64 k, .int .i64 x, .int .i64 y] 41 (0, 0)))
  have k4 : (((w.alloc (.cells #[.int .i64 ax, .int .i64 ay, .int .i64 bx, .int .i64 yb] 24 (0, 0))).alloc (.cells #[.int .i64 qx, .int .i64 qy] 30 (0, 0))).alloc (.cells #[.int .i64 k, .int .i64 x, .int .i64 y] 41 (0, 0))).heap[(w.alloc (.cells #[.int .i64 ax, .int .i64 ay, .int .i64 bx, .int .i64 yb] 24 (0, 0))).heap.size]? = some (.cells #[.int .i64 qx, .int .i64 qy] 30 (0, 0)) := bkb (heap_alloc_new (w.alloc (.cells #[.int .i64 ax, .int .i64 ay, .int .i64 bx, .int .i64 yb] 24 (0, 0))) (.cells #[.int .i64 qx, .int .i64 qy] 30 (0, 0))) (below_alloc (Below.refl _ _) (.cells #[.int .i64 k, .int .i64 x, .int .i64 y] 41 (0, 0)))
  have k5 : (((w.alloc (.cells #[.int .i64 ax, .int .i64 ay, .int .i64 bx, .int .i64 yb] 24 (0, 0))).alloc (.cells #[.int .i64 qx, .int .i64 qy] 30 (0, 0))).alloc (.cells #[.int .i64 k, .int .i64 x, .int .i64 y] 41 (0, 0))).drew.heap[((w.alloc (.cells #[.int .i64 ax, .int .i64 ay, .int .i64 bx, .int .i64 yb] 24 (0, 0))).alloc (.cells #[.int .i64 qx, .int .i64 qy] 30 (0, 0))).heap.size]? = some (.cells #[.int .i64 k, .int .i64 x, .int .i64 y] 41 (0, 0)) := heap_alloc_new ((w.alloc (.cells #[.int .i64 ax, .int .i64 ay, .int .i64 bx, .int .i64 yb] 24 (0, 0))).alloc (.cells #[.int .i64 qx, .int .i64 qy] 30 (0, 0))) (.cells #[.int .i64 k, .int .i64 x, .int .i64 y] 41 (0, 0))
  have e4 : (w.alloc (.cells #[.int .i64 ax, .int .i64 ay, .int .i64 bx, .int .i64 yb] 24 (0, 0))).heap.size = w.heap.size + 1 := by simp
  have e5 : ((w.alloc (.cells #[.int .i64 ax, .int .i64 ay, .int .i64 bx, .int .i64 yb] 24 (0, 0))).alloc (.cells #[.int .i64 qx, .int .i64 qy] 30 (0, 0))).heap.size = w.heap.size + 1 + 1 := by simp
  rw [e4] at k4
  rw [e5] at k5
  have HB2 := Aside0.mk hbd
  have K3 := Aside0.mk (show (((w.alloc (.cells #[.int .i64 ax, .int .i64 ay, .int .i64 bx, .int .i64 yb] 24 (0, 0))).alloc (.cells #[.int .i64 qx, .int .i64 qy] 30 (0, 0))).alloc (.cells #[.int .i64 k, .int .i64 x, .int .i64 y] 41 (0, 0))).drew.heap[w.heap.size]? = some (.cells #[.int .i64 ax, .int .i64 ay, .int .i64 bx, .int .i64 yb] 24 (0, 0)) from k3)
  have K4 := Aside0.mk (show (((w.alloc (.cells #[.int .i64 ax, .int .i64 ay, .int .i64 bx, .int .i64 yb] 24 (0, 0))).alloc (.cells #[.int .i64 qx, .int .i64 qy] 30 (0, 0))).alloc (.cells #[.int .i64 k, .int .i64 x, .int .i64 y] 41 (0, 0))).drew.heap[w.heap.size + 1]? = some (.cells #[.int .i64 qx, .int .i64 qy] 30 (0, 0)) from k4)
  clear hb1 hb2 hb3 hbd k3 k4 e4 e5
  go_enter Try.func7, Try.ntmps7
  go_wp2_with fail
  refine start_ (n := 9) (S := fun W => W.heap[w.heap.size + 1 + 1]? = some (.cells #[.int .i64 k, .int .i64 x, .int .i64 y] 41 (0, 0))) (ds := []) #[false, false, false, false, false, false, false, false, false] (by kernel_rfl) rfl rfl k5 (fun hHeld => ?_); refine with_tabW pixelMoved.tab1 pixelMoved.bits1 (fun HT_ HW_ => ?_)
  generalize (((w.alloc (.cells #[.int .i64 ax, .int .i64 ay, .int .i64 bx, .int .i64 yb] 24 (0, 0))).alloc (.cells #[.int .i64 qx, .int .i64 qy] 30 (0, 0))).alloc (.cells #[.int .i64 k, .int .i64 x, .int .i64 y] 41 (0, 0))).drew = w1 at hHeld HB2 K3 K4
  clear k5
  refine pure_ (i := 0) (N := (some 15)) (v := ?_) (a' := ?_) #[true, false, false, false, false, false, false, false, false] rfl rfl (any_of HT_.out (by kernel_rfl)) (fun _ _ _ h => h) (Or.inl ⟨by rfl, ?_⟩) ?_ ?_
  rotate_left
  · intro w'
    go_simp
    with_reducible rfl
  rotate_left
  · simp only [Act.put, List.setIfInBounds_toArray, List.set_cons_zero, List.set_cons_succ, i64_w, i32_w]
    rfl
  refine take_ (i := 1) (N := (some 16)) (v := ?_) (a' := ?_) #[true, true, false, false, false, false, false, false, false] rfl rfl (take_ofW HT_.out HW_.out (by kernel_rfl)) (fun _ _ _ h => h) (Or.inl ⟨by rfl, ?_⟩) hHeld ?_ ?_
  rotate_left
  · rintro w' s1
    have h0 := bkc s1 0 _ rfl
    have h1 := bkc s1 1 _ rfl
    have h2 := bkc s1 2 _ rfl
    go_simp
    with_reducible rfl
  rotate_left
  · simp only [Act.put, List.setIfInBounds_toArray, List.set_cons_zero, List.set_cons_succ, i64_w, i32_w]
    rfl
  refine pure_ (i := 2) (N := (some 17)) (v := ?_) (a' := ?_) #[true, true, true, false, false, false, false, false, false] rfl rfl (any_of HT_.out (by kernel_rfl)) (fun _ _ _ h => h) (Or.inl ⟨by rfl, ?_⟩) ?_ ?_
  rotate_left
  · intro w'
    go_simp
    with_reducible rfl
  rotate_left
  · simp only [Act.put, List.setIfInBounds_toArray, List.set_cons_zero, List.set_cons_succ, i64_w, i32_w]
    rfl
  refine take_ (i := 3) (N := (some 18)) (v := ?_) (a' := ?_) #[true, true, true, true, false, false, false, false, false] rfl rfl (take_ofW HT_.out HW_.out (by kernel_rfl)) (fun _ _ _ h => h) (Or.inl ⟨by rfl, ?_⟩) hHeld ?_ ?_
  rotate_left
  · rintro w' s1
    have h0 := bkc s1 0 _ rfl
    have h1 := bkc s1 1 _ rfl
    have h2 := bkc s1 2 _ rfl
    go_simp
    with_reducible rfl
  rotate_left
  · simp only [Act.put, List.setIfInBounds_toArray, List.set_cons_zero, List.set_cons_succ, i64_w, i32_w]
    rfl
  refine pure_ (i := 4) (N := (some 19)) (v := ?_) (a' := ?_) #[true, true, true, true, true, false, false, false, false] rfl rfl (any_of HT_.out (by kernel_rfl)) (fun _ _ _ h => h) (Or.inl ⟨by rfl, ?_⟩) ?_ ?_
  rotate_left
  · intro w'
    go_simp
    with_reducible rfl
  rotate_left
  · simp only [Act.put, List.setIfInBounds_toArray, List.set_cons_zero, List.set_cons_succ, i64_w, i32_w]
    rfl
  refine take_ (i := 5) (N := (some 20)) (v := ?_) (a' := ?_) #[true, true, true, true, true, true, false, false, false] rfl rfl (take_ofW HT_.out HW_.out (by kernel_rfl)) (fun _ _ _ h => h) (Or.inl ⟨by rfl, ?_⟩) hHeld ?_ ?_
  rotate_left
  · rintro w' s1
    have h0 := bkc s1 0 _ rfl
    have h1 := bkc s1 1 _ rfl
    have h2 := bkc s1 2 _ rfl
    go_simp
    with_reducible rfl
  rotate_left
  · simp only [Act.put, List.setIfInBounds_toArray, List.set_cons_zero, List.set_cons_succ, i64_w, i32_w]
    rfl
  refine pure_ (i := 6) (N := (some 7)) (v := ?_) (a' := ?_) #[true, true, true, true, true, true, true, false, false] rfl rfl (any_of HT_.out (by kernel_rfl)) (fun _ _ _ h => h) (Or.inl ⟨by rfl, ?_⟩) ?_ ?_
  rotate_left
  · intro w'
    go_simp
    with_reducible rfl
  rotate_left
  · simp only [Act.put, List.setIfInBounds_toArray, List.set_cons_zero, List.set_cons_succ, i64_w, i32_w]
    rfl
  refine pure_ (i := 7) (N := (some 8)) (v := ?_) (a' := ?_) #[true, true, true, true, true, true, true, true, false] rfl rfl (any_of HT_.out (by kernel_rfl)) (fun _ _ _ h => h) (Or.inl ⟨by rfl, ?_⟩) ?_ ?_
  rotate_left
  · intro w'
    go_simp
    with_reducible rfl
  rotate_left
  · simp only [Act.put, List.setIfInBounds_toArray, List.set_cons_zero, List.set_cons_succ, i64_w, i32_w]
    rfl
  refine pure_ (i := 8) (N := (some 9)) (v := ?_) (a' := ?_) #[true, true, true, true, true, true, true, true, true] rfl rfl (any_of HT_.out (by kernel_rfl)) (fun _ _ _ h => h) (Or.inl ⟨by rfl, ?_⟩) ?_ ?_
  rotate_left
  · intro w'
    go_simp
    with_reducible rfl
  rotate_left
  · simp only [Act.put, List.setIfInBounds_toArray, List.set_cons_zero, List.set_cons_succ, i64_w, i32_w]
    rfl
  refine done_ (done_of HT_.out (by kernel_rfl)) ?_
  clear HT_ HW_ hHeld
  have q0 := bkc K4.out 0 _ rfl
  have q1 := bkc K4.out 1 _ rfl
  have B := HB2
  clear HB2
  go_wp2_with fail
  refine (rung_m k w1).mono ?_
  rintro e w2 ⟨rfl, hb⟩
  clear q0 q1
  have B' := Aside0.mk (below_step B.out hb); clear B; have B := B'; clear B'; have K3' := Aside0.mk (bkb K3.out hb); clear K3; have K3 := K3'; clear K3'; have K4' := Aside0.mk (bkb K4.out hb); clear K4; have K4 := K4'; clear K4'
  clear hb
  have q0 := bkc K4.out 0 _ rfl
  have q1 := bkc K4.out 1 _ rfl
  by_cases hk : k = rungR k
  rotate_left
  · have hk1 : (k != rungR k) = true := bne_iff_ne.2 hk
    clear hk
    go_wp2_with (go_at_call 13; (with_reducible refine (alive_m _).mono ?_); rintro e wq ⟨rfl, hb⟩; have BQ := Aside0.mk (below_step B.out hb))
    go_ret
    exact ⟨rfl, BQ.out⟩
  have hk1 : (k != rungR k) = false := bne_eq_false_iff_eq.2 hk
  obtain ⟨hk0, hk28⟩ := rungR_eq hk
  have HK0 := Aside0.mk hk0
  have HK28 := Aside0.mk hk28
  clear hk hk0 hk28
  by_cases hx1 : x > 1048576
  · have dx1 : decide (x > 1048576) = true := decide_eq_true hx1
    clear hx1
    go_wp2_with (go_at_call 13; (with_reducible refine (alive_m _).mono ?_); rintro e wq ⟨rfl, hb⟩; have BQ := Aside0.mk (below_step B.out hb))
    go_ret
    exact ⟨rfl, BQ.out⟩
  have dx1 : decide (x > 1048576) = false := decide_eq_false hx1
  have Hx1 := Aside0.mk hx1
  clear hx1
  by_cases hx2 : x < -1048576
  · have dx2 : decide (x < -1048576) = true := decide_eq_true hx2
    clear hx2
    go_wp2_with (go_at_call 13; (with_reducible refine (alive_m _).mono ?_); rintro e wq ⟨rfl, hb⟩; have BQ := Aside0.mk (below_step B.out hb))
    go_ret
    exact ⟨rfl, BQ.out⟩
  have dx2 : decide (x < -1048576) = false := decide_eq_false hx2
  have Hx2 := Aside0.mk hx2
  clear hx2
  by_cases hy1 : y > 1048576
  · have dy1 : decide (y > 1048576) = true := decide_eq_true hy1
    clear hy1
    go_wp2_with (go_at_call 13; (with_reducible refine (alive_m _).mono ?_); rintro e wq ⟨rfl, hb⟩; have BQ := Aside0.mk (below_step B.out hb))
    go_ret
    exact ⟨rfl, BQ.out⟩
  have dy1 : decide (y > 1048576) = false := decide_eq_false hy1
  have Hy1 := Aside0.mk hy1
  clear hy1
  by_cases hy2 : y < -1048576
  · have dy2 : decide (y < -1048576) = true := decide_eq_true hy2
    clear hy2
    go_wp2_with (go_at_call 13; (with_reducible refine (alive_m _).mono ?_); rintro e wq ⟨rfl, hb⟩; have BQ := Aside0.mk (below_step B.out hb))
    go_ret
    exact ⟨rfl, BQ.out⟩
  have dy2 : decide (y < -1048576) = false := decide_eq_false hy2
  have Hy2 := Aside0.mk hy2
  clear hy2
  go_wp2_with fail
  refine (in_m qx qy k w2).mono ?_
  rintro e w3 ⟨rfl, hb⟩
  clear q0 q1
  have B' := Aside0.mk (below_step B.out hb); clear B; have B := B'; clear B'; have K3' := Aside0.mk (bkb K3.out hb); clear K3; have K3 := K3'; clear K3'; have K4' := Aside0.mk (bkb K4.out hb); clear K4; have K4 := K4'; clear K4'
  clear hb
  generalize hqn : (nearB k qx && nearB k qy) = qn
  cases qn
  · clear hqn
    go_wp2_with (go_at_call 13; (with_reducible refine (alive_m _).mono ?_); rintro e wq ⟨rfl, hb⟩; have BQ := Aside0.mk (below_step B.out hb))
    go_ret
    exact ⟨rfl, BQ.out⟩
  have HQN := Aside0.mk hqn
  clear hqn dx1 dx2 dy1 dy2 hk1
  go_wp2_with fail
  refine (size_m k HK0.out HK28.out w3).mono ?_
  rintro e w4 ⟨rfl, hb⟩
  have B' := Aside0.mk (below_step B.out hb); clear B; have B := B'; clear B'; have K3' := Aside0.mk (bkb K3.out hb); clear K3; have K3 := K3'; clear K3'; have K4' := Aside0.mk (bkb K4.out hb); clear K4; have K4 := K4'; clear K4'
  clear hb
  obtain ⟨S, hS⟩ : ∃ S, S = sz k := ⟨_, rfl⟩
  have HS := Aside0.mk hS
  rw [← hS]
  have hsb := sz_bounds HK0.out HK28.out
  rw [← hS] at hsb
  have hxs := mul_small (x := x) (by have := Hx2.out; omega) (by have := Hx1.out; omega) hsb.1 hsb.2
  have hys := mul_small (x := y) (by have := Hy2.out; omega) (by have := Hy1.out; omega) hsb.1 hsb.2
  clear hS hsb
  have hwx : wrap64 (x * S) = x * S := w64 (Int.le_trans (by decide) hxs.1) (Int.lt_of_le_of_lt hxs.2 (by decide))
  have hwy : wrap64 (y * S) = y * S := w64 (Int.le_trans (by decide) hys.1) (Int.lt_of_le_of_lt hys.2 (by decide))
  have WX := Aside0.mk (fun (a c : Int) (h : rightB 134217728 a c = true) => wsum (rightB_iff.1 h).1 (rightB_iff.1 h).2.1 hxs.1 hxs.2)
  have WY := Aside0.mk (fun (c a : Int) (h : rightB 134217728 c a = true) => wsum (rightB_iff.1 h).2.2.1 (rightB_iff.1 h).2.2.2 hys.1 hys.2)
  clear hxs hys
  obtain ⟨dx, hdx⟩ : ∃ d, d = x * S := ⟨_, rfl⟩
  obtain ⟨dy, hdy⟩ : ∃ d, d = y * S := ⟨_, rfl⟩
  have hwx2 : wrap64 (x * S) = dx := hwx.trans hdx.symm
  have hwy2 : wrap64 (y * S) = dy := hwy.trans hdy.symm
  clear hwx hwy
  rw [← hdx] at WX
  rw [← hdy] at WY
  have HDX := Aside0.mk hdx
  have HDY := Aside0.mk hdy
  clear hdx hdy
  have hba := below_alloc (Below.refl w4.heap.size w4) (.cells #[.int .i64 0, .int .i64 0, .int .i64 0, .int .i64 0] 24 (0, 0))
  have HGT := Aside0.mk (show w.heap.size ≤ w4.heap.size from B.out.size)
  have HG1 := Aside0.mk (show w.heap.size ≠ w4.heap.size from Nat.ne_of_lt (blk_lt K3.out))
  have KT := Aside0.mk (heap_alloc_new w4 (.cells #[.int .i64 0, .int .i64 0, .int .i64 0, .int .i64 0] 24 (0, 0)))
  have B' := Aside0.mk (below_step B.out hba); clear B; have B := B'; clear B'; have K3' := Aside0.mk (bkb K3.out hba); clear K3; have K3 := K3'; clear K3'; have K4' := Aside0.mk (bkb K4.out hba); clear K4; have K4 := K4'; clear K4'
  clear hba
  have p0 := bkc K3.out 0 _ rfl
  have p1 := bkc K3.out 1 _ rfl
  have p2 := bkc K3.out 2 _ rfl
  have p3 := bkc K3.out 3 _ rfl
  go_wp2_with fail
  generalize w4.alloc (.cells #[.int .i64 0, .int .i64 0, .int .i64 0, .int .i64 0] 24 (0, 0)) = w5 at B K3 K4 KT p0 p1 p2 p3 ⊢
  generalize hgt : w4.heap.size = gT at KT HGT HG1 ⊢
  clear hgt
  have LT5 := Aside0.mk (show w.heap.size ≤ w5.heap.size from B.out.size)
  go_wp2_with fail
  clear p0 p1 p2 p3
  go_loopg [51] 2 (fun kx s51 wr => ∃ i : Nat, s51 = .int .i64 i ∧ i ≤ 2 ∧ 2 - i ≤ kx ∧ Aside0 (Below w.heap.size w wr) ∧ Aside0 (wr.heap[w.heap.size]? = some (.cells #[.int .i64 ax, .int .i64 ay, .int .i64 bx, .int .i64 yb] 24 (0, 0))) ∧ Aside0 (wr.heap[w.heap.size + 1]? = some (.cells #[.int .i64 qx, .int .i64 qy] 30 (0, 0))) ∧ Aside0 (wr.heap[gT]? = some (.cells (tcell i (ax + dx) (ay + dy) (bx + dx) (yb + dy)) 24 (0, 0))) ∧ Aside0 ((1 ≤ i → rightB 134217728 ax ay = true ∧ rightB 134217728 (ax + dx) (ay + dy) = true) ∧ (2 ≤ i → rightB 134217728 bx yb = true ∧ rightB 134217728 (bx + dx) (yb + dy) = true)))
  case atStart => exact ⟨0, rfl, by omega, by omega, B, K3, K4, KT, ⟨fun h => by omega, fun h => by omega⟩⟩
  case round =>
    clear B K3 K4 KT
    obtain ⟨i, rfl, hi2, hik, B, K3, K4, KT, RT⟩ := hrel
    obtain hi | hi | hi : i = 0 ∨ i = 1 ∨ i = 2 := by omega
    · subst hi
      have hb1 := below_alloc (Below.refl wr.heap.size wr) (.cells #[.int .i64 ax, .int .i64 ay] 23 (0, 0))
      have KP := Aside0.mk (heap_alloc_new wr (.cells #[.int .i64 ax, .int .i64 ay] 23 (0, 0)))
      have B' := Aside0.mk (below_step B.out hb1); clear B; have B := B'; clear B'; have K3' := Aside0.mk (bkb K3.out hb1); clear K3; have K3 := K3'; clear K3'; have K4' := Aside0.mk (bkb K4.out hb1); clear K4; have K4 := K4'; clear K4'; have KT' := Aside0.mk (bkb KT.out hb1); clear KT; have KT := KT'; clear KT'
      clear hb1
      have c0 := bkc KP.out 0 _ rfl
      have c1 := bkc KP.out 1 _ rfl
      have ix0 := idx0 ax ay bx yb
      have ix1 := idx1 ax ay bx yb
      go_wp2_with fail
      clear ix0 ix1
      generalize wr.alloc (.cells #[.int .i64 ax, .int .i64 ay] 23 (0, 0)) = w6 at B K3 K4 KT KP c0 c1 ⊢
      generalize hgp : wr.heap.size = gP at KP c0 c1 ⊢
      clear hgp
      refine (right_m ax ay w6).mono ?_
      rintro e w7 ⟨rfl, hb⟩
      clear c0 c1
      have B' := Aside0.mk (below_step B.out hb); clear B; have B := B'; clear B'; have K3' := Aside0.mk (bkb K3.out hb); clear K3; have K3 := K3'; clear K3'; have K4' := Aside0.mk (bkb K4.out hb); clear K4; have K4 := K4'; clear K4'; have KT' := Aside0.mk (bkb KT.out hb); clear KT; have KT := KT'; clear KT'; have KP' := Aside0.mk (bkb KP.out hb); clear KP; have KP := KP'; clear KP'
      clear hb
      generalize hra : rightB 134217728 ax ay = ra
      cases ra
      · clear hra
        go_wp2_with (go_at_call 13; (with_reducible refine (alive_m _).mono ?_); rintro e wq ⟨rfl, hb⟩; have BQ := Aside0.mk (below_step B.out hb))
        go_ret
        exact ⟨rfl, BQ.out⟩
      have hax : wrap64 (ax + dx) = ax + dx := WX.out ax ay hra
      have hay : wrap64 (ay + dy) = ay + dy := WY.out ax ay hra
      have HRA := Aside0.mk hra
      clear hra
      have c0 := bkc KP.out 0 _ rfl
      have c1 := bkc KP.out 1 _ rfl
      have z0 : w7.cell? ⟨gT, 0, none⟩ = some (.int .i64 0) := bkc KT.out 0 _ rfl
      have z1 : w7.cell? ⟨gT, 1, none⟩ = some (.int .i64 0) := bkc KT.out 1 _ rfl
      have f0 := blk_frozen KT.out 0
      have f1 := blk_frozen KT.out 1
      have q1 : (0 ≤ ((0 : Nat) : Int)) = True := eq_true (by decide)
      have hgP : gP ≠ gT := blk_ne KP.out KT.out (by decide)
      have KT2 := Aside0.mk (show ((w7.setCell ⟨gT, 0, none⟩ (.int .i64 (ax + dx))).setCell ⟨gT, 1, none⟩ (.int .i64 (ay + dy))).heap[gT]? = some (.cells (tcell 1 (ax + dx) (ay + dy) (bx + dx) (yb + dy)) 24 (0, 0)) from blk_put (blk_put KT.out 0 _ rfl) 1 _ rfl)
      have far : ∀ g, g ≠ gT → ((w7.setCell ⟨gT, 0, none⟩ (.int .i64 (ax + dx))).setCell ⟨gT, 1, none⟩ (.int .i64 (ay + dy))).heap[g]? = w7.heap[g]? := fun g hg => (Below.heap_setCell _ ⟨gT, 1, none⟩ _ g hg).trans (Below.heap_setCell _ ⟨gT, 0, none⟩ _ g hg)
      have B2 := Aside0.mk ((B.out.setCell (p := ⟨gT, 0, none⟩) (show w.heap.size ≤ gT from HGT.out) (.int .i64 (ax + dx))).setCell (p := ⟨gT, 1, none⟩) (show w.heap.size ≤ gT from HGT.out) (.int .i64 (ay + dy)))
      have K32 := Aside0.mk ((far w.heap.size (HG1.out)).trans K3.out)
      have K42 := Aside0.mk ((far (w.heap.size + 1) (blk_ne K4.out KT.out (by decide))).trans K4.out)
      have t0 : ((w7.setCell ⟨gT, 0, none⟩ (.int .i64 (ax + dx))).setCell ⟨gT, 1, none⟩ (.int .i64 (ay + dy))).cell? ⟨gT, 0, none⟩ = some (.int .i64 (ax + dx)) := bkc KT2.out 0 _ rfl
      have t1 : ((w7.setCell ⟨gT, 0, none⟩ (.int .i64 (ax + dx))).setCell ⟨gT, 1, none⟩ (.int .i64 (ay + dy))).cell? ⟨gT, 1, none⟩ = some (.int .i64 (ay + dy)) := bkc KT2.out 1 _ rfl
      clear far
      go_wp2_with fail
      generalize ((w7.setCell ⟨gT, 0, none⟩ (.int .i64 (ax + dx))).setCell ⟨gT, 1, none⟩ (.int .i64 (ay + dy))) = w8 at B2 K32 K42 KT2 t0 t1 ⊢
      refine (right_m (ax + dx) (ay + dy) w8).mono ?_
      rintro e w9 ⟨rfl, hb⟩
      clear c0 c1 z0 z1 f0 f1 t0 t1 K3 K4 KT B
      have B := B2
      have K3 := K32
      have K4 := K42
      have KT := KT2
      clear B2 K32 K42 KT2
      have B' := Aside0.mk (below_step B.out hb); clear B; have B := B'; clear B'; have K3' := Aside0.mk (bkb K3.out hb); clear K3; have K3 := K3'; clear K3'; have K4' := Aside0.mk (bkb K4.out hb); clear K4; have K4 := K4'; clear K4'; have KT' := Aside0.mk (bkb KT.out hb); clear KT; have KT := KT'; clear KT'
      clear hb
      generalize hrb : rightB 134217728 (ax + dx) (ay + dy) = rb
      cases rb
      · clear hrb
        go_wp2_with (go_at_call 13; (with_reducible refine (alive_m _).mono ?_); rintro e wq ⟨rfl, hb⟩; have BQ := Aside0.mk (below_step B.out hb))
        go_ret
        exact ⟨rfl, BQ.out⟩
      have HRB := Aside0.mk hrb
      clear hrb hax hay
      go_wp2_with fail
      go_roundg (2 - (0 + 1))
      case measure => omega
      case rel => exact ⟨0 + 1, by first | rfl | simp, by omega, Nat.le_refl _, B, K3, K4, KT, ⟨fun _ => ⟨HRA.out, HRB.out⟩, fun h => by omega⟩⟩
    · subst hi
      have hb1 := below_alloc (Below.refl wr.heap.size wr) (.cells #[.int .i64 bx, .int .i64 yb] 23 (0, 0))
      have KP := Aside0.mk (heap_alloc_new wr (.cells #[.int .i64 bx, .int .i64 yb] 23 (0, 0)))
      have B' := Aside0.mk (below_step B.out hb1); clear B; have B := B'; clear B'; have K3' := Aside0.mk (bkb K3.out hb1); clear K3; have K3 := K3'; clear K3'; have K4' := Aside0.mk (bkb K4.out hb1); clear K4; have K4 := K4'; clear K4'; have KT' := Aside0.mk (bkb KT.out hb1); clear KT; have KT := KT'; clear KT'
      clear hb1
      have c0 := bkc KP.out 0 _ rfl
      have c1 := bkc KP.out 1 _ rfl
      have ix0 := idx0 ax ay bx yb
      have ix1 := idx1 ax ay bx yb
      go_wp2_with fail
      clear ix0 ix1
      generalize wr.alloc (.cells #[.int .i64 bx, .int .i64 yb] 23 (0, 0)) = w6 at B K3 K4 KT KP c0 c1 ⊢
      generalize hgp : wr.heap.size = gP at KP c0 c1 ⊢
      clear hgp
      refine (right_m bx yb w6).mono ?_
      rintro e w7 ⟨rfl, hb⟩
      clear c0 c1
      have B' := Aside0.mk (below_step B.out hb); clear B; have B := B'; clear B'; have K3' := Aside0.mk (bkb K3.out hb); clear K3; have K3 := K3'; clear K3'; have K4' := Aside0.mk (bkb K4.out hb); clear K4; have K4 := K4'; clear K4'; have KT' := Aside0.mk (bkb KT.out hb); clear KT; have KT := KT'; clear KT'; have KP' := Aside0.mk (bkb KP.out hb); clear KP; have KP := KP'; clear KP'
      clear hb
      generalize hra : rightB 134217728 bx yb = ra
      cases ra
      · clear hra
        go_wp2_with (go_at_call 13; (with_reducible refine (alive_m _).mono ?_); rintro e wq ⟨rfl, hb⟩; have BQ := Aside0.mk (below_step B.out hb))
        go_ret
        exact ⟨rfl, BQ.out⟩
      have hax : wrap64 (bx + dx) = bx + dx := WX.out bx yb hra
      have hay : wrap64 (yb + dy) = yb + dy := WY.out bx yb hra
      have HRA := Aside0.mk hra
      clear hra
      have c0 := bkc KP.out 0 _ rfl
      have c1 := bkc KP.out 1 _ rfl
      have z0 : w7.cell? ⟨gT, 2, none⟩ = some (.int .i64 0) := bkc KT.out 2 _ rfl
      have z1 : w7.cell? ⟨gT, 3, none⟩ = some (.int .i64 0) := bkc KT.out 3 _ rfl
      have f0 := blk_frozen KT.out 2
      have f1 := blk_frozen KT.out 3
      have q1 : (0 ≤ ((1 : Nat) : Int)) = True := eq_true (by decide)
      have hgP : gP ≠ gT := blk_ne KP.out KT.out (by decide)
      have KT2 := Aside0.mk (show ((w7.setCell ⟨gT, 2, none⟩ (.int .i64 (bx + dx))).setCell ⟨gT, 3, none⟩ (.int .i64 (yb + dy))).heap[gT]? = some (.cells (tcell 2 (ax + dx) (ay + dy) (bx + dx) (yb + dy)) 24 (0, 0)) from blk_put (blk_put KT.out 2 _ rfl) 3 _ rfl)
      have far : ∀ g, g ≠ gT → ((w7.setCell ⟨gT, 2, none⟩ (.int .i64 (bx + dx))).setCell ⟨gT, 3, none⟩ (.int .i64 (yb + dy))).heap[g]? = w7.heap[g]? := fun g hg => (Below.heap_setCell _ ⟨gT, 3, none⟩ _ g hg).trans (Below.heap_setCell _ ⟨gT, 2, none⟩ _ g hg)
      have B2 := Aside0.mk ((B.out.setCell (p := ⟨gT, 2, none⟩) (show w.heap.size ≤ gT from HGT.out) (.int .i64 (bx + dx))).setCell (p := ⟨gT, 3, none⟩) (show w.heap.size ≤ gT from HGT.out) (.int .i64 (yb + dy)))
      have K32 := Aside0.mk ((far w.heap.size (HG1.out)).trans K3.out)
      have K42 := Aside0.mk ((far (w.heap.size + 1) (blk_ne K4.out KT.out (by decide))).trans K4.out)
      have t0 : ((w7.setCell ⟨gT, 2, none⟩ (.int .i64 (bx + dx))).setCell ⟨gT, 3, none⟩ (.int .i64 (yb + dy))).cell? ⟨gT, 2, none⟩ = some (.int .i64 (bx + dx)) := bkc KT2.out 2 _ rfl
      have t1 : ((w7.setCell ⟨gT, 2, none⟩ (.int .i64 (bx + dx))).setCell ⟨gT, 3, none⟩ (.int .i64 (yb + dy))).cell? ⟨gT, 3, none⟩ = some (.int .i64 (yb + dy)) := bkc KT2.out 3 _ rfl
      clear far
      go_wp2_with fail
      generalize ((w7.setCell ⟨gT, 2, none⟩ (.int .i64 (bx + dx))).setCell ⟨gT, 3, none⟩ (.int .i64 (yb + dy))) = w8 at B2 K32 K42 KT2 t0 t1 ⊢
      refine (right_m (bx + dx) (yb + dy) w8).mono ?_
      rintro e w9 ⟨rfl, hb⟩
      clear c0 c1 z0 z1 f0 f1 t0 t1 K3 K4 KT B
      have B := B2
      have K3 := K32
      have K4 := K42
      have KT := KT2
      clear B2 K32 K42 KT2
      have B' := Aside0.mk (below_step B.out hb); clear B; have B := B'; clear B'; have K3' := Aside0.mk (bkb K3.out hb); clear K3; have K3 := K3'; clear K3'; have K4' := Aside0.mk (bkb K4.out hb); clear K4; have K4 := K4'; clear K4'; have KT' := Aside0.mk (bkb KT.out hb); clear KT; have KT := KT'; clear KT'
      clear hb
      generalize hrb : rightB 134217728 (bx + dx) (yb + dy) = rb
      cases rb
      · clear hrb
        go_wp2_with (go_at_call 13; (with_reducible refine (alive_m _).mono ?_); rintro e wq ⟨rfl, hb⟩; have BQ := Aside0.mk (below_step B.out hb))
        go_ret
        exact ⟨rfl, BQ.out⟩
      have HRB := Aside0.mk hrb
      clear hrb hax hay
      go_wp2_with fail
      go_roundg (2 - (1 + 1))
      case measure => omega
      case rel => exact ⟨1 + 1, by first | rfl | simp, by omega, Nat.le_refl _, B, K3, K4, KT, ⟨fun _ => RT.out.1 (by omega), fun _ => ⟨HRA.out, HRB.out⟩⟩⟩
    · subst hi
      have q0 := bkc K4.out 0 _ rfl
      have q1 := bkc K4.out 1 _ rfl
      have hq2 : wrap64 (qx + x) = qx + x := by have h := HQN.out; rw [Bool.and_eq_true] at h; exact znear h.1 (by have := Hx2.out; omega) (by have := Hx1.out; omega)
      have hq3 : wrap64 (qy + y) = qy + y := by have h := HQN.out; rw [Bool.and_eq_true] at h; exact znear h.2 (by have := Hy2.out; omega) (by have := Hy1.out; omega)
      have RA := Aside0.mk (RT.out.1 (by omega))
      have RB := Aside0.mk (RT.out.2 (by omega))
      go_wp2_with fail
      have hbz := below_alloc (Below.refl wr.heap.size wr) (.cells #[.int .i64 (qx + x), .int .i64 (qy + y)] 30 (0, 0))
      have hbd := below_drew hbz
      have hKZ := heap_alloc_new wr (.cells #[.int .i64 (qx + x), .int .i64 (qy + y)] 30 (0, 0))
      have hh : (wr.alloc (.cells #[.int .i64 (qx + x), .int .i64 (qy + y)] 30 (0, 0))).drew.heap[w.heap.size]? = some (.cells #[.int .i64 ax, .int .i64 ay, .int .i64 bx, .int .i64 yb] 24 (0, 0)) ∧ (wr.alloc (.cells #[.int .i64 (qx + x), .int .i64 (qy + y)] 30 (0, 0))).drew.heap[w.heap.size + 1]? = some (.cells #[.int .i64 qx, .int .i64 qy] 30 (0, 0)) ∧ (wr.alloc (.cells #[.int .i64 (qx + x), .int .i64 (qy + y)] 30 (0, 0))).drew.heap[gT]? = some (.cells #[.int .i64 (ax + dx), .int .i64 (ay + dy), .int .i64 (bx + dx), .int .i64 (yb + dy)] 24 (0, 0)) ∧ (wr.alloc (.cells #[.int .i64 (qx + x), .int .i64 (qy + y)] 30 (0, 0))).drew.heap[wr.heap.size]? = some (.cells #[.int .i64 (qx + x), .int .i64 (qy + y)] 30 (0, 0)) := ⟨bkb K3.out hbd, bkb K4.out hbd, bkb KT.out hbd, hKZ⟩
      have B2 := Aside0.mk (below_step B.out hbd)
      clear hbz hbd hKZ q0 q1 hq2 hq3 B K3 K4 KT RT
      obtain ⟨gZ, hgZ⟩ : ∃ g, g = wr.heap.size := ⟨_, rfl⟩
      rw [← hgZ] at hh ⊢
      clear hgZ
      refine start_ (n := 25) (S := fun W => W.heap[w.heap.size]? = some (.cells #[.int .i64 ax, .int .i64 ay, .int .i64 bx, .int .i64 yb] 24 (0, 0)) ∧ W.heap[w.heap.size + 1]? = some (.cells #[.int .i64 qx, .int .i64 qy] 30 (0, 0)) ∧ W.heap[gT]? = some (.cells #[.int .i64 (ax + dx), .int .i64 (ay + dy), .int .i64 (bx + dx), .int .i64 (yb + dy)] 24 (0, 0)) ∧ W.heap[gZ]? = some (.cells #[.int .i64 (qx + x), .int .i64 (qy + y)] 30 (0, 0))) (ds := []) #[false, false, false, false, false, false, false, false, false, false, false, false, false, false, false, false, false, false, false, false, false, false, false, false, false] (by kernel_rfl) rfl rfl hh (fun hHeld => ?_); refine with_tabW pixelMoved.tab16 pixelMoved.bits16 (fun HT_ HW_ => ?_)
      generalize (wr.alloc (.cells #[.int .i64 (qx + x), .int .i64 (qy + y)] 30 (0, 0))).drew = w6 at hHeld B2
      clear hh
      refine one_ (i := 0) (N := (some 90)) #[true, false, false, false, false, false, false, false, false, false, false, false, false, false, false, false, false, false, false, false, false, false, false, false, false] rfl rfl (one_of HT_.out (by kernel_rfl)) (by decide) (fun K hK => ?_)
      refine goes_ Try.func13 (by kernel_rfl) rfl #[] (by rfl) rfl rfl (by (try simp only [List.map_toArray, List.map_cons, List.map_nil]); first | done | rfl) ?_
      with_reducible refine (alive_m _).mono ?_
      rintro e w7 ⟨rfl, hb⟩
      refine ⟨_, rfl, ?_⟩
      have B3 := Aside0.mk (below_step B2.out hb)
      have hHeld2 : _ ∧ _ ∧ _ ∧ _ := ⟨bkb hHeld.1 hb, bkb hHeld.2.1 hb, bkb hHeld.2.2.1 hb, bkb hHeld.2.2.2 hb⟩
      clear hHeld hb B2
      refine hK.out _ _ hHeld2 (fun hHeld => ?_)
      clear hK K hHeld2
      refine norm_ (a' := ?_) ?_ ?_
      rotate_left
      · show Act.put _ (some 90) _ = _
        simp only [Act.put, List.setIfInBounds_toArray, List.set_cons_zero, List.set_cons_succ, i64_w, i32_w]
        rfl
      refine pure_ (i := 1) (N := (some 91)) (v := ?_) (a' := ?_) #[true, true, false, false, false, false, false, false, false, false, false, false, false, false, false, false, false, false, false, false, false, false, false, false, false] rfl rfl (any_of HT_.out (by kernel_rfl)) (fun _ _ _ h => h) (Or.inl ⟨by rfl, ?_⟩) ?_ ?_
      rotate_left
      · intro w'
        go_simp
        with_reducible rfl
      rotate_left
      · simp only [Act.put, List.setIfInBounds_toArray, List.set_cons_zero, List.set_cons_succ, i64_w, i32_w]
        rfl
      refine take_ (i := 2) (N := (some 92)) (v := ?_) (a' := ?_) #[true, true, true, false, false, false, false, false, false, false, false, false, false, false, false, false, false, false, false, false, false, false, false, false, false] rfl rfl (take_ofW HT_.out HW_.out (by kernel_rfl)) (fun _ _ _ h => h) (Or.inl ⟨by rfl, ?_⟩) hHeld ?_ ?_
      rotate_left
      · rintro w' ⟨s3, s4, sT, sZ⟩
        have h0 := bkc sZ 0 _ rfl
        have h1 := bkc sZ 1 _ rfl
        go_simp
        with_reducible rfl
      rotate_left
      · simp only [Act.put, List.setIfInBounds_toArray, List.set_cons_zero, List.set_cons_succ, i64_w, i32_w]
        rfl
      refine pure_ (i := 3) (N := (some 93)) (v := ?_) (a' := ?_) #[true, true, true, true, false, false, false, false, false, false, false, false, false, false, false, false, false, false, false, false, false, false, false, false, false] rfl rfl (any_of HT_.out (by kernel_rfl)) (fun _ _ _ h => h) (Or.inl ⟨by rfl, ?_⟩) ?_ ?_
      rotate_left
      · intro w'
        go_simp
        with_reducible rfl
      rotate_left
      · simp only [Act.put, List.setIfInBounds_toArray, List.set_cons_zero, List.set_cons_succ, i64_w, i32_w]
        rfl
      refine one_ (i := 4) (N := (some 94)) #[true, true, true, true, true, false, false, false, false, false, false, false, false, false, false, false, false, false, false, false, false, false, false, false, false] rfl rfl (one_of HT_.out (by kernel_rfl)) (by decide) (fun K hK => ?_)
      refine goes_ Try.func20 (by kernel_rfl) rfl #[.agg #[.int .i64 (qx + x), .int .i64 (qy + y)], .int .i64 k] (by rfl) rfl rfl (by (try simp only [List.map_toArray, List.map_cons, List.map_nil]); first | done | rfl) ?_
      with_reducible refine (in_m (qx + x) (qy + y) k _).mono ?_
      rintro e w8 ⟨rfl, hb⟩
      refine ⟨_, rfl, ?_⟩
      have B4 := Aside0.mk (below_step B3.out hb)
      have hHeld2 : _ ∧ _ ∧ _ ∧ _ := ⟨bkb hHeld.1 hb, bkb hHeld.2.1 hb, bkb hHeld.2.2.1 hb, bkb hHeld.2.2.2 hb⟩
      clear hHeld hb B3
      refine hK.out _ _ hHeld2 (fun hHeld => ?_)
      clear hK K hHeld2
      refine norm_ (a' := ?_) ?_ ?_
      rotate_left
      · show Act.put _ (some 94) _ = _
        simp only [Act.put, List.setIfInBounds_toArray, List.set_cons_zero, List.set_cons_succ, i64_w, i32_w]
        rfl
      generalize hzn : (nearB k (qx + x) && nearB k (qy + y)) = zn
      cases zn
      · skip
        clear hzn
        refine pure_ (i := 5) (N := (some 95)) (v := ?_) (a' := ?_) #[true, true, true, true, true, true, false, false, false, false, false, false, false, false, false, false, false, false, false, false, false, false, false, false, false] rfl rfl (any_of HT_.out (by kernel_rfl)) (fun _ _ _ h => h) (Or.inl ⟨by rfl, ?_⟩) ?_ ?_
        rotate_left
        · intro w'
          go_simp
          with_reducible rfl
        rotate_left
        · simp only [Act.put, List.setIfInBounds_toArray, List.set_cons_zero, List.set_cons_succ, i64_w, i32_w]
          rfl
        refine pure_ (i := 6) (N := (some 96)) (v := ?_) (a' := ?_) #[true, true, true, true, true, true, true, false, false, false, false, false, false, false, false, false, false, false, false, false, false, false, false, false, false] rfl rfl (any_of HT_.out (by kernel_rfl)) (fun _ _ _ h => h) (Or.inl ⟨by rfl, ?_⟩) ?_ ?_
        rotate_left
        · intro w'
          go_simp
          with_reducible rfl
        rotate_left
        · simp only [Act.put, List.setIfInBounds_toArray, List.set_cons_zero, List.set_cons_succ, i64_w, i32_w]
          rfl
        refine pure_ (i := 7) (N := (some 97)) (v := undef) (a' := ?_) #[true, true, true, true, true, true, true, true, false, false, false, false, false, false, false, false, false, false, false, false, false, false, false, false, false] rfl rfl (any_of HT_.out (by kernel_rfl)) (fun _ _ _ h => h) (Or.inr ⟨by rfl, rfl⟩) ?_ ?_
        rotate_left
        · simp only [Act.put, List.setIfInBounds_toArray, List.set_cons_zero, List.set_cons_succ, i64_w, i32_w]
          rfl
        refine pure_ (i := 9) (N := (some 99)) (v := undef) (a' := ?_) #[true, true, true, true, true, true, true, true, false, true, false, false, false, false, false, false, false, false, false, false, false, false, false, false, false] rfl rfl (any_of HT_.out (by kernel_rfl)) (fun _ _ _ h => h) (Or.inr ⟨by rfl, rfl⟩) ?_ ?_
        rotate_left
        · simp only [Act.put, List.setIfInBounds_toArray, List.set_cons_zero, List.set_cons_succ, i64_w, i32_w]
          rfl
        refine pure_ (i := 11) (N := (some 101)) (v := undef) (a' := ?_) #[true, true, true, true, true, true, true, true, false, true, false, true, false, false, false, false, false, false, false, false, false, false, false, false, false] rfl rfl (any_of HT_.out (by kernel_rfl)) (fun _ _ _ h => h) (Or.inr ⟨by rfl, rfl⟩) ?_ ?_
        rotate_left
        · simp only [Act.put, List.setIfInBounds_toArray, List.set_cons_zero, List.set_cons_succ, i64_w, i32_w]
          rfl
        refine pure_ (i := 12) (N := (some 102)) (v := undef) (a' := ?_) #[true, true, true, true, true, true, true, true, false, true, false, true, true, false, false, false, false, false, false, false, false, false, false, false, false] rfl rfl (any_of HT_.out (by kernel_rfl)) (fun _ _ _ h => h) (Or.inr ⟨by rfl, rfl⟩) ?_ ?_
        rotate_left
        · simp only [Act.put, List.setIfInBounds_toArray, List.set_cons_zero, List.set_cons_succ, i64_w, i32_w]
          rfl
        refine pure_ (i := 14) (N := (some 104)) (v := undef) (a' := ?_) #[true, true, true, true, true, true, true, true, false, true, false, true, true, false, true, false, false, false, false, false, false, false, false, false, false] rfl rfl (any_of HT_.out (by kernel_rfl)) (fun _ _ _ h => h) (Or.inr ⟨by rfl, rfl⟩) ?_ ?_
        rotate_left
        · simp only [Act.put, List.setIfInBounds_toArray, List.set_cons_zero, List.set_cons_succ, i64_w, i32_w]
          rfl
        refine pure_ (i := 16) (N := (some 106)) (v := undef) (a' := ?_) #[true, true, true, true, true, true, true, true, false, true, false, true, true, false, true, false, true, false, false, false, false, false, false, false, false] rfl rfl (any_of HT_.out (by kernel_rfl)) (fun _ _ _ h => h) (Or.inr ⟨by rfl, rfl⟩) ?_ ?_
        rotate_left
        · simp only [Act.put, List.setIfInBounds_toArray, List.set_cons_zero, List.set_cons_succ, i64_w, i32_w]
          rfl
        refine pure_ (i := 18) (N := (some 108)) (v := undef) (a' := ?_) #[true, true, true, true, true, true, true, true, false, true, false, true, true, false, true, false, true, false, true, false, false, false, false, false, false] rfl rfl (any_of HT_.out (by kernel_rfl)) (fun _ _ _ h => h) (Or.inr ⟨by rfl, rfl⟩) ?_ ?_
        rotate_left
        · simp only [Act.put, List.setIfInBounds_toArray, List.set_cons_zero, List.set_cons_succ, i64_w, i32_w]
          rfl
        refine pure_ (i := 19) (N := (some 109)) (v := undef) (a' := ?_) #[true, true, true, true, true, true, true, true, false, true, false, true, true, false, true, false, true, false, true, true, false, false, false, false, false] rfl rfl (any_of HT_.out (by kernel_rfl)) (fun _ _ _ h => h) (Or.inr ⟨by rfl, rfl⟩) ?_ ?_
        rotate_left
        · simp only [Act.put, List.setIfInBounds_toArray, List.set_cons_zero, List.set_cons_succ, i64_w, i32_w]
          rfl
        refine pure_ (i := 8) (N := (some 98)) (v := undef) (a' := ?_) #[true, true, true, true, true, true, true, true, true, true, false, true, true, false, true, false, true, false, true, true, false, false, false, false, false] rfl rfl (any_of HT_.out (by kernel_rfl)) (fun _ _ _ h => h) (Or.inr ⟨by rfl, rfl⟩) ?_ ?_
        rotate_left
        · simp only [Act.put, List.setIfInBounds_toArray, List.set_cons_zero, List.set_cons_succ, i64_w, i32_w]
          rfl
        refine pure_ (i := 10) (N := (some 100)) (v := undef) (a' := ?_) #[true, true, true, true, true, true, true, true, true, true, true, true, true, false, true, false, true, false, true, true, false, false, false, false, false] rfl rfl (any_of HT_.out (by kernel_rfl)) (fun _ _ _ h => h) (Or.inr ⟨by rfl, rfl⟩) ?_ ?_
        rotate_left
        · simp only [Act.put, List.setIfInBounds_toArray, List.set_cons_zero, List.set_cons_succ, i64_w, i32_w]
          rfl
        refine pure_ (i := 15) (N := (some 105)) (v := undef) (a' := ?_) #[true, true, true, true, true, true, true, true, true, true, true, true, true, false, true, true, true, false, true, true, false, false, false, false, false] rfl rfl (any_of HT_.out (by kernel_rfl)) (fun _ _ _ h => h) (Or.inr ⟨by rfl, rfl⟩) ?_ ?_
        rotate_left
        · simp only [Act.put, List.setIfInBounds_toArray, List.set_cons_zero, List.set_cons_succ, i64_w, i32_w]
          rfl
        refine pure_ (i := 17) (N := (some 107)) (v := undef) (a' := ?_) #[true, true, true, true, true, true, true, true, true, true, true, true, true, false, true, true, true, true, true, true, false, false, false, false, false] rfl rfl (any_of HT_.out (by kernel_rfl)) (fun _ _ _ h => h) (Or.inr ⟨by rfl, rfl⟩) ?_ ?_
        rotate_left
        · simp only [Act.put, List.setIfInBounds_toArray, List.set_cons_zero, List.set_cons_succ, i64_w, i32_w]
          rfl
        refine pure_ (i := 13) (N := (some 103)) (v := undef) (a' := ?_) #[true, true, true, true, true, true, true, true, true, true, true, true, true, true, true, true, true, true, true, true, false, false, false, false, false] rfl rfl (any_of HT_.out (by kernel_rfl)) (fun _ _ _ h => h) (Or.inr ⟨by rfl, rfl⟩) ?_ ?_
        rotate_left
        · simp only [Act.put, List.setIfInBounds_toArray, List.set_cons_zero, List.set_cons_succ, i64_w, i32_w]
          rfl
        refine pure_ (i := 20) (N := (some 110)) (v := undef) (a' := ?_) #[true, true, true, true, true, true, true, true, true, true, true, true, true, true, true, true, true, true, true, true, true, false, false, false, false] rfl rfl (any_of HT_.out (by kernel_rfl)) (fun _ _ _ h => h) (Or.inr ⟨by rfl, rfl⟩) ?_ ?_
        rotate_left
        · simp only [Act.put, List.setIfInBounds_toArray, List.set_cons_zero, List.set_cons_succ, i64_w, i32_w]
          rfl
        refine pure_ (i := 21) (N := (some 111)) (v := undef) (a' := ?_) #[true, true, true, true, true, true, true, true, true, true, true, true, true, true, true, true, true, true, true, true, true, true, false, false, false] rfl rfl (any_of HT_.out (by kernel_rfl)) (fun _ _ _ h => h) (Or.inr ⟨by rfl, rfl⟩) ?_ ?_
        rotate_left
        · simp only [Act.put, List.setIfInBounds_toArray, List.set_cons_zero, List.set_cons_succ, i64_w, i32_w]
          rfl
        refine pure_ (i := 22) (N := (some 112)) (v := ?_) (a' := ?_) #[true, true, true, true, true, true, true, true, true, true, true, true, true, true, true, true, true, true, true, true, true, true, true, false, false] rfl rfl (any_of HT_.out (by kernel_rfl)) (fun _ _ _ h => h) (Or.inl ⟨by rfl, ?_⟩) ?_ ?_
        rotate_left
        · intro w'
          go_simp
          with_reducible rfl
        rotate_left
        · simp only [Act.put, List.setIfInBounds_toArray, List.set_cons_zero, List.set_cons_succ, i64_w, i32_w]
          rfl
        refine pure_ (i := 23) (N := (some 113)) (v := ?_) (a' := ?_) #[true, true, true, true, true, true, true, true, true, true, true, true, true, true, true, true, true, true, true, true, true, true, true, true, false] rfl rfl (any_of HT_.out (by kernel_rfl)) (fun _ _ _ h => h) (Or.inl ⟨by rfl, ?_⟩) ?_ ?_
        rotate_left
        · intro w'
          go_simp
          with_reducible rfl
        rotate_left
        · simp only [Act.put, List.setIfInBounds_toArray, List.set_cons_zero, List.set_cons_succ, i64_w, i32_w]
          rfl
        refine pure_ (i := 24) (N := (some 6)) (v := ?_) (a' := ?_) #[true, true, true, true, true, true, true, true, true, true, true, true, true, true, true, true, true, true, true, true, true, true, true, true, true] rfl rfl (any_of HT_.out (by kernel_rfl)) (fun _ _ _ h => h) (Or.inl ⟨by rfl, ?_⟩) ?_ ?_
        rotate_left
        · intro w'
          go_simp
          with_reducible rfl
        rotate_left
        · simp only [Act.put, List.setIfInBounds_toArray, List.set_cons_zero, List.set_cons_succ, i64_w, i32_w]
          rfl
        refine done_ (done_of HT_.out (by kernel_rfl)) ?_
        clear HT_ HW_ hHeld
        go_wp2_with fail
        go_ret
        exact ⟨rfl, B4.out⟩
      · skip
        have hmv : hitsB (ax + dx) (ay + dy) (bx + dx) (yb + dy) (qx + x) (qy + y) k = hitsB ax ay bx yb qx qy k := by
          have hS := HS.out
          have h1 := RA.out.1
          have h2 := RB.out.1
          have h3 := RA.out.2
          have h4 := RB.out.2
          rw [HDX.out, HDY.out, hS] at h3 h4 ⊢
          exact moved HK0.out HK28.out h1 h2 h3 h4 HQN.out hzn
        obtain ⟨H, hH⟩ : ∃ H, H = hitsB ax ay bx yb qx qy k := ⟨_, rfl⟩
        have HM1 := Aside0.mk (fun W => by have := hits_m ax ay bx yb qx qy k W; rw [← hH] at this; exact this)
        have HM2 := Aside0.mk (fun W => by have := hits_m (ax + dx) (ay + dy) (bx + dx) (yb + dy) (qx + x) (qy + y) k W; rw [hmv, ← hH] at this; exact this)
        clear hzn hmv hH
        refine pure_ (i := 5) (N := (some 95)) (v := ?_) (a' := ?_) #[true, true, true, true, true, true, false, false, false, false, false, false, false, false, false, false, false, false, false, false, false, false, false, false, false] rfl rfl (any_of HT_.out (by kernel_rfl)) (fun _ _ _ h => h) (Or.inl ⟨by rfl, ?_⟩) ?_ ?_
        rotate_left
        · intro w'
          go_simp
          with_reducible rfl
        rotate_left
        · simp only [Act.put, List.setIfInBounds_toArray, List.set_cons_zero, List.set_cons_succ, i64_w, i32_w]
          rfl
        refine pure_ (i := 6) (N := (some 96)) (v := ?_) (a' := ?_) #[true, true, true, true, true, true, true, false, false, false, false, false, false, false, false, false, false, false, false, false, false, false, false, false, false] rfl rfl (any_of HT_.out (by kernel_rfl)) (fun _ _ _ h => h) (Or.inl ⟨by rfl, ?_⟩) ?_ ?_
        rotate_left
        · intro w'
          go_simp
          with_reducible rfl
        rotate_left
        · simp only [Act.put, List.setIfInBounds_toArray, List.set_cons_zero, List.set_cons_succ, i64_w, i32_w]
          rfl
        refine pure_ (i := 7) (N := (some 97)) (v := ?_) (a' := ?_) #[true, true, true, true, true, true, true, true, false, false, false, false, false, false, false, false, false, false, false, false, false, false, false, false, false] rfl rfl (any_of HT_.out (by kernel_rfl)) (fun _ _ _ h => h) (Or.inl ⟨by rfl, ?_⟩) ?_ ?_
        rotate_left
        · intro w'
          go_simp
          with_reducible rfl
        rotate_left
        · simp only [Act.put, List.setIfInBounds_toArray, List.set_cons_zero, List.set_cons_succ, i64_w, i32_w]
          rfl
        refine take_ (i := 8) (N := (some 98)) (v := ?_) (a' := ?_) #[true, true, true, true, true, true, true, true, true, false, false, false, false, false, false, false, false, false, false, false, false, false, false, false, false] rfl rfl (take_ofW HT_.out HW_.out (by kernel_rfl)) (fun _ _ _ h => h) (Or.inl ⟨by rfl, ?_⟩) hHeld ?_ ?_
        rotate_left
        · rintro w' ⟨s3, s4, sT, sZ⟩
          have h0 := bkc s3 0 _ rfl
          have h1 := bkc s3 1 _ rfl
          go_simp
          with_reducible rfl
        rotate_left
        · simp only [Act.put, List.setIfInBounds_toArray, List.set_cons_zero, List.set_cons_succ, i64_w, i32_w]
          rfl
        refine pure_ (i := 9) (N := (some 99)) (v := ?_) (a' := ?_) #[true, true, true, true, true, true, true, true, true, true, false, false, false, false, false, false, false, false, false, false, false, false, false, false, false] rfl rfl (any_of HT_.out (by kernel_rfl)) (fun _ _ _ h => h) (Or.inl ⟨by rfl, ?_⟩) ?_ ?_
        rotate_left
        · intro w'
          go_simp
          with_reducible rfl
        rotate_left
        · simp only [Act.put, List.setIfInBounds_toArray, List.set_cons_zero, List.set_cons_succ, i64_w, i32_w]
          rfl
        refine take_ (i := 10) (N := (some 100)) (v := ?_) (a' := ?_) #[true, true, true, true, true, true, true, true, true, true, true, false, false, false, false, false, false, false, false, false, false, false, false, false, false] rfl rfl (take_ofW HT_.out HW_.out (by kernel_rfl)) (fun _ _ _ h => h) (Or.inl ⟨by rfl, ?_⟩) hHeld ?_ ?_
        rotate_left
        · rintro w' ⟨s3, s4, sT, sZ⟩
          have h0 := bkc s3 2 _ rfl
          have h1 := bkc s3 3 _ rfl
          go_simp
          with_reducible rfl
        rotate_left
        · simp only [Act.put, List.setIfInBounds_toArray, List.set_cons_zero, List.set_cons_succ, i64_w, i32_w]
          rfl
        refine take_ (i := 11) (N := (some 101)) (v := ?_) (a' := ?_) #[true, true, true, true, true, true, true, true, true, true, true, true, false, false, false, false, false, false, false, false, false, false, false, false, false] rfl rfl (take_ofW HT_.out HW_.out (by kernel_rfl)) (fun _ _ _ h => h) (Or.inl ⟨by rfl, ?_⟩) hHeld ?_ ?_
        rotate_left
        · rintro w' ⟨s3, s4, sT, sZ⟩
          have h0 := bkc s4 0 _ rfl
          have h1 := bkc s4 1 _ rfl
          go_simp
          with_reducible rfl
        rotate_left
        · simp only [Act.put, List.setIfInBounds_toArray, List.set_cons_zero, List.set_cons_succ, i64_w, i32_w]
          rfl
        refine pure_ (i := 12) (N := (some 102)) (v := ?_) (a' := ?_) #[true, true, true, true, true, true, true, true, true, true, true, true, true, false, false, false, false, false, false, false, false, false, false, false, false] rfl rfl (any_of HT_.out (by kernel_rfl)) (fun _ _ _ h => h) (Or.inl ⟨by rfl, ?_⟩) ?_ ?_
        rotate_left
        · intro w'
          go_simp
          with_reducible rfl
        rotate_left
        · simp only [Act.put, List.setIfInBounds_toArray, List.set_cons_zero, List.set_cons_succ, i64_w, i32_w]
          rfl
        refine pure_ (i := 14) (N := (some 104)) (v := ?_) (a' := ?_) #[true, true, true, true, true, true, true, true, true, true, true, true, true, false, true, false, false, false, false, false, false, false, false, false, false] rfl rfl (any_of HT_.out (by kernel_rfl)) (fun _ _ _ h => h) (Or.inl ⟨by rfl, ?_⟩) ?_ ?_
        rotate_left
        · intro w'
          go_simp
          with_reducible rfl
        rotate_left
        · simp only [Act.put, List.setIfInBounds_toArray, List.set_cons_zero, List.set_cons_succ, i64_w, i32_w]
          rfl
        refine take_ (i := 15) (N := (some 105)) (v := ?_) (a' := ?_) #[true, true, true, true, true, true, true, true, true, true, true, true, true, false, true, true, false, false, false, false, false, false, false, false, false] rfl rfl (take_ofW HT_.out HW_.out (by kernel_rfl)) (fun _ _ _ h => h) (Or.inl ⟨by rfl, ?_⟩) hHeld ?_ ?_
        rotate_left
        · rintro w' ⟨s3, s4, sT, sZ⟩
          have h0 := bkc sT 0 _ rfl
          have h1 := bkc sT 1 _ rfl
          go_simp
          with_reducible rfl
        rotate_left
        · simp only [Act.put, List.setIfInBounds_toArray, List.set_cons_zero, List.set_cons_succ, i64_w, i32_w]
          rfl
        refine pure_ (i := 16) (N := (some 106)) (v := ?_) (a' := ?_) #[true, true, true, true, true, true, true, true, true, true, true, true, true, false, true, true, true, false, false, false, false, false, false, false, false] rfl rfl (any_of HT_.out (by kernel_rfl)) (fun _ _ _ h => h) (Or.inl ⟨by rfl, ?_⟩) ?_ ?_
        rotate_left
        · intro w'
          go_simp
          with_reducible rfl
        rotate_left
        · simp only [Act.put, List.setIfInBounds_toArray, List.set_cons_zero, List.set_cons_succ, i64_w, i32_w]
          rfl
        refine take_ (i := 17) (N := (some 107)) (v := ?_) (a' := ?_) #[true, true, true, true, true, true, true, true, true, true, true, true, true, false, true, true, true, true, false, false, false, false, false, false, false] rfl rfl (take_ofW HT_.out HW_.out (by kernel_rfl)) (fun _ _ _ h => h) (Or.inl ⟨by rfl, ?_⟩) hHeld ?_ ?_
        rotate_left
        · rintro w' ⟨s3, s4, sT, sZ⟩
          have h0 := bkc sT 2 _ rfl
          have h1 := bkc sT 3 _ rfl
          go_simp
          with_reducible rfl
        rotate_left
        · simp only [Act.put, List.setIfInBounds_toArray, List.set_cons_zero, List.set_cons_succ, i64_w, i32_w]
          rfl
        refine take_ (i := 18) (N := (some 108)) (v := ?_) (a' := ?_) #[true, true, true, true, true, true, true, true, true, true, true, true, true, false, true, true, true, true, true, false, false, false, false, false, false] rfl rfl (take_ofW HT_.out HW_.out (by kernel_rfl)) (fun _ _ _ h => h) (Or.inl ⟨by rfl, ?_⟩) hHeld ?_ ?_
        rotate_left
        · rintro w' ⟨s3, s4, sT, sZ⟩
          have h0 := bkc sZ 0 _ rfl
          have h1 := bkc sZ 1 _ rfl
          go_simp
          with_reducible rfl
        rotate_left
        · simp only [Act.put, List.setIfInBounds_toArray, List.set_cons_zero, List.set_cons_succ, i64_w, i32_w]
          rfl
        refine pure_ (i := 19) (N := (some 109)) (v := ?_) (a' := ?_) #[true, true, true, true, true, true, true, true, true, true, true, true, true, false, true, true, true, true, true, true, false, false, false, false, false] rfl rfl (any_of HT_.out (by kernel_rfl)) (fun _ _ _ h => h) (Or.inl ⟨by rfl, ?_⟩) ?_ ?_
        rotate_left
        · intro w'
          go_simp
          with_reducible rfl
        rotate_left
        · simp only [Act.put, List.setIfInBounds_toArray, List.set_cons_zero, List.set_cons_succ, i64_w, i32_w]
          rfl
        refine one_ (i := 13) (N := (some 103)) #[true, true, true, true, true, true, true, true, true, true, true, true, true, true, true, true, true, true, true, true, false, false, false, false, false] rfl rfl (one_of HT_.out (by kernel_rfl)) (by decide) (fun K hK => ?_)
        refine goes_ Try.func14 (by kernel_rfl) rfl #[.agg #[.int .i64 ax, .int .i64 ay], .agg #[.int .i64 bx, .int .i64 yb], .agg #[.int .i64 qx, .int .i64 qy], .int .i64 k] (by rfl) rfl rfl (by (try simp only [List.map_toArray, List.map_cons, List.map_nil]); first | done | rfl) ?_
        with_reducible refine (HM1.out _).mono ?_
        rintro e w9 ⟨rfl, hb⟩
        refine ⟨_, rfl, ?_⟩
        have B5 := Aside0.mk (below_step B4.out hb)
        have hHeld2 : _ ∧ _ ∧ _ ∧ _ := ⟨bkb hHeld.1 hb, bkb hHeld.2.1 hb, bkb hHeld.2.2.1 hb, bkb hHeld.2.2.2 hb⟩
        clear hHeld hb B4
        refine hK.out _ _ hHeld2 (fun hHeld => ?_)
        clear hK K hHeld2
        refine norm_ (a' := ?_) ?_ ?_
        rotate_left
        · show Act.put _ (some 103) _ = _
          simp only [Act.put, List.setIfInBounds_toArray, List.set_cons_zero, List.set_cons_succ, i64_w, i32_w]
          rfl
        refine one_ (i := 20) (N := (some 110)) #[true, true, true, true, true, true, true, true, true, true, true, true, true, true, true, true, true, true, true, true, true, false, false, false, false] rfl rfl (one_of HT_.out (by kernel_rfl)) (by decide) (fun K hK => ?_)
        refine goes_ Try.func14 (by kernel_rfl) rfl #[.agg #[.int .i64 (ax + dx), .int .i64 (ay + dy)], .agg #[.int .i64 (bx + dx), .int .i64 (yb + dy)], .agg #[.int .i64 (qx + x), .int .i64 (qy + y)], .int .i64 k] (by rfl) rfl rfl (by (try simp only [List.map_toArray, List.map_cons, List.map_nil]); first | done | rfl) ?_
        with_reducible refine (HM2.out _).mono ?_
        rintro e w10 ⟨rfl, hb⟩
        refine ⟨_, rfl, ?_⟩
        have B6 := Aside0.mk (below_step B5.out hb)
        have hHeld2 : _ ∧ _ ∧ _ ∧ _ := ⟨bkb hHeld.1 hb, bkb hHeld.2.1 hb, bkb hHeld.2.2.1 hb, bkb hHeld.2.2.2 hb⟩
        clear hHeld hb B5
        refine hK.out _ _ hHeld2 (fun hHeld => ?_)
        clear hK K hHeld2
        refine norm_ (a' := ?_) ?_ ?_
        rotate_left
        · show Act.put _ (some 110) _ = _
          simp only [Act.put, List.setIfInBounds_toArray, List.set_cons_zero, List.set_cons_succ, i64_w, i32_w]
          rfl
        cases H
        · skip
          refine pure_ (i := 21) (N := (some 111)) (v := ?_) (a' := ?_) #[true, true, true, true, true, true, true, true, true, true, true, true, true, true, true, true, true, true, true, true, true, true, false, false, false] rfl rfl (any_of HT_.out (by kernel_rfl)) (fun _ _ _ h => h) (Or.inl ⟨by rfl, ?_⟩) ?_ ?_
          rotate_left
          · intro w'
            go_simp
            with_reducible rfl
          rotate_left
          · simp only [Act.put, List.setIfInBounds_toArray, List.set_cons_zero, List.set_cons_succ, i64_w, i32_w]
            rfl
          refine pure_ (i := 22) (N := (some 112)) (v := ?_) (a' := ?_) #[true, true, true, true, true, true, true, true, true, true, true, true, true, true, true, true, true, true, true, true, true, true, true, false, false] rfl rfl (any_of HT_.out (by kernel_rfl)) (fun _ _ _ h => h) (Or.inl ⟨by rfl, ?_⟩) ?_ ?_
          rotate_left
          · intro w'
            go_simp
            with_reducible rfl
          rotate_left
          · simp only [Act.put, List.setIfInBounds_toArray, List.set_cons_zero, List.set_cons_succ, i64_w, i32_w]
            rfl
          refine pure_ (i := 23) (N := (some 113)) (v := ?_) (a' := ?_) #[true, true, true, true, true, true, true, true, true, true, true, true, true, true, true, true, true, true, true, true, true, true, true, true, false] rfl rfl (any_of HT_.out (by kernel_rfl)) (fun _ _ _ h => h) (Or.inl ⟨by rfl, ?_⟩) ?_ ?_
          rotate_left
          · intro w'
            go_simp
            with_reducible rfl
          rotate_left
          · simp only [Act.put, List.setIfInBounds_toArray, List.set_cons_zero, List.set_cons_succ, i64_w, i32_w]
            rfl
          refine pure_ (i := 24) (N := (some 6)) (v := ?_) (a' := ?_) #[true, true, true, true, true, true, true, true, true, true, true, true, true, true, true, true, true, true, true, true, true, true, true, true, true] rfl rfl (any_of HT_.out (by kernel_rfl)) (fun _ _ _ h => h) (Or.inl ⟨by rfl, ?_⟩) ?_ ?_
          rotate_left
          · intro w'
            go_simp
            with_reducible rfl
          rotate_left
          · simp only [Act.put, List.setIfInBounds_toArray, List.set_cons_zero, List.set_cons_succ, i64_w, i32_w]
            rfl
          refine done_ (done_of HT_.out (by kernel_rfl)) ?_
          clear HT_ HW_ hHeld
          go_wp2_with fail
          go_ret
          exact ⟨rfl, B6.out⟩
        · skip
          refine pure_ (i := 21) (N := (some 111)) (v := ?_) (a' := ?_) #[true, true, true, true, true, true, true, true, true, true, true, true, true, true, true, true, true, true, true, true, true, true, false, false, false] rfl rfl (any_of HT_.out (by kernel_rfl)) (fun _ _ _ h => h) (Or.inl ⟨by rfl, ?_⟩) ?_ ?_
          rotate_left
          · intro w'
            go_simp
            with_reducible rfl
          rotate_left
          · simp only [Act.put, List.setIfInBounds_toArray, List.set_cons_zero, List.set_cons_succ, i64_w, i32_w]
            rfl
          refine pure_ (i := 22) (N := (some 112)) (v := ?_) (a' := ?_) #[true, true, true, true, true, true, true, true, true, true, true, true, true, true, true, true, true, true, true, true, true, true, true, false, false] rfl rfl (any_of HT_.out (by kernel_rfl)) (fun _ _ _ h => h) (Or.inl ⟨by rfl, ?_⟩) ?_ ?_
          rotate_left
          · intro w'
            go_simp
            with_reducible rfl
          rotate_left
          · simp only [Act.put, List.setIfInBounds_toArray, List.set_cons_zero, List.set_cons_succ, i64_w, i32_w]
            rfl
          refine pure_ (i := 23) (N := (some 113)) (v := ?_) (a' := ?_) #[true, true, true, true, true, true, true, true, true, true, true, true, true, true, true, true, true, true, true, true, true, true, true, true, false] rfl rfl (any_of HT_.out (by kernel_rfl)) (fun _ _ _ h => h) (Or.inl ⟨by rfl, ?_⟩) ?_ ?_
          rotate_left
          · intro w'
            go_simp
            with_reducible rfl
          rotate_left
          · simp only [Act.put, List.setIfInBounds_toArray, List.set_cons_zero, List.set_cons_succ, i64_w, i32_w]
            rfl
          refine pure_ (i := 24) (N := (some 6)) (v := ?_) (a' := ?_) #[true, true, true, true, true, true, true, true, true, true, true, true, true, true, true, true, true, true, true, true, true, true, true, true, true] rfl rfl (any_of HT_.out (by kernel_rfl)) (fun _ _ _ h => h) (Or.inl ⟨by rfl, ?_⟩) ?_ ?_
          rotate_left
          · intro w'
            go_simp
            with_reducible rfl
          rotate_left
          · simp only [Act.put, List.setIfInBounds_toArray, List.set_cons_zero, List.set_cons_succ, i64_w, i32_w]
            rfl
          refine done_ (done_of HT_.out (by kernel_rfl)) ?_
          clear HT_ HW_ hHeld
          go_wp2_with fail
          go_ret
          exact ⟨rfl, B6.out⟩
end Go.Proofs.Ytglkjeeiiflpjaa.F
