/- pixel.Meets: the walk. -/
import Derived.Test.YtglkjeeiiflpjaaHCut
import Derived.Test.YtglkjeeiiflpjaaHSome
import Derived.Test.YtglkjeeiiflpjaaFS
namespace Go.Proofs.Ytglkjeeiiflpjaa.F
open Go.RowKit Go.Proofs.YtglkjeeiiflpjaaW.PrintWords Go.Proofs.YtglkjeeiiflpjaaW.PrintLast Go.Proofs.YtglkjeeiiflpjaaW.PrintMore
set_option linter.unusedVariables false
set_option linter.unusedSimpArgs false
open PxM (Bd)
/-- Both numbers are at most so far from nought. -/
def rightB (l x y : Int) : Bool := decide (-l ≤ x ∧ x ≤ l ∧ -l ≤ y ∧ y ≤ l)
theorem cross_Right_eq (x y : Int) : cross_Right.f x y = some (rightB 134217728 x y) := by
  unfold cross_Right.f rightB
  repeat' split
  all_goals first | (congr 1; exact decide_eq_decide.2 ⟨fun _ => by omega, fun _ => by omega⟩) | (congr 1; exact (decide_eq_false (by omega)).symm)
theorem pixel_right_eq (x y : Int) : pixel_right.f x y = some (rightB 536870912 x y) := by
  unfold pixel_right.f rightB
  repeat' split
  all_goals first | (congr 1; exact decide_eq_decide.2 ⟨fun _ => by omega, fun _ => by omega⟩) | (congr 1; exact (decide_eq_false (by omega)).symm)
theorem wneg {x : Int} (h1 : -4611686018427387904 ≤ x) (h2 : x ≤ 4611686018427387904) : wrap64 x = x := by unfold wrap64; omega
def rest0 : PxM.Rest := ⟨⟨0, 1, true⟩, ⟨1, 1, true⟩, false⟩
/-- What is left of a segment behind four cuts. -/
def restOf (ax ay bx yb lx ly hx hy k : Int) : PxM.Rest :=
  PxM.cut (PxM.cut (PxM.cut (PxM.cut rest0 (wrap64 (2 * ax)) (wrap64 (2 * wrap64 (bx - ax))) lx (k != 2)) (wrap64 (2 * ay)) (wrap64 (2 * wrap64 (yb - ay))) ly (k != 2))
    (wrap64 (-2 * ax)) (wrap64 (-(wrap64 (2 * wrap64 (bx - ax))))) (wrap64 (-hx)) (k == 1)) (wrap64 (-2 * ay)) (wrap64 (-(wrap64 (2 * wrap64 (yb - ay))))) (wrap64 (-hy)) (k == 1)
def meetsB (ax ay bx yb lx ly hx hy k : Int) : Bool := rightB 134217728 ax ay && rightB 134217728 bx yb && rightB 536870912 lx ly && rightB 536870912 hx hy && decide (0 ≤ k) && decide (k ≤ 2) && PxM.some (restOf ax ay bx yb lx ly hx hy k)
theorem cut_BdOk {r : PxM.Rest} (h1 : BdOk r.fr) (h2 : BdOk r.up) {fr dy limit : Int} (i : Bool) (ha : -1073741824 ≤ limit - fr) (hb : limit - fr ≤ 1073741824) (hc : -1073741824 ≤ dy) (hd : dy ≤ 1073741824) :
    BdOk (PxM.cut r fr dy limit i).fr ∧ BdOk (PxM.cut r fr dy limit i).up := by
  unfold PxM.cut
  by_cases c1 : 0 < dy
  · rw [if_pos c1]
    have hx : BdOk ⟨limit - fr, dy, i⟩ := ⟨ha, hb, c1, hd⟩
    unfold PxM.after
    split
    · exact ⟨hx, h2⟩
    · split
      · exact ⟨h1, h2⟩
      · exact ⟨h1, h2⟩
  · rw [if_neg c1]
    by_cases c2 : dy < 0
    · rw [if_pos c2]
      have hx : BdOk ⟨-(limit - fr), -dy, i⟩ := ⟨by dsimp only; omega, by dsimp only; omega, by dsimp only; omega, by dsimp only; omega⟩
      unfold PxM.upto
      split
      · exact ⟨h1, hx⟩
      · split
        · exact ⟨h1, h2⟩
        · exact ⟨h1, h2⟩
    · rw [if_neg c2]
      split
      · exact ⟨h1, h2⟩
      · exact ⟨h1, h2⟩
def pixel_Meets.T4 : Bool × List (List Nat × List Nat) := (true, [([], []), ([0], [0]), ([], []), ([2], [2]), ([1, 3], [1, 3]), ([4], [4]), ([], []), ([6], [6]), ([], []), ([8], [8]), ([7, 9], [7, 9]), ([10], [10]), ([5, 0, 1, 2, 3, 4, 5], [5]), ([11, 12, 0, 1, 2, 3, 4, 5, 6, 7, 8, 9, 10, 11, 12], [11])])
def pixel_Meets.B4 : List Nat := [0, 1, 0, 4, 15, 31, 0, 64, 0, 256, 960, 1984, 63, 8191]
theorem pixel_Meets.tab4 : rtab .any (opsOf Try.f11 4) = pixel_Meets.T4 := by kernel_rfl
theorem pixel_Meets.bits4 : waitsOk pixel_Meets.T4.2 pixel_Meets.B4 = true := by kernel_rfl
set_option maxHeartbeats 8000000 in
set_option maxRecDepth 100000 in
theorem pixel_Meets.no (ax ay bx yb lx ly hx hy k : Int) (ra rb rl rh : Bool) (w : World) (ca : ∀ W, Calls Try.prog 23 #[.agg #[.int .i64 ax, .int .i64 ay]] W fun e w' => e = .returned (.bool ra) ∧ Below W.heap.size W w') (cb : ∀ W, Calls Try.prog 23 #[.agg #[.int .i64 bx, .int .i64 yb]] W fun e w' => e = .returned (.bool rb) ∧ Below W.heap.size W w') (cl : ∀ W, Calls Try.prog 24 #[.agg #[.int .i64 lx, .int .i64 ly]] W fun e w' => e = .returned (.bool rl) ∧ Below W.heap.size W w') (ch : ∀ W, Calls Try.prog 24 #[.agg #[.int .i64 hx, .int .i64 hy]] W fun e w' => e = .returned (.bool rh) ∧ Below W.heap.size W w') (h : (ra && rb && rl && rh && decide (0 ≤ k) && decide (k ≤ 2)) = false) :
    Calls Try.prog 11 #[.agg #[.int .i64 ax, .int .i64 ay], .agg #[.int .i64 bx, .int .i64 yb], .agg #[.int .i64 lx, .int .i64 ly], .agg #[.int .i64 hx, .int .i64 hy], .int .i64 k] w fun e w' => e = .returned (.bool false) ∧ Below w.heap.size w w' := by
  have CA := Aside0.mk ca
  have CB := Aside0.mk cb
  have CL := Aside0.mk cl
  have CH := Aside0.mk ch
  clear ca cb cl ch
  have h5 : ra = false ∨ (ra = true ∧ rb = false) ∨ (ra = true ∧ rb = true ∧ rl = false) ∨ (ra = true ∧ rb = true ∧ rl = true ∧ rh = false) ∨ (ra = true ∧ rb = true ∧ rl = true ∧ rh = true ∧ decide (k < 0) = true) ∨ (ra = true ∧ rb = true ∧ rl = true ∧ rh = true ∧ decide (k < 0) = false ∧ decide (k > 2) = true) := by
    cases ra <;> cases rb <;> cases rl <;> cases rh <;> simp_all
    omega
  clear h
  rcases h5 with rfl | ⟨rfl, rfl⟩ | ⟨rfl, rfl, rfl⟩ | ⟨rfl, rfl, rfl, rfl⟩ | ⟨rfl, rfl, rfl, rfl, k1⟩ | ⟨rfl, rfl, rfl, rfl, k1, k2⟩
  all_goals
    have HB := Aside0.mk (show Below w.heap.size w ((((w.alloc (.cells #[.int .i64 ax, .int .i64 ay] 23)).alloc (.cells #[.int .i64 bx, .int .i64 yb] 23)).alloc (.cells #[.int .i64 lx, .int .i64 ly] 23)).alloc (.cells #[.int .i64 hx, .int .i64 hy] 23)) from (((((Below.refl _ _).alloc (Nat.le_refl _) _).alloc (by simp) _).alloc (by simp; omega) _).alloc (by simp; omega) _))
    have a0 : ((((w.alloc (.cells #[.int .i64 ax, .int .i64 ay] 23)).alloc (.cells #[.int .i64 bx, .int .i64 yb] 23)).alloc (.cells #[.int .i64 lx, .int .i64 ly] 23)).alloc (.cells #[.int .i64 hx, .int .i64 hy] 23)).cell? ⟨w.heap.size, 0, none⟩ = some (.int .i64 ax) := by go_simp
    have a1 : ((((w.alloc (.cells #[.int .i64 ax, .int .i64 ay] 23)).alloc (.cells #[.int .i64 bx, .int .i64 yb] 23)).alloc (.cells #[.int .i64 lx, .int .i64 ly] 23)).alloc (.cells #[.int .i64 hx, .int .i64 hy] 23)).cell? ⟨w.heap.size, 1, none⟩ = some (.int .i64 ay) := by go_simp
    have b0 : ((((w.alloc (.cells #[.int .i64 ax, .int .i64 ay] 23)).alloc (.cells #[.int .i64 bx, .int .i64 yb] 23)).alloc (.cells #[.int .i64 lx, .int .i64 ly] 23)).alloc (.cells #[.int .i64 hx, .int .i64 hy] 23)).cell? ⟨w.heap.size + 1, 0, none⟩ = some (.int .i64 bx) := by go_simp
    have b1 : ((((w.alloc (.cells #[.int .i64 ax, .int .i64 ay] 23)).alloc (.cells #[.int .i64 bx, .int .i64 yb] 23)).alloc (.cells #[.int .i64 lx, .int .i64 ly] 23)).alloc (.cells #[.int .i64 hx, .int .i64 hy] 23)).cell? ⟨w.heap.size + 1, 1, none⟩ = some (.int .i64 yb) := by go_simp
    have l0 : ((((w.alloc (.cells #[.int .i64 ax, .int .i64 ay] 23)).alloc (.cells #[.int .i64 bx, .int .i64 yb] 23)).alloc (.cells #[.int .i64 lx, .int .i64 ly] 23)).alloc (.cells #[.int .i64 hx, .int .i64 hy] 23)).cell? ⟨w.heap.size + 1 + 1, 0, none⟩ = some (.int .i64 lx) := by go_simp
    have l1 : ((((w.alloc (.cells #[.int .i64 ax, .int .i64 ay] 23)).alloc (.cells #[.int .i64 bx, .int .i64 yb] 23)).alloc (.cells #[.int .i64 lx, .int .i64 ly] 23)).alloc (.cells #[.int .i64 hx, .int .i64 hy] 23)).cell? ⟨w.heap.size + 1 + 1, 1, none⟩ = some (.int .i64 ly) := by go_simp
    have h0 : ((((w.alloc (.cells #[.int .i64 ax, .int .i64 ay] 23)).alloc (.cells #[.int .i64 bx, .int .i64 yb] 23)).alloc (.cells #[.int .i64 lx, .int .i64 ly] 23)).alloc (.cells #[.int .i64 hx, .int .i64 hy] 23)).cell? ⟨w.heap.size + 1 + 1 + 1, 0, none⟩ = some (.int .i64 hx) := by go_simp
    have h1 : ((((w.alloc (.cells #[.int .i64 ax, .int .i64 ay] 23)).alloc (.cells #[.int .i64 bx, .int .i64 yb] 23)).alloc (.cells #[.int .i64 lx, .int .i64 ly] 23)).alloc (.cells #[.int .i64 hx, .int .i64 hy] 23)).cell? ⟨w.heap.size + 1 + 1 + 1, 1, none⟩ = some (.int .i64 hy) := by go_simp
    go_enter Try.func11, Try.ntmps11
    go_wp2_with fail
    generalize ((((w.alloc (.cells #[.int .i64 ax, .int .i64 ay] 23)).alloc (.cells #[.int .i64 bx, .int .i64 yb] 23)).alloc (.cells #[.int .i64 lx, .int .i64 ly] 23)).alloc (.cells #[.int .i64 hx, .int .i64 hy] 23)) = w1 at HB a0 a1 b0 b1 l0 l1 h0 h1 ⊢
    obtain ⟨B3, hB3⟩ : ∃ B, B = w.heap.size + 1 + 1 + 1 := ⟨_, rfl⟩
    obtain ⟨B2, hB2⟩ : ∃ B, B = w.heap.size + 1 + 1 := ⟨_, rfl⟩
    obtain ⟨B1, hB1⟩ : ∃ B, B = w.heap.size + 1 := ⟨_, rfl⟩
    obtain ⟨B0, hB0⟩ : ∃ B, B = w.heap.size := ⟨_, rfl⟩
    rw [← hB3] at h0 h1 ⊢
    rw [← hB2] at l0 l1 ⊢
    rw [← hB1] at b0 b1 ⊢
    rw [← hB0] at a0 a1 ⊢
    clear hB0 hB1 hB2 hB3
    go_wp2_with (first | (go_at_call 23; (with_reducible refine (CA.out _).mono ?_); rintro e w2 ⟨rfl, hb⟩; have a0' := (hb.cell (World.block_lt_of_cell? _ _ a0)).trans a0; clear a0; have a0 := a0'; clear a0'; have a1' := (hb.cell (World.block_lt_of_cell? _ _ a1)).trans a1; clear a1; have a1 := a1'; clear a1'; have b0' := (hb.cell (World.block_lt_of_cell? _ _ b0)).trans b0; clear b0; have b0 := b0'; clear b0'; have b1' := (hb.cell (World.block_lt_of_cell? _ _ b1)).trans b1; clear b1; have b1 := b1'; clear b1'; have l0' := (hb.cell (World.block_lt_of_cell? _ _ l0)).trans l0; clear l0; have l0 := l0'; clear l0'; have l1' := (hb.cell (World.block_lt_of_cell? _ _ l1)).trans l1; clear l1; have l1 := l1'; clear l1'; have h0' := (hb.cell (World.block_lt_of_cell? _ _ h0)).trans h0; clear h0; have h0 := h0'; clear h0'; have h1' := (hb.cell (World.block_lt_of_cell? _ _ h1)).trans h1; clear h1; have h1 := h1'; clear h1'; have HB' := Aside0.mk (below_step HB.out hb); clear HB; have HB := HB'; clear HB' hb) | (go_at_call 23; (with_reducible refine (CB.out _).mono ?_); rintro e w2 ⟨rfl, hb⟩; have a0' := (hb.cell (World.block_lt_of_cell? _ _ a0)).trans a0; clear a0; have a0 := a0'; clear a0'; have a1' := (hb.cell (World.block_lt_of_cell? _ _ a1)).trans a1; clear a1; have a1 := a1'; clear a1'; have b0' := (hb.cell (World.block_lt_of_cell? _ _ b0)).trans b0; clear b0; have b0 := b0'; clear b0'; have b1' := (hb.cell (World.block_lt_of_cell? _ _ b1)).trans b1; clear b1; have b1 := b1'; clear b1'; have l0' := (hb.cell (World.block_lt_of_cell? _ _ l0)).trans l0; clear l0; have l0 := l0'; clear l0'; have l1' := (hb.cell (World.block_lt_of_cell? _ _ l1)).trans l1; clear l1; have l1 := l1'; clear l1'; have h0' := (hb.cell (World.block_lt_of_cell? _ _ h0)).trans h0; clear h0; have h0 := h0'; clear h0'; have h1' := (hb.cell (World.block_lt_of_cell? _ _ h1)).trans h1; clear h1; have h1 := h1'; clear h1'; have HB' := Aside0.mk (below_step HB.out hb); clear HB; have HB := HB'; clear HB' hb) | (go_at_call 24; (with_reducible refine (CL.out _).mono ?_); rintro e w2 ⟨rfl, hb⟩; have a0' := (hb.cell (World.block_lt_of_cell? _ _ a0)).trans a0; clear a0; have a0 := a0'; clear a0'; have a1' := (hb.cell (World.block_lt_of_cell? _ _ a1)).trans a1; clear a1; have a1 := a1'; clear a1'; have b0' := (hb.cell (World.block_lt_of_cell? _ _ b0)).trans b0; clear b0; have b0 := b0'; clear b0'; have b1' := (hb.cell (World.block_lt_of_cell? _ _ b1)).trans b1; clear b1; have b1 := b1'; clear b1'; have l0' := (hb.cell (World.block_lt_of_cell? _ _ l0)).trans l0; clear l0; have l0 := l0'; clear l0'; have l1' := (hb.cell (World.block_lt_of_cell? _ _ l1)).trans l1; clear l1; have l1 := l1'; clear l1'; have h0' := (hb.cell (World.block_lt_of_cell? _ _ h0)).trans h0; clear h0; have h0 := h0'; clear h0'; have h1' := (hb.cell (World.block_lt_of_cell? _ _ h1)).trans h1; clear h1; have h1 := h1'; clear h1'; have HB' := Aside0.mk (below_step HB.out hb); clear HB; have HB := HB'; clear HB' hb) | (go_at_call 24; (with_reducible refine (CH.out _).mono ?_); rintro e w2 ⟨rfl, hb⟩; have a0' := (hb.cell (World.block_lt_of_cell? _ _ a0)).trans a0; clear a0; have a0 := a0'; clear a0'; have a1' := (hb.cell (World.block_lt_of_cell? _ _ a1)).trans a1; clear a1; have a1 := a1'; clear a1'; have b0' := (hb.cell (World.block_lt_of_cell? _ _ b0)).trans b0; clear b0; have b0 := b0'; clear b0'; have b1' := (hb.cell (World.block_lt_of_cell? _ _ b1)).trans b1; clear b1; have b1 := b1'; clear b1'; have l0' := (hb.cell (World.block_lt_of_cell? _ _ l0)).trans l0; clear l0; have l0 := l0'; clear l0'; have l1' := (hb.cell (World.block_lt_of_cell? _ _ l1)).trans l1; clear l1; have l1 := l1'; clear l1'; have h0' := (hb.cell (World.block_lt_of_cell? _ _ h0)).trans h0; clear h0; have h0 := h0'; clear h0'; have h1' := (hb.cell (World.block_lt_of_cell? _ _ h1)).trans h1; clear h1; have h1 := h1'; clear h1'; have HB' := Aside0.mk (below_step HB.out hb); clear HB; have HB := HB'; clear HB' hb))
    go_ret
    exact ⟨by first | rfl | simp, HB.out⟩
set_option maxHeartbeats 8000000 in
set_option maxRecDepth 100000 in
theorem pixel_Meets.yes (ax ay bx yb lx ly hx hy k : Int) (w : World) (g1 : rightB 134217728 ax ay = true) (g2 : rightB 134217728 bx yb = true) (g3 : rightB 536870912 lx ly = true) (g4 : rightB 536870912 hx hy = true) (g5 : 0 ≤ k) (g6 : k ≤ 2) :
    Calls Try.prog 11 #[.agg #[.int .i64 ax, .int .i64 ay], .agg #[.int .i64 bx, .int .i64 yb], .agg #[.int .i64 lx, .int .i64 ly], .agg #[.int .i64 hx, .int .i64 hy], .int .i64 k] w fun e w' => e = .returned (.bool (PxM.some (restOf ax ay bx yb lx ly hx hy k))) ∧ Below w.heap.size w w' := by
  have ca := fun W => cross_Right.calls ax ay true W (by rw [cross_Right_eq, g1])
  have cb := fun W => cross_Right.calls bx yb true W (by rw [cross_Right_eq, g2])
  have cl := fun W => pixel_right.calls lx ly true W (by rw [pixel_right_eq, g3])
  have ch := fun W => pixel_right.calls hx hy true W (by rw [pixel_right_eq, g4])
  have k1 : decide (k < 0) = false := decide_eq_false (by omega)
  have k2 : decide (k > 2) = false := decide_eq_false (by omega)
  unfold rightB at g1 g2 g3 g4
  replace g1 := of_decide_eq_true g1
  replace g2 := of_decide_eq_true g2
  replace g3 := of_decide_eq_true g3
  replace g4 := of_decide_eq_true g4
  have w1 : wrap64 (2 * ax) = 2 * ax := wneg (by omega) (by omega)
  have w2 : wrap64 (2 * ay) = 2 * ay := wneg (by omega) (by omega)
  have w3 : wrap64 (bx - ax) = bx - ax := wneg (by omega) (by omega)
  have w4 : wrap64 (yb - ay) = yb - ay := wneg (by omega) (by omega)
  have w5 : wrap64 (2 * (bx - ax)) = 2 * (bx - ax) := wneg (by omega) (by omega)
  have w6 : wrap64 (2 * (yb - ay)) = 2 * (yb - ay) := wneg (by omega) (by omega)
  have w7 : wrap64 (-(2 * (bx - ax))) = -(2 * (bx - ax)) := wneg (by omega) (by omega)
  have w8 : wrap64 (-(2 * (yb - ay))) = -(2 * (yb - ay)) := wneg (by omega) (by omega)
  have w9 : wrap64 (-2 * ax) = -2 * ax := wneg (by omega) (by omega)
  have w10 : wrap64 (-2 * ay) = -2 * ay := wneg (by omega) (by omega)
  have w11 : wrap64 (-hx) = -hx := wneg (by omega) (by omega)
  have w12 : wrap64 (-hy) = -hy := wneg (by omega) (by omega)
  have b0 : BdOk rest0.fr ∧ BdOk rest0.up := ⟨⟨by decide, by decide, by decide, by decide⟩, ⟨by decide, by decide, by decide, by decide⟩⟩
  have c0 := fun (B : Nat) (W : World) (hR : RestAt W B rest0) => rest_cut.calls B rest0 (wrap64 (2 * ax)) (wrap64 (2 * wrap64 (bx - ax))) (lx) (k != 2) W hR b0.1 b0.2 (by simp only [w1, w2, w3, w4, w5, w6, w7, w8, w9, w10, w11, w12]; omega) (by simp only [w1, w2, w3, w4, w5, w6, w7, w8, w9, w10, w11, w12]; omega) (by simp only [w1, w2, w3, w4, w5, w6, w7, w8, w9, w10, w11, w12]; omega) (by simp only [w1, w2, w3, w4, w5, w6, w7, w8, w9, w10, w11, w12]; omega)
  have b1 := cut_BdOk b0.1 b0.2 (fr := wrap64 (2 * ax)) (dy := wrap64 (2 * wrap64 (bx - ax))) (limit := lx) (k != 2) (by simp only [w1, w2, w3, w4, w5, w6, w7, w8, w9, w10, w11, w12]; omega) (by simp only [w1, w2, w3, w4, w5, w6, w7, w8, w9, w10, w11, w12]; omega) (by simp only [w1, w2, w3, w4, w5, w6, w7, w8, w9, w10, w11, w12]; omega) (by simp only [w1, w2, w3, w4, w5, w6, w7, w8, w9, w10, w11, w12]; omega)
  obtain ⟨r1, hr1⟩ : ∃ r, r = PxM.cut rest0 (wrap64 (2 * ax)) (wrap64 (2 * wrap64 (bx - ax))) (lx) (k != 2) := ⟨_, rfl⟩
  rw [← hr1] at b1 c0
  have c1 := fun (B : Nat) (W : World) (hR : RestAt W B r1) => rest_cut.calls B r1 (wrap64 (2 * ay)) (wrap64 (2 * wrap64 (yb - ay))) (ly) (k != 2) W hR b1.1 b1.2 (by simp only [w1, w2, w3, w4, w5, w6, w7, w8, w9, w10, w11, w12]; omega) (by simp only [w1, w2, w3, w4, w5, w6, w7, w8, w9, w10, w11, w12]; omega) (by simp only [w1, w2, w3, w4, w5, w6, w7, w8, w9, w10, w11, w12]; omega) (by simp only [w1, w2, w3, w4, w5, w6, w7, w8, w9, w10, w11, w12]; omega)
  have b2 := cut_BdOk b1.1 b1.2 (fr := wrap64 (2 * ay)) (dy := wrap64 (2 * wrap64 (yb - ay))) (limit := ly) (k != 2) (by simp only [w1, w2, w3, w4, w5, w6, w7, w8, w9, w10, w11, w12]; omega) (by simp only [w1, w2, w3, w4, w5, w6, w7, w8, w9, w10, w11, w12]; omega) (by simp only [w1, w2, w3, w4, w5, w6, w7, w8, w9, w10, w11, w12]; omega) (by simp only [w1, w2, w3, w4, w5, w6, w7, w8, w9, w10, w11, w12]; omega)
  obtain ⟨r2, hr2⟩ : ∃ r, r = PxM.cut r1 (wrap64 (2 * ay)) (wrap64 (2 * wrap64 (yb - ay))) (ly) (k != 2) := ⟨_, rfl⟩
  rw [← hr2] at b2 c1
  have c2 := fun (B : Nat) (W : World) (hR : RestAt W B r2) => rest_cut.calls B r2 (wrap64 (-2 * ax)) (wrap64 (-(wrap64 (2 * wrap64 (bx - ax))))) (wrap64 (-hx)) (k == 1) W hR b2.1 b2.2 (by simp only [w1, w2, w3, w4, w5, w6, w7, w8, w9, w10, w11, w12]; omega) (by simp only [w1, w2, w3, w4, w5, w6, w7, w8, w9, w10, w11, w12]; omega) (by simp only [w1, w2, w3, w4, w5, w6, w7, w8, w9, w10, w11, w12]; omega) (by simp only [w1, w2, w3, w4, w5, w6, w7, w8, w9, w10, w11, w12]; omega)
  have b3 := cut_BdOk b2.1 b2.2 (fr := wrap64 (-2 * ax)) (dy := wrap64 (-(wrap64 (2 * wrap64 (bx - ax))))) (limit := wrap64 (-hx)) (k == 1) (by simp only [w1, w2, w3, w4, w5, w6, w7, w8, w9, w10, w11, w12]; omega) (by simp only [w1, w2, w3, w4, w5, w6, w7, w8, w9, w10, w11, w12]; omega) (by simp only [w1, w2, w3, w4, w5, w6, w7, w8, w9, w10, w11, w12]; omega) (by simp only [w1, w2, w3, w4, w5, w6, w7, w8, w9, w10, w11, w12]; omega)
  obtain ⟨r3, hr3⟩ : ∃ r, r = PxM.cut r2 (wrap64 (-2 * ax)) (wrap64 (-(wrap64 (2 * wrap64 (bx - ax))))) (wrap64 (-hx)) (k == 1) := ⟨_, rfl⟩
  rw [← hr3] at b3 c2
  have c3 := fun (B : Nat) (W : World) (hR : RestAt W B r3) => rest_cut.calls B r3 (wrap64 (-2 * ay)) (wrap64 (-(wrap64 (2 * wrap64 (yb - ay))))) (wrap64 (-hy)) (k == 1) W hR b3.1 b3.2 (by simp only [w1, w2, w3, w4, w5, w6, w7, w8, w9, w10, w11, w12]; omega) (by simp only [w1, w2, w3, w4, w5, w6, w7, w8, w9, w10, w11, w12]; omega) (by simp only [w1, w2, w3, w4, w5, w6, w7, w8, w9, w10, w11, w12]; omega) (by simp only [w1, w2, w3, w4, w5, w6, w7, w8, w9, w10, w11, w12]; omega)
  have b4 := cut_BdOk b3.1 b3.2 (fr := wrap64 (-2 * ay)) (dy := wrap64 (-(wrap64 (2 * wrap64 (yb - ay))))) (limit := wrap64 (-hy)) (k == 1) (by simp only [w1, w2, w3, w4, w5, w6, w7, w8, w9, w10, w11, w12]; omega) (by simp only [w1, w2, w3, w4, w5, w6, w7, w8, w9, w10, w11, w12]; omega) (by simp only [w1, w2, w3, w4, w5, w6, w7, w8, w9, w10, w11, w12]; omega) (by simp only [w1, w2, w3, w4, w5, w6, w7, w8, w9, w10, w11, w12]; omega)
  have hr4 : restOf ax ay bx yb lx ly hx hy k = PxM.cut r3 (wrap64 (-2 * ay)) (wrap64 (-(wrap64 (2 * wrap64 (yb - ay))))) (wrap64 (-hy)) (k == 1) := by rw [hr3, hr2, hr1]; rfl
  rw [← hr4] at b4 c3
  generalize restOf ax ay bx yb lx ly hx hy k = r4 at *
  have c4 := fun (B : Nat) (W : World) (hR : RestAt W B r4) => rest_some.calls B r4 W hR b4.1 b4.2
  clear b0 b1 b2 b3 b4 hr1 hr2 hr3 hr4 w1 w2 w3 w4 w5 w6 w7 w8 w9 w10 w11 w12 g1 g2 g3 g4 g5 g6
  have D0 := Aside0.mk c0
  have D1 := Aside0.mk c1
  have D2 := Aside0.mk c2
  have D3 := Aside0.mk c3
  have D4 := Aside0.mk c4
  clear c0 c1 c2 c3 c4
  have CA := Aside0.mk ca
  have CB := Aside0.mk cb
  have CL := Aside0.mk cl
  have CH := Aside0.mk ch
  clear ca cb cl ch
  have HB := Aside0.mk (show Below w.heap.size w ((((w.alloc (.cells #[.int .i64 ax, .int .i64 ay] 23)).alloc (.cells #[.int .i64 bx, .int .i64 yb] 23)).alloc (.cells #[.int .i64 lx, .int .i64 ly] 23)).alloc (.cells #[.int .i64 hx, .int .i64 hy] 23)) from (((((Below.refl _ _).alloc (Nat.le_refl _) _).alloc (by simp) _).alloc (by simp; omega) _).alloc (by simp; omega) _))
  have a0 : ((((w.alloc (.cells #[.int .i64 ax, .int .i64 ay] 23)).alloc (.cells #[.int .i64 bx, .int .i64 yb] 23)).alloc (.cells #[.int .i64 lx, .int .i64 ly] 23)).alloc (.cells #[.int .i64 hx, .int .i64 hy] 23)).cell? ⟨w.heap.size, 0, none⟩ = some (.int .i64 ax) := by go_simp
  have a1 : ((((w.alloc (.cells #[.int .i64 ax, .int .i64 ay] 23)).alloc (.cells #[.int .i64 bx, .int .i64 yb] 23)).alloc (.cells #[.int .i64 lx, .int .i64 ly] 23)).alloc (.cells #[.int .i64 hx, .int .i64 hy] 23)).cell? ⟨w.heap.size, 1, none⟩ = some (.int .i64 ay) := by go_simp
  have b0 : ((((w.alloc (.cells #[.int .i64 ax, .int .i64 ay] 23)).alloc (.cells #[.int .i64 bx, .int .i64 yb] 23)).alloc (.cells #[.int .i64 lx, .int .i64 ly] 23)).alloc (.cells #[.int .i64 hx, .int .i64 hy] 23)).cell? ⟨w.heap.size + 1, 0, none⟩ = some (.int .i64 bx) := by go_simp
  have b1 : ((((w.alloc (.cells #[.int .i64 ax, .int .i64 ay] 23)).alloc (.cells #[.int .i64 bx, .int .i64 yb] 23)).alloc (.cells #[.int .i64 lx, .int .i64 ly] 23)).alloc (.cells #[.int .i64 hx, .int .i64 hy] 23)).cell? ⟨w.heap.size + 1, 1, none⟩ = some (.int .i64 yb) := by go_simp
  have l0 : ((((w.alloc (.cells #[.int .i64 ax, .int .i64 ay] 23)).alloc (.cells #[.int .i64 bx, .int .i64 yb] 23)).alloc (.cells #[.int .i64 lx, .int .i64 ly] 23)).alloc (.cells #[.int .i64 hx, .int .i64 hy] 23)).cell? ⟨w.heap.size + 1 + 1, 0, none⟩ = some (.int .i64 lx) := by go_simp
  have l1 : ((((w.alloc (.cells #[.int .i64 ax, .int .i64 ay] 23)).alloc (.cells #[.int .i64 bx, .int .i64 yb] 23)).alloc (.cells #[.int .i64 lx, .int .i64 ly] 23)).alloc (.cells #[.int .i64 hx, .int .i64 hy] 23)).cell? ⟨w.heap.size + 1 + 1, 1, none⟩ = some (.int .i64 ly) := by go_simp
  have h0 : ((((w.alloc (.cells #[.int .i64 ax, .int .i64 ay] 23)).alloc (.cells #[.int .i64 bx, .int .i64 yb] 23)).alloc (.cells #[.int .i64 lx, .int .i64 ly] 23)).alloc (.cells #[.int .i64 hx, .int .i64 hy] 23)).cell? ⟨w.heap.size + 1 + 1 + 1, 0, none⟩ = some (.int .i64 hx) := by go_simp
  have h1 : ((((w.alloc (.cells #[.int .i64 ax, .int .i64 ay] 23)).alloc (.cells #[.int .i64 bx, .int .i64 yb] 23)).alloc (.cells #[.int .i64 lx, .int .i64 ly] 23)).alloc (.cells #[.int .i64 hx, .int .i64 hy] 23)).cell? ⟨w.heap.size + 1 + 1 + 1, 1, none⟩ = some (.int .i64 hy) := by go_simp
  go_enter Try.func11, Try.ntmps11
  go_wp2_with fail
  generalize ((((w.alloc (.cells #[.int .i64 ax, .int .i64 ay] 23)).alloc (.cells #[.int .i64 bx, .int .i64 yb] 23)).alloc (.cells #[.int .i64 lx, .int .i64 ly] 23)).alloc (.cells #[.int .i64 hx, .int .i64 hy] 23)) = w1 at HB a0 a1 b0 b1 l0 l1 h0 h1 ⊢
  obtain ⟨B3, hB3⟩ : ∃ B, B = w.heap.size + 1 + 1 + 1 := ⟨_, rfl⟩
  obtain ⟨B2, hB2⟩ : ∃ B, B = w.heap.size + 1 + 1 := ⟨_, rfl⟩
  obtain ⟨B1, hB1⟩ : ∃ B, B = w.heap.size + 1 := ⟨_, rfl⟩
  obtain ⟨B0, hB0⟩ : ∃ B, B = w.heap.size := ⟨_, rfl⟩
  rw [← hB3] at h0 h1 ⊢
  rw [← hB2] at l0 l1 ⊢
  rw [← hB1] at b0 b1 ⊢
  rw [← hB0] at a0 a1 ⊢
  clear hB0 hB1 hB2 hB3
  go_wp2_with (first | (go_at_call 23; (with_reducible refine (CA.out _).mono ?_); rintro e w2 ⟨rfl, hb⟩; have a0' := (hb.cell (World.block_lt_of_cell? _ _ a0)).trans a0; clear a0; have a0 := a0'; clear a0'; have a1' := (hb.cell (World.block_lt_of_cell? _ _ a1)).trans a1; clear a1; have a1 := a1'; clear a1'; have b0' := (hb.cell (World.block_lt_of_cell? _ _ b0)).trans b0; clear b0; have b0 := b0'; clear b0'; have b1' := (hb.cell (World.block_lt_of_cell? _ _ b1)).trans b1; clear b1; have b1 := b1'; clear b1'; have l0' := (hb.cell (World.block_lt_of_cell? _ _ l0)).trans l0; clear l0; have l0 := l0'; clear l0'; have l1' := (hb.cell (World.block_lt_of_cell? _ _ l1)).trans l1; clear l1; have l1 := l1'; clear l1'; have h0' := (hb.cell (World.block_lt_of_cell? _ _ h0)).trans h0; clear h0; have h0 := h0'; clear h0'; have h1' := (hb.cell (World.block_lt_of_cell? _ _ h1)).trans h1; clear h1; have h1 := h1'; clear h1'; have HB' := Aside0.mk (below_step HB.out hb); clear HB; have HB := HB'; clear HB' hb) | (go_at_call 23; (with_reducible refine (CB.out _).mono ?_); rintro e w2 ⟨rfl, hb⟩; have a0' := (hb.cell (World.block_lt_of_cell? _ _ a0)).trans a0; clear a0; have a0 := a0'; clear a0'; have a1' := (hb.cell (World.block_lt_of_cell? _ _ a1)).trans a1; clear a1; have a1 := a1'; clear a1'; have b0' := (hb.cell (World.block_lt_of_cell? _ _ b0)).trans b0; clear b0; have b0 := b0'; clear b0'; have b1' := (hb.cell (World.block_lt_of_cell? _ _ b1)).trans b1; clear b1; have b1 := b1'; clear b1'; have l0' := (hb.cell (World.block_lt_of_cell? _ _ l0)).trans l0; clear l0; have l0 := l0'; clear l0'; have l1' := (hb.cell (World.block_lt_of_cell? _ _ l1)).trans l1; clear l1; have l1 := l1'; clear l1'; have h0' := (hb.cell (World.block_lt_of_cell? _ _ h0)).trans h0; clear h0; have h0 := h0'; clear h0'; have h1' := (hb.cell (World.block_lt_of_cell? _ _ h1)).trans h1; clear h1; have h1 := h1'; clear h1'; have HB' := Aside0.mk (below_step HB.out hb); clear HB; have HB := HB'; clear HB' hb) | (go_at_call 24; (with_reducible refine (CL.out _).mono ?_); rintro e w2 ⟨rfl, hb⟩; have a0' := (hb.cell (World.block_lt_of_cell? _ _ a0)).trans a0; clear a0; have a0 := a0'; clear a0'; have a1' := (hb.cell (World.block_lt_of_cell? _ _ a1)).trans a1; clear a1; have a1 := a1'; clear a1'; have b0' := (hb.cell (World.block_lt_of_cell? _ _ b0)).trans b0; clear b0; have b0 := b0'; clear b0'; have b1' := (hb.cell (World.block_lt_of_cell? _ _ b1)).trans b1; clear b1; have b1 := b1'; clear b1'; have l0' := (hb.cell (World.block_lt_of_cell? _ _ l0)).trans l0; clear l0; have l0 := l0'; clear l0'; have l1' := (hb.cell (World.block_lt_of_cell? _ _ l1)).trans l1; clear l1; have l1 := l1'; clear l1'; have h0' := (hb.cell (World.block_lt_of_cell? _ _ h0)).trans h0; clear h0; have h0 := h0'; clear h0'; have h1' := (hb.cell (World.block_lt_of_cell? _ _ h1)).trans h1; clear h1; have h1 := h1'; clear h1'; have HB' := Aside0.mk (below_step HB.out hb); clear HB; have HB := HB'; clear HB' hb) | (go_at_call 24; (with_reducible refine (CH.out _).mono ?_); rintro e w2 ⟨rfl, hb⟩; have a0' := (hb.cell (World.block_lt_of_cell? _ _ a0)).trans a0; clear a0; have a0 := a0'; clear a0'; have a1' := (hb.cell (World.block_lt_of_cell? _ _ a1)).trans a1; clear a1; have a1 := a1'; clear a1'; have b0' := (hb.cell (World.block_lt_of_cell? _ _ b0)).trans b0; clear b0; have b0 := b0'; clear b0'; have b1' := (hb.cell (World.block_lt_of_cell? _ _ b1)).trans b1; clear b1; have b1 := b1'; clear b1'; have l0' := (hb.cell (World.block_lt_of_cell? _ _ l0)).trans l0; clear l0; have l0 := l0'; clear l0'; have l1' := (hb.cell (World.block_lt_of_cell? _ _ l1)).trans l1; clear l1; have l1 := l1'; clear l1'; have h0' := (hb.cell (World.block_lt_of_cell? _ _ h0)).trans h0; clear h0; have h0 := h0'; clear h0'; have h1' := (hb.cell (World.block_lt_of_cell? _ _ h1)).trans h1; clear h1; have h1 := h1'; clear h1'; have HB' := Aside0.mk (below_step HB.out hb); clear HB; have HB := HB'; clear HB' hb))
  have HR := Aside0.mk (show RestAt (w2.alloc (.cells #[.int .i64 0, .int .i64 1, .bool true, .int .i64 1, .int .i64 1, .bool true, .bool false] 51)) w2.heap.size rest0 from ⟨by go_simp; rfl, by go_simp; rfl, by go_simp; rfl, by go_simp; rfl, by go_simp; rfl, by go_simp; rfl, by go_simp; rfl, fun i => by simp⟩)
  have LT := Aside0.mk (show B0 < w2.heap.size ∧ B1 < w2.heap.size ∧ B2 < w2.heap.size ∧ B3 < w2.heap.size from ⟨World.block_lt_of_cell? _ _ a0, World.block_lt_of_cell? _ _ b0, World.block_lt_of_cell? _ _ l0, World.block_lt_of_cell? _ _ h0⟩)
  have HS := Aside0.mk HB.out.size
  have hb := below_alloc (Below.refl w2.heap.size w2) (.cells #[.int .i64 0, .int .i64 1, .bool true, .int .i64 1, .int .i64 1, .bool true, .bool false] 51)
  have a0' := (hb.cell (World.block_lt_of_cell? _ _ a0)).trans a0
  clear a0
  have a0 := a0'
  clear a0'
  have a1' := (hb.cell (World.block_lt_of_cell? _ _ a1)).trans a1
  clear a1
  have a1 := a1'
  clear a1'
  have b0' := (hb.cell (World.block_lt_of_cell? _ _ b0)).trans b0
  clear b0
  have b0 := b0'
  clear b0'
  have b1' := (hb.cell (World.block_lt_of_cell? _ _ b1)).trans b1
  clear b1
  have b1 := b1'
  clear b1'
  have l0' := (hb.cell (World.block_lt_of_cell? _ _ l0)).trans l0
  clear l0
  have l0 := l0'
  clear l0'
  have l1' := (hb.cell (World.block_lt_of_cell? _ _ l1)).trans l1
  clear l1
  have l1 := l1'
  clear l1'
  have h0' := (hb.cell (World.block_lt_of_cell? _ _ h0)).trans h0
  clear h0
  have h0 := h0'
  clear h0'
  have h1' := (hb.cell (World.block_lt_of_cell? _ _ h1)).trans h1
  clear h1
  have h1 := h1'
  clear h1'
  have HB' := Aside0.mk (below_step HB.out hb)
  clear HB
  have HB := HB'
  clear HB' hb
  obtain ⟨B5, hB5⟩ : ∃ B, B = w2.heap.size := ⟨_, rfl⟩
  rw [← hB5] at HR LT HS ⊢
  generalize w2.alloc (.cells #[.int .i64 0, .int .i64 1, .bool true, .int .i64 1, .int .i64 1, .bool true, .bool false] 51) = w3 at HR HB a0 a1 b0 b1 l0 l1 h0 h1 ⊢
  clear hB5
  have hb := below_drew (Below.refl w3.heap.size w3)
  have HR' := Aside0.mk (HR.out.below hb); clear HR; have HR := HR'; clear HR'
  refine start_ (n := 14) (S := fun W => W.cell? ⟨B0, 0, none⟩ = some (.int .i64 ax) ∧ W.cell? ⟨B0, 1, none⟩ = some (.int .i64 ay) ∧ W.cell? ⟨B1, 0, none⟩ = some (.int .i64 bx) ∧ W.cell? ⟨B1, 1, none⟩ = some (.int .i64 yb)) (ds := []) #[false, false, false, false, false, false, false, false, false, false, false, false, false, false] (by kernel_rfl) rfl rfl ⟨a0, a1, b0, b1⟩ (fun hHeld => ?_); refine with_tabW pixel_Meets.tab4 pixel_Meets.bits4 (fun HT_ HW_ => ?_)
  generalize w3.drew = w4 at hb hHeld HR ⊢
  have a0' := (hb.cell (World.block_lt_of_cell? _ _ a0)).trans a0
  clear a0
  have a0 := a0'
  clear a0'
  have a1' := (hb.cell (World.block_lt_of_cell? _ _ a1)).trans a1
  clear a1
  have a1 := a1'
  clear a1'
  have b0' := (hb.cell (World.block_lt_of_cell? _ _ b0)).trans b0
  clear b0
  have b0 := b0'
  clear b0'
  have b1' := (hb.cell (World.block_lt_of_cell? _ _ b1)).trans b1
  clear b1
  have b1 := b1'
  clear b1'
  have l0' := (hb.cell (World.block_lt_of_cell? _ _ l0)).trans l0
  clear l0
  have l0 := l0'
  clear l0'
  have l1' := (hb.cell (World.block_lt_of_cell? _ _ l1)).trans l1
  clear l1
  have l1 := l1'
  clear l1'
  have h0' := (hb.cell (World.block_lt_of_cell? _ _ h0)).trans h0
  clear h0
  have h0 := h0'
  clear h0'
  have h1' := (hb.cell (World.block_lt_of_cell? _ _ h1)).trans h1
  clear h1
  have h1 := h1'
  clear h1'
  have HB' := Aside0.mk (below_step HB.out hb)
  clear HB
  have HB := HB'
  clear HB' hb
  refine pure_ (i := 0) (N := (some 43)) (v := ?_) (a' := ?_) #[true, false, false, false, false, false, false, false, false, false, false, false, false, false] rfl rfl (any_of HT_.out (by kernel_rfl)) (fun _ _ _ h => h) (Or.inl ⟨by rfl, ?_⟩) ?_ ?_
  rotate_left
  · intro w'
    go_simp
    with_reducible rfl
  rotate_left
  · simp only [Act.put, List.setIfInBounds_toArray, List.set_cons_zero, List.set_cons_succ, i64_w, i32_w]
    rfl
  refine take_ (i := 1) (N := (some 44)) (v := ?_) (a' := ?_) #[true, true, false, false, false, false, false, false, false, false, false, false, false, false] rfl rfl (take_ofW HT_.out HW_.out (by kernel_rfl)) (fun _ _ _ h => h) (Or.inl ⟨by rfl, ?_⟩) hHeld ?_ ?_
  rotate_left
  · rintro w' ⟨s0, s1, s2, s3⟩
    go_simp
    with_reducible rfl
  rotate_left
  · simp only [Act.put, List.setIfInBounds_toArray, List.set_cons_zero, List.set_cons_succ, i64_w, i32_w]
    rfl
  refine pure_ (i := 2) (N := (some 45)) (v := ?_) (a' := ?_) #[true, true, true, false, false, false, false, false, false, false, false, false, false, false] rfl rfl (any_of HT_.out (by kernel_rfl)) (fun _ _ _ h => h) (Or.inl ⟨by rfl, ?_⟩) ?_ ?_
  rotate_left
  · intro w'
    go_simp
    with_reducible rfl
  rotate_left
  · simp only [Act.put, List.setIfInBounds_toArray, List.set_cons_zero, List.set_cons_succ, i64_w, i32_w]
    rfl
  refine take_ (i := 3) (N := (some 46)) (v := ?_) (a' := ?_) #[true, true, true, true, false, false, false, false, false, false, false, false, false, false] rfl rfl (take_ofW HT_.out HW_.out (by kernel_rfl)) (fun _ _ _ h => h) (Or.inl ⟨by rfl, ?_⟩) hHeld ?_ ?_
  rotate_left
  · rintro w' ⟨s0, s1, s2, s3⟩
    go_simp
    with_reducible rfl
  rotate_left
  · simp only [Act.put, List.setIfInBounds_toArray, List.set_cons_zero, List.set_cons_succ, i64_w, i32_w]
    rfl
  refine pure_ (i := 4) (N := (some 47)) (v := ?_) (a' := ?_) #[true, true, true, true, true, false, false, false, false, false, false, false, false, false] rfl rfl (any_of HT_.out (by kernel_rfl)) (fun _ _ _ h => h) (Or.inl ⟨by rfl, ?_⟩) ?_ ?_
  rotate_left
  · intro w'
    go_simp
    with_reducible rfl
  rotate_left
  · simp only [Act.put, List.setIfInBounds_toArray, List.set_cons_zero, List.set_cons_succ, i64_w, i32_w]
    rfl
  refine pure_ (i := 5) (N := (some 48)) (v := ?_) (a' := ?_) #[true, true, true, true, true, true, false, false, false, false, false, false, false, false] rfl rfl (any_of HT_.out (by kernel_rfl)) (fun _ _ _ h => h) (Or.inl ⟨by rfl, ?_⟩) ?_ ?_
  rotate_left
  · intro w'
    go_simp
    with_reducible rfl
  rotate_left
  · simp only [Act.put, List.setIfInBounds_toArray, List.set_cons_zero, List.set_cons_succ, i64_w, i32_w]
    rfl
  refine pure_ (i := 6) (N := (some 49)) (v := ?_) (a' := ?_) #[true, true, true, true, true, true, true, false, false, false, false, false, false, false] rfl rfl (any_of HT_.out (by kernel_rfl)) (fun _ _ _ h => h) (Or.inl ⟨by rfl, ?_⟩) ?_ ?_
  rotate_left
  · intro w'
    go_simp
    with_reducible rfl
  rotate_left
  · simp only [Act.put, List.setIfInBounds_toArray, List.set_cons_zero, List.set_cons_succ, i64_w, i32_w]
    rfl
  refine take_ (i := 7) (N := (some 50)) (v := ?_) (a' := ?_) #[true, true, true, true, true, true, true, true, false, false, false, false, false, false] rfl rfl (take_ofW HT_.out HW_.out (by kernel_rfl)) (fun _ _ _ h => h) (Or.inl ⟨by rfl, ?_⟩) hHeld ?_ ?_
  rotate_left
  · rintro w' ⟨s0, s1, s2, s3⟩
    go_simp
    with_reducible rfl
  rotate_left
  · simp only [Act.put, List.setIfInBounds_toArray, List.set_cons_zero, List.set_cons_succ, i64_w, i32_w]
    rfl
  refine pure_ (i := 8) (N := (some 51)) (v := ?_) (a' := ?_) #[true, true, true, true, true, true, true, true, true, false, false, false, false, false] rfl rfl (any_of HT_.out (by kernel_rfl)) (fun _ _ _ h => h) (Or.inl ⟨by rfl, ?_⟩) ?_ ?_
  rotate_left
  · intro w'
    go_simp
    with_reducible rfl
  rotate_left
  · simp only [Act.put, List.setIfInBounds_toArray, List.set_cons_zero, List.set_cons_succ, i64_w, i32_w]
    rfl
  refine take_ (i := 9) (N := (some 52)) (v := ?_) (a' := ?_) #[true, true, true, true, true, true, true, true, true, true, false, false, false, false] rfl rfl (take_ofW HT_.out HW_.out (by kernel_rfl)) (fun _ _ _ h => h) (Or.inl ⟨by rfl, ?_⟩) hHeld ?_ ?_
  rotate_left
  · rintro w' ⟨s0, s1, s2, s3⟩
    go_simp
    with_reducible rfl
  rotate_left
  · simp only [Act.put, List.setIfInBounds_toArray, List.set_cons_zero, List.set_cons_succ, i64_w, i32_w]
    rfl
  refine pure_ (i := 10) (N := (some 53)) (v := ?_) (a' := ?_) #[true, true, true, true, true, true, true, true, true, true, true, false, false, false] rfl rfl (any_of HT_.out (by kernel_rfl)) (fun _ _ _ h => h) (Or.inl ⟨by rfl, ?_⟩) ?_ ?_
  rotate_left
  · intro w'
    go_simp
    with_reducible rfl
  rotate_left
  · simp only [Act.put, List.setIfInBounds_toArray, List.set_cons_zero, List.set_cons_succ, i64_w, i32_w]
    rfl
  refine pure_ (i := 11) (N := (some 54)) (v := ?_) (a' := ?_) #[true, true, true, true, true, true, true, true, true, true, true, true, false, false] rfl rfl (any_of HT_.out (by kernel_rfl)) (fun _ _ _ h => h) (Or.inl ⟨by rfl, ?_⟩) ?_ ?_
  rotate_left
  · intro w'
    go_simp
    with_reducible rfl
  rotate_left
  · simp only [Act.put, List.setIfInBounds_toArray, List.set_cons_zero, List.set_cons_succ, i64_w, i32_w]
    rfl
  refine pure_ (i := 12) (N := (some 12)) (v := ?_) (a' := ?_) #[true, true, true, true, true, true, true, true, true, true, true, true, true, false] rfl rfl (any_of HT_.out (by kernel_rfl)) (fun _ _ _ h => h) (Or.inl ⟨by rfl, ?_⟩) ?_ ?_
  rotate_left
  · intro w'
    go_simp
    with_reducible rfl
  rotate_left
  · simp only [Act.put, List.setIfInBounds_toArray, List.set_cons_zero, List.set_cons_succ, i64_w, i32_w]
    rfl
  refine pure_ (i := 13) (N := (some 13)) (v := ?_) (a' := ?_) #[true, true, true, true, true, true, true, true, true, true, true, true, true, true] rfl rfl (any_of HT_.out (by kernel_rfl)) (fun _ _ _ h => h) (Or.inl ⟨by rfl, ?_⟩) ?_ ?_
  rotate_left
  · intro w'
    go_simp
    with_reducible rfl
  rotate_left
  · simp only [Act.put, List.setIfInBounds_toArray, List.set_cons_zero, List.set_cons_succ, i64_w, i32_w]
    rfl
  refine done_ (done_of HT_.out (by kernel_rfl)) ?_
  go_wp2_with (first | (go_at_call 25; (with_reducible refine (D0.out _ _ HR.out).mono ?_); rintro e w2 ⟨rfl, hR, hb⟩; clear HR; have HR := Aside0.mk hR; clear hR; have a0' := (hb.cell (p := ⟨B0, 0, none⟩) LT.out.1).trans a0; clear a0; have a0 := a0'; clear a0'; have a1' := (hb.cell (p := ⟨B0, 1, none⟩) LT.out.1).trans a1; clear a1; have a1 := a1'; clear a1'; have b0' := (hb.cell (p := ⟨B1, 0, none⟩) LT.out.2.1).trans b0; clear b0; have b0 := b0'; clear b0'; have b1' := (hb.cell (p := ⟨B1, 1, none⟩) LT.out.2.1).trans b1; clear b1; have b1 := b1'; clear b1'; have l0' := (hb.cell (p := ⟨B2, 0, none⟩) LT.out.2.2.1).trans l0; clear l0; have l0 := l0'; clear l0'; have l1' := (hb.cell (p := ⟨B2, 1, none⟩) LT.out.2.2.1).trans l1; clear l1; have l1 := l1'; clear l1'; have h0' := (hb.cell (p := ⟨B3, 0, none⟩) LT.out.2.2.2).trans h0; clear h0; have h0 := h0'; clear h0'; have h1' := (hb.cell (p := ⟨B3, 1, none⟩) LT.out.2.2.2).trans h1; clear h1; have h1 := h1'; clear h1'; have HB' := Aside0.mk (HB.out.trans (hb.mono HS.out)); clear HB; have HB := HB'; clear HB' hb) | (go_at_call 25; (with_reducible refine (D1.out _ _ HR.out).mono ?_); rintro e w2 ⟨rfl, hR, hb⟩; clear HR; have HR := Aside0.mk hR; clear hR; have a0' := (hb.cell (p := ⟨B0, 0, none⟩) LT.out.1).trans a0; clear a0; have a0 := a0'; clear a0'; have a1' := (hb.cell (p := ⟨B0, 1, none⟩) LT.out.1).trans a1; clear a1; have a1 := a1'; clear a1'; have b0' := (hb.cell (p := ⟨B1, 0, none⟩) LT.out.2.1).trans b0; clear b0; have b0 := b0'; clear b0'; have b1' := (hb.cell (p := ⟨B1, 1, none⟩) LT.out.2.1).trans b1; clear b1; have b1 := b1'; clear b1'; have l0' := (hb.cell (p := ⟨B2, 0, none⟩) LT.out.2.2.1).trans l0; clear l0; have l0 := l0'; clear l0'; have l1' := (hb.cell (p := ⟨B2, 1, none⟩) LT.out.2.2.1).trans l1; clear l1; have l1 := l1'; clear l1'; have h0' := (hb.cell (p := ⟨B3, 0, none⟩) LT.out.2.2.2).trans h0; clear h0; have h0 := h0'; clear h0'; have h1' := (hb.cell (p := ⟨B3, 1, none⟩) LT.out.2.2.2).trans h1; clear h1; have h1 := h1'; clear h1'; have HB' := Aside0.mk (HB.out.trans (hb.mono HS.out)); clear HB; have HB := HB'; clear HB' hb) | (go_at_call 25; (with_reducible refine (D2.out _ _ HR.out).mono ?_); rintro e w2 ⟨rfl, hR, hb⟩; clear HR; have HR := Aside0.mk hR; clear hR; have a0' := (hb.cell (p := ⟨B0, 0, none⟩) LT.out.1).trans a0; clear a0; have a0 := a0'; clear a0'; have a1' := (hb.cell (p := ⟨B0, 1, none⟩) LT.out.1).trans a1; clear a1; have a1 := a1'; clear a1'; have b0' := (hb.cell (p := ⟨B1, 0, none⟩) LT.out.2.1).trans b0; clear b0; have b0 := b0'; clear b0'; have b1' := (hb.cell (p := ⟨B1, 1, none⟩) LT.out.2.1).trans b1; clear b1; have b1 := b1'; clear b1'; have l0' := (hb.cell (p := ⟨B2, 0, none⟩) LT.out.2.2.1).trans l0; clear l0; have l0 := l0'; clear l0'; have l1' := (hb.cell (p := ⟨B2, 1, none⟩) LT.out.2.2.1).trans l1; clear l1; have l1 := l1'; clear l1'; have h0' := (hb.cell (p := ⟨B3, 0, none⟩) LT.out.2.2.2).trans h0; clear h0; have h0 := h0'; clear h0'; have h1' := (hb.cell (p := ⟨B3, 1, none⟩) LT.out.2.2.2).trans h1; clear h1; have h1 := h1'; clear h1'; have HB' := Aside0.mk (HB.out.trans (hb.mono HS.out)); clear HB; have HB := HB'; clear HB' hb) | (go_at_call 25; (with_reducible refine (D3.out _ _ HR.out).mono ?_); rintro e w2 ⟨rfl, hR, hb⟩; clear HR; have HR := Aside0.mk hR; clear hR; have a0' := (hb.cell (p := ⟨B0, 0, none⟩) LT.out.1).trans a0; clear a0; have a0 := a0'; clear a0'; have a1' := (hb.cell (p := ⟨B0, 1, none⟩) LT.out.1).trans a1; clear a1; have a1 := a1'; clear a1'; have b0' := (hb.cell (p := ⟨B1, 0, none⟩) LT.out.2.1).trans b0; clear b0; have b0 := b0'; clear b0'; have b1' := (hb.cell (p := ⟨B1, 1, none⟩) LT.out.2.1).trans b1; clear b1; have b1 := b1'; clear b1'; have l0' := (hb.cell (p := ⟨B2, 0, none⟩) LT.out.2.2.1).trans l0; clear l0; have l0 := l0'; clear l0'; have l1' := (hb.cell (p := ⟨B2, 1, none⟩) LT.out.2.2.1).trans l1; clear l1; have l1 := l1'; clear l1'; have h0' := (hb.cell (p := ⟨B3, 0, none⟩) LT.out.2.2.2).trans h0; clear h0; have h0 := h0'; clear h0'; have h1' := (hb.cell (p := ⟨B3, 1, none⟩) LT.out.2.2.2).trans h1; clear h1; have h1 := h1'; clear h1'; have HB' := Aside0.mk (HB.out.trans (hb.mono HS.out)); clear HB; have HB := HB'; clear HB' hb) | (go_at_call 26; (with_reducible refine (D4.out _ _ HR.out).mono ?_); rintro e w2 ⟨rfl, hb⟩; have HB' := Aside0.mk (below_step HB.out hb); clear HB; have HB := HB'; clear HB' hb))
  go_ret
  exact ⟨rfl, HB.out⟩
def pixel_Meets.f (ax ay bx yb lx ly hx hy k : Int) : Option Bool := some (meetsB ax ay bx yb lx ly hx hy k)
theorem pixel_Meets.calls (ax ay bx yb lx ly hx hy k : Int) (r : Bool) (w : World) (h : pixel_Meets.f ax ay bx yb lx ly hx hy k = some r) :
    Calls Try.prog 11 #[.agg #[.int .i64 ax, .int .i64 ay], .agg #[.int .i64 bx, .int .i64 yb], .agg #[.int .i64 lx, .int .i64 ly], .agg #[.int .i64 hx, .int .i64 hy], .int .i64 k] w fun e w' => e = .returned (.bool r) ∧ Below w.heap.size w w' := by
  injection h with h
  subst h
  unfold meetsB
  cases hc : (rightB 134217728 ax ay && rightB 134217728 bx yb && rightB 536870912 lx ly && rightB 536870912 hx hy && decide (0 ≤ k) && decide (k ≤ 2)) with
  | false => exact pixel_Meets.no ax ay bx yb lx ly hx hy k _ _ _ _ w (fun W => cross_Right.calls ax ay _ W (cross_Right_eq _ _)) (fun W => cross_Right.calls bx yb _ W (cross_Right_eq _ _)) (fun W => pixel_right.calls lx ly _ W (pixel_right_eq _ _)) (fun W => pixel_right.calls hx hy _ W (pixel_right_eq _ _)) hc
  | true =>
    simp only [Bool.and_eq_true, decide_eq_true_eq] at hc
    obtain ⟨⟨⟨⟨⟨g1, g2⟩, g3⟩, g4⟩, g5⟩, g6⟩ := hc
    exact pixel_Meets.yes ax ay bx yb lx ly hx hy k w g1 g2 g3 g4 g5 g6
end Go.Proofs.Ytglkjeeiiflpjaa.F
