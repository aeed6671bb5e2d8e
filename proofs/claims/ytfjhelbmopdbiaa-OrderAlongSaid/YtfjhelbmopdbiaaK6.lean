/- OrderAlong: the walk, whatever the points and the pixels. -/
import Derived.Test.YtfjhelbmopdbiaaHAlong
import Derived.Test.YtfjhelbmopdbiaaHAlive07
import Derived.Test.YtfjhelbmopdbiaaF18
import Derived.Test.YtfjhelbmopdbiaaFEq38
import Derived.Test.YtfjhelbmopdbiaaB2
namespace Go.Proofs.Ytfjhelbmopdbiaa.F
open Go.RowKit Go.Proofs.YtfjhelbmopdbiaaW.PrintWords Go.Proofs.YtfjhelbmopdbiaaW.PrintLast Go.Proofs.YtfjhelbmopdbiaaW.PrintMore
set_option linter.unusedVariables false
set_option linter.unusedSimpArgs false
theorem run_equalIn_func_nil {P : Program} {ps rs : Array TypeId} {vd : Bool} (d : Nat) (t : TypeId) (h : P.underlying t = some (.func ps rs vd)) (W : World) (f : Fn) (x y : Array Value) : (Op.equalIn (d + 1) t (.func f x y) .nilFunc).run P W = .ok false W := by
  simp [Op.equalIn, run_underlying h]
theorem run_eql_func_nil {P : Program} {ps rs : Array TypeId} {vd : Bool} (t : TypeId) (h : P.underlying t = some (.func ps rs vd)) (W : World) (f : Fn) (x y : Array Value) : (binOp .eql t (.func f x y) .nilFunc).run P W = .ok (.bool false) W := by
  simp only [binOp]
  simp [Op.equal, Op.maxDepth, run_equalIn_func_nil 9999 t h]
theorem neq38 (W : World) (px py qx qy : Int) : (binOp .neq 38 (.agg #[.int .i64 px, .int .i64 py]) (.agg #[.int .i64 qx, .int .i64 qy])).run Try.prog W = .ok (.bool (!(px == qx && py == qy))) W := by
  simp only [binOp]
  simp [Op.equal, Op.maxDepth, eqA38 9998]
theorem along_ahead (x y : Bool) (px py qx qy : Int) : cobwebref07_Ahead.f px py qx qy x y = some (aheadOf x y px py qx qy) := by
  unfold cobwebref07_Ahead.f aheadOf
  rcases Int.lt_trichotomy px qx with h | h | h
  · rw [if_pos h, if_neg (by omega)]; simp [h]
  · subst h
    rw [if_neg (by omega), if_neg (by omega)]
    rcases Int.lt_trichotomy py qy with h | h | h
    · rw [if_pos h]; simp [h, show ¬ py = qy by omega]
    · subst h; simp
    · rw [if_neg (by omega), if_pos h]; simp [show ¬ py < qy by omega, show ¬ py = qy by omega]
  · rw [if_neg (by omega), if_pos h, if_neg (by omega)]; simp [show ¬ px < qx by omega]
theorem along_one (x y : Bool) (px py qx qy : Int) : (aheadOf x y px py qx qy || aheadOf x y qx qy px py) = !(px == qx && py == qy) ∧ (aheadOf x y px py qx qy && aheadOf x y qx qy px py) = false := by
  unfold aheadOf
  rcases Int.lt_trichotomy px qx with h | h | h
  · simp [h, show ¬ px = qx by omega, show ¬ qx = px by omega, show ¬ qx < px by omega]
  · subst h
    rcases Int.lt_trichotomy py qy with h | h | h
    · have n1 : (py == qy) = false := by simp; omega
      have n2 : (qy == py) = false := by simp; omega
      simp [h, n1, n2, show ¬ qy < py by omega]
    · subst h; simp
    · have n1 : (py == qy) = false := by simp; omega
      have n2 : (qy == py) = false := by simp; omega
      simp [h, n1, n2, show ¬ py < qy by omega]
  · simp [h, show ¬ px = qx by omega, show ¬ qx = px by omega, show ¬ px < qx by omega]
def OrderAlong_calls.T8 : Bool × List (List Nat × List Nat) := (true, [([], []), ([0, 0], [0]), ([1], [1]), ([2, 1, 1], [1, 2]), ([3], [3]), ([3], [3]), ([3], [3]), ([4, 5, 6, 3, 3], [3, 4, 5, 6]), ([3, 7, 1], [1, 3, 7]), ([1], [1]), ([1], [1]), ([9, 10, 1], [1, 9, 10]), ([8, 11, 1], [1, 8, 11]), ([1, 12], [1, 12]), ([13, 7], [13]), ([14], [14]), ([15, 14, 14], [14, 15]), ([16], [16]), ([16], [16]), ([16], [16]), ([17, 18, 19, 16, 16], [16, 17, 18, 19]), ([16, 20, 14], [14, 16, 20]), ([21, 14], [14, 21]), ([14, 22], [14, 22]), ([23, 20, 0, 1, 2, 3, 4, 5, 6, 7, 8, 9, 10, 11, 12, 13, 14, 15, 16, 17, 18, 19, 20, 21, 22, 23], [23])])
def OrderAlong_calls.B8 : List Nat := [0, 1, 3, 7, 15, 15, 15, 127, 255, 3, 3, 1539, 4095, 8191, 16383, 32767, 65535, 131071, 131071, 131071, 1048575, 2097151, 4194303, 8388607, 16777215]
theorem OrderAlong_calls.tab8 : rtab .any (opsOf Try.f6 8) = OrderAlong_calls.T8 := by kernel_rfl
theorem OrderAlong_calls.bits8 : waitsOk OrderAlong_calls.T8.2 OrderAlong_calls.B8 = true := by kernel_rfl
set_option maxHeartbeats 4000000 in
set_option maxRecDepth 100000 in
theorem OrderAlong_calls (ax ay bx yb px py qx qy : Int) (w : World) :
    Calls Try.prog 6 #[.agg #[.int .i64 ax, .int .i64 ay], .agg #[.int .i64 bx, .int .i64 yb], .agg #[.int .i64 px, .int .i64 py, .int .i64 qx, .int .i64 qy]] w fun e w' => e = .returned (.bool true) ∧ Below w.heap.size w w' := by
  have HB := Aside0.mk (Below.refl w.heap.size w)
  obtain ⟨x, hx⟩ : ∃ x, x = decide (bx < ax) := ⟨_, rfl⟩
  obtain ⟨y, hy⟩ : ∃ y, y = decide (yb < ay) := ⟨_, rfl⟩
  have E1 := Aside0.mk (along_ahead x y px py qx qy)
  have E2 := Aside0.mk (along_one x y px py qx qy)
  have HX := Aside0.mk hx
  have HY := Aside0.mk hy
  have C0 := order_Along.calls ax ay bx yb
  rw [← hx, ← hy] at C0
  have HC0 := Aside0.mk C0
  have C1 := fun gx gy W h1 h2 h3 h4 => order_Along_1.calls px py qx qy x y gx gy W h1 h2 h3 h4
  have C2 := fun gx gy W h1 h2 h3 h4 => order_Along_1.calls qx qy px py x y gx gy W h1 h2 h3 h4
  have C3 := fun W r => cobwebref07_Ahead.calls px py qx qy x y r W
  obtain ⟨r1, hr1⟩ : ∃ r1, r1 = aheadOf x y px py qx qy := ⟨_, rfl⟩
  obtain ⟨r2, hr2⟩ : ∃ r2, r2 = aheadOf x y qx qy px py := ⟨_, rfl⟩
  rw [← hr1] at C1 E1 E2
  rw [← hr2] at C2 E2
  have C3' := fun W => C3 W r1 E1.out
  have HC1 := Aside0.mk C1
  have HC2 := Aside0.mk C2
  rw [hx, hy] at C3'
  have HC3 := Aside0.mk C3'
  have qN : ∀ W, (binOp .neq 38 (.agg #[.int .i64 px, .int .i64 py]) (.agg #[.int .i64 qx, .int .i64 qy])).run Try.prog W = .ok (.bool (r1 || r2)) W := fun W => by rw [neq38, E2.out.1]
  have e2 := E2.out.2
  clear C0 C1 C2 C3 C3' E1 hr1 hr2
  have qT : ∀ (W : World) (f : Fn) (x y : Array Value), (binOp .eql 40 (.func f x y) .nilFunc).run Try.prog W = .ok (.bool false) W := fun W f x y => run_eql_func_nil 40 Try.underlying40 W f x y
  clear HX HY hx hy E2
  obtain ⟨e3, e4⟩ | ⟨e3, e4⟩ | ⟨e3, e4⟩ : (r1 = false ∧ r2 = false) ∨ (r1 = false ∧ r2 = true) ∨ (r1 = true ∧ r2 = false) := by cases r1 <;> cases r2 <;> simp_all
  · subst e3 e4
    clear e2
    simp only [Bool.or_true, Bool.true_or, Bool.or_false] at qN
    go_enter Try.func6, Try.ntmps6
    go_wp2_with fail
    go_region
    · go_wp2_with (first | (go_at_call 17; (with_reducible refine (HC0.out _).mono ?_); rintro e w1 ⟨v1, rfl, ha, hb⟩; (obtain ⟨gx, gy, rfl, _, _, hx2, hy2, hx3, hy3⟩ := ha); have a0 := (hb.cell (p := ⟨w.heap.size, 0, none⟩) (by first | (simp; done) | (simp; omega))).trans (show _ = some (.int .i64 ax) by (go_simp; done)); have a1 := (hb.cell (p := ⟨w.heap.size, 1, none⟩) (by first | (simp; done) | (simp; omega))).trans (show _ = some (.int .i64 ay) by (go_simp; done)); have b0 := (hb.cell (p := ⟨w.heap.size + 1, 0, none⟩) (by first | (simp; done) | (simp; omega))).trans (show _ = some (.int .i64 bx) by (go_simp; done)); have b1 := (hb.cell (p := ⟨w.heap.size + 1, 1, none⟩) (by first | (simp; done) | (simp; omega))).trans (show _ = some (.int .i64 yb) by (go_simp; done)); have p0 := (hb.cell (p := ⟨w.heap.size + 1 + 1 + 1, 0, none⟩) (by first | (simp; done) | (simp; omega))).trans (show _ = some (.int .i64 px) by (go_simp; done)); have p1 := (hb.cell (p := ⟨w.heap.size + 1 + 1 + 1, 1, none⟩) (by first | (simp; done) | (simp; omega))).trans (show _ = some (.int .i64 py) by (go_simp; done)); have q0 := (hb.cell (p := ⟨w.heap.size + 1 + 1 + 1 + 1, 0, none⟩) (by first | (simp; done) | (simp; omega))).trans (show _ = some (.int .i64 qx) by (go_simp; done)); have q1 := (hb.cell (p := ⟨w.heap.size + 1 + 1 + 1 + 1, 1, none⟩) (by first | (simp; done) | (simp; omega))).trans (show _ = some (.int .i64 qy) by (go_simp; done)); have HB1 := Aside0.mk (below_step (show Below w.heap.size w _ from (by repeat (first | exact Below.refl _ _ | (refine Below.drew ?_) | (refine Below.setCell ?_ (by first | (simp; done) | (simp; omega)) _) | (refine Below.alloc ?_ (by first | (simp; done) | (simp; omega)) _)))) hb); clear hb hx2 hy2) | (go_at_call 26; (with_reducible refine (HC1.out gx gy _ hx3 hy3 (World.block_lt_of_cell? _ _ hx3) (World.block_lt_of_cell? _ _ hy3)).mono ?_); rintro e w2 ⟨rfl, hb⟩; have a0' := (hb.cell (World.block_lt_of_cell? _ _ a0)).trans a0; clear a0; have a0 := a0'; clear a0'; have a1' := (hb.cell (World.block_lt_of_cell? _ _ a1)).trans a1; clear a1; have a1 := a1'; clear a1'; have b0' := (hb.cell (World.block_lt_of_cell? _ _ b0)).trans b0; clear b0; have b0 := b0'; clear b0'; have b1' := (hb.cell (World.block_lt_of_cell? _ _ b1)).trans b1; clear b1; have b1 := b1'; clear b1'; have p0' := (hb.cell (World.block_lt_of_cell? _ _ p0)).trans p0; clear p0; have p0 := p0'; clear p0'; have p1' := (hb.cell (World.block_lt_of_cell? _ _ p1)).trans p1; clear p1; have p1 := p1'; clear p1'; have q0' := (hb.cell (World.block_lt_of_cell? _ _ q0)).trans q0; clear q0; have q0 := q0'; clear q0'; have q1' := (hb.cell (World.block_lt_of_cell? _ _ q1)).trans q1; clear q1; have q1 := q1'; clear q1'; have hx3' := (hb.cell (World.block_lt_of_cell? _ _ hx3)).trans hx3; clear hx3; have hx3 := hx3'; clear hx3'; have hy3' := (hb.cell (World.block_lt_of_cell? _ _ hy3)).trans hy3; clear hy3; have hy3 := hy3'; clear hy3'; have HB1' := Aside0.mk (below_step HB1.out hb); clear HB1; have HB1 := HB1'; clear HB1' hb) | (go_at_call 18; (with_reducible refine (HC3.out _).mono ?_); rintro e w2 ⟨rfl, hb⟩; have a0' := (hb.cell (World.block_lt_of_cell? _ _ a0)).trans a0; clear a0; have a0 := a0'; clear a0'; have a1' := (hb.cell (World.block_lt_of_cell? _ _ a1)).trans a1; clear a1; have a1 := a1'; clear a1'; have b0' := (hb.cell (World.block_lt_of_cell? _ _ b0)).trans b0; clear b0; have b0 := b0'; clear b0'; have b1' := (hb.cell (World.block_lt_of_cell? _ _ b1)).trans b1; clear b1; have b1 := b1'; clear b1'; have p0' := (hb.cell (World.block_lt_of_cell? _ _ p0)).trans p0; clear p0; have p0 := p0'; clear p0'; have p1' := (hb.cell (World.block_lt_of_cell? _ _ p1)).trans p1; clear p1; have p1 := p1'; clear p1'; have q0' := (hb.cell (World.block_lt_of_cell? _ _ q0)).trans q0; clear q0; have q0 := q0'; clear q0'; have q1' := (hb.cell (World.block_lt_of_cell? _ _ q1)).trans q1; clear q1; have q1 := q1'; clear q1'; have hx3' := (hb.cell (World.block_lt_of_cell? _ _ hx3)).trans hx3; clear hx3; have hx3 := hx3'; clear hx3'; have hy3' := (hb.cell (World.block_lt_of_cell? _ _ hy3)).trans hy3; clear hy3; have hy3 := hy3'; clear hy3'; have HB1' := Aside0.mk (below_step HB1.out hb); clear HB1; have HB1 := HB1'; clear HB1' hb))
      have hb := below_drew (Below.refl w2.heap.size w2)
      refine start_ (n := 25) (S := fun W => W.cell? ⟨w.heap.size + 1 + 1 + 1, 0, none⟩ = some (.int .i64 px) ∧ W.cell? ⟨w.heap.size + 1 + 1 + 1, 1, none⟩ = some (.int .i64 py) ∧ W.cell? ⟨w.heap.size + 1 + 1 + 1 + 1, 0, none⟩ = some (.int .i64 qx) ∧ W.cell? ⟨w.heap.size + 1 + 1 + 1 + 1, 1, none⟩ = some (.int .i64 qy)) (ds := []) #[false, false, false, false, false, false, false, false, false, false, false, false, false, false, false, false, false, false, false, false, false, false, false, false, false] (by kernel_rfl) rfl rfl ⟨p0, p1, q0, q1⟩ (fun hHeld => ?_); refine with_tabW OrderAlong_calls.tab8 OrderAlong_calls.bits8 (fun HT_ HW_ => ?_)
      generalize hw0 : w2.drew = w0 at hb hHeld ⊢
      have p0' := (hb.cell (World.block_lt_of_cell? _ _ p0)).trans p0; clear p0; have p0 := p0'; clear p0'
      have p1' := (hb.cell (World.block_lt_of_cell? _ _ p1)).trans p1; clear p1; have p1 := p1'; clear p1'
      have q0' := (hb.cell (World.block_lt_of_cell? _ _ q0)).trans q0; clear q0; have q0 := q0'; clear q0'
      have q1' := (hb.cell (World.block_lt_of_cell? _ _ q1)).trans q1; clear q1; have q1 := q1'; clear q1'
      have hx3' := (hb.cell (World.block_lt_of_cell? _ _ hx3)).trans hx3; clear hx3; have hx3 := hx3'; clear hx3'
      have hy3' := (hb.cell (World.block_lt_of_cell? _ _ hy3)).trans hy3; clear hy3; have hy3 := hy3'; clear hy3'
      have HB1' := Aside0.mk (below_step HB1.out hb); clear HB1; have HB1 := HB1'; clear HB1' hb
      clear hw0
      refine one_ (i := 0) (N := (some 39)) #[true, false, false, false, false, false, false, false, false, false, false, false, false, false, false, false, false, false, false, false, false, false, false, false, false] rfl rfl (one_of HT_.out (by kernel_rfl)) (by decide) (fun K hK => ?_)
      refine goes_ Try.func8 (by kernel_rfl) rfl #[] (by rfl) rfl rfl (by (try simp only [List.map_toArray, List.map_cons, List.map_nil]); first | done | rfl) ?_
      with_reducible refine (cobweblaw07_alive.calls0 _).mono ?_
      rintro e w3 ⟨rfl, hb⟩
      refine ⟨_, rfl, ?_⟩
      have p0' := (hb.cell (World.block_lt_of_cell? _ _ p0)).trans p0; clear p0; have p0 := p0'; clear p0'
      have p1' := (hb.cell (World.block_lt_of_cell? _ _ p1)).trans p1; clear p1; have p1 := p1'; clear p1'
      have q0' := (hb.cell (World.block_lt_of_cell? _ _ q0)).trans q0; clear q0; have q0 := q0'; clear q0'
      have q1' := (hb.cell (World.block_lt_of_cell? _ _ q1)).trans q1; clear q1; have q1 := q1'; clear q1'
      have hx3' := (hb.cell (World.block_lt_of_cell? _ _ hx3)).trans hx3; clear hx3; have hx3 := hx3'; clear hx3'
      have hy3' := (hb.cell (World.block_lt_of_cell? _ _ hy3)).trans hy3; clear hy3; have hy3 := hy3'; clear hy3'
      have HB1' := Aside0.mk (below_step HB1.out hb); clear HB1; have HB1 := HB1'; clear HB1' hb
      have hHeld2 : _ ∧ _ ∧ _ ∧ _ := ⟨p0, p1, q0, q1⟩
      clear hHeld
      refine hK.out _ _ hHeld2 (fun hHeld => ?_)
      clear hK K hHeld2
      refine norm_ (a' := ?_) ?_ ?_
      rotate_left
      · show Act.put _ (some 39) _ = _
        simp only [Act.put, List.setIfInBounds_toArray, List.set_cons_zero, List.set_cons_succ, i64_w, i32_w]
        rfl
      refine pure_ (i := 1) (N := (some 40)) (v := ?_) (a' := ?_) #[true, true, false, false, false, false, false, false, false, false, false, false, false, false, false, false, false, false, false, false, false, false, false, false, false] rfl rfl (any_of HT_.out (by kernel_rfl)) (fun _ _ _ h => h) (Or.inl ⟨by rfl, ?_⟩) ?_ ?_
      rotate_left
      · intro w'
        go_simp
        with_reducible rfl
      rotate_left
      · simp only [Act.put, List.setIfInBounds_toArray, List.set_cons_zero, List.set_cons_succ, i64_w, i32_w]
        rfl
      refine take_ (i := 9) (N := (some 48)) (v := ?_) (a' := ?_) #[true, true, false, false, false, false, false, false, false, true, false, false, false, false, false, false, false, false, false, false, false, false, false, false, false] rfl rfl (take_ofW HT_.out HW_.out (by kernel_rfl)) (fun _ _ _ h => h) (Or.inl ⟨by rfl, ?_⟩) hHeld ?_ ?_
      rotate_left
      · rintro w' ⟨s0, s1, s2, s3⟩
        go_simp
        with_reducible rfl
      rotate_left
      · simp only [Act.put, List.setIfInBounds_toArray, List.set_cons_zero, List.set_cons_succ, i64_w, i32_w]
        rfl
      refine take_ (i := 10) (N := (some 49)) (v := ?_) (a' := ?_) #[true, true, false, false, false, false, false, false, false, true, true, false, false, false, false, false, false, false, false, false, false, false, false, false, false] rfl rfl (take_ofW HT_.out HW_.out (by kernel_rfl)) (fun _ _ _ h => h) (Or.inl ⟨by rfl, ?_⟩) hHeld ?_ ?_
      rotate_left
      · rintro w' ⟨s0, s1, s2, s3⟩
        go_simp
        with_reducible rfl
      rotate_left
      · simp only [Act.put, List.setIfInBounds_toArray, List.set_cons_zero, List.set_cons_succ, i64_w, i32_w]
        rfl
      refine pure_ (i := 11) (N := (some 50)) (v := ?_) (a' := ?_) #[true, true, false, false, false, false, false, false, false, true, true, true, false, false, false, false, false, false, false, false, false, false, false, false, false] rfl rfl (any_of HT_.out (by kernel_rfl)) (fun _ _ _ h => h) (Or.inl ⟨by rfl, ?_⟩) ?_ ?_
      rotate_left
      · intro w'
        first | (go_simp; with_reducible rfl) | (go_simp; simp only [qN]; rfl)
      rotate_left
      · simp only [Act.put, List.setIfInBounds_toArray, List.set_cons_zero, List.set_cons_succ, i64_w, i32_w]
        rfl
      refine pure_ (i := 2) (N := (some 41)) (v := ?_) (a' := ?_) #[true, true, true, false, false, false, false, false, false, true, true, true, false, false, false, false, false, false, false, false, false, false, false, false, false] rfl rfl (any_of HT_.out (by kernel_rfl)) (fun _ _ _ h => h) (Or.inl ⟨by rfl, ?_⟩) ?_ ?_
      rotate_left
      · intro w'
        go_simp
        with_reducible rfl
      rotate_left
      · simp only [Act.put, List.setIfInBounds_toArray, List.set_cons_zero, List.set_cons_succ, i64_w, i32_w]
        rfl
      refine pure_ (i := 3) (N := (some 42)) (v := ?_) (a' := ?_) #[true, true, true, true, false, false, false, false, false, true, true, true, false, false, false, false, false, false, false, false, false, false, false, false, false] rfl rfl (any_of HT_.out (by kernel_rfl)) (fun _ _ _ h => h) (Or.inl ⟨by rfl, ?_⟩) ?_ ?_
      rotate_left
      · intro w'
        go_simp
        with_reducible rfl
      rotate_left
      · simp only [Act.put, List.setIfInBounds_toArray, List.set_cons_zero, List.set_cons_succ, i64_w, i32_w]
        rfl
      refine pure_ (i := 4) (N := (some 43)) (v := ?_) (a' := ?_) #[true, true, true, true, true, false, false, false, false, true, true, true, false, false, false, false, false, false, false, false, false, false, false, false, false] rfl rfl (any_of HT_.out (by kernel_rfl)) (fun _ _ _ h => h) (Or.inl ⟨by rfl, ?_⟩) ?_ ?_
      rotate_left
      · intro w'
        go_simp
        with_reducible rfl
      rotate_left
      · simp only [Act.put, List.setIfInBounds_toArray, List.set_cons_zero, List.set_cons_succ, i64_w, i32_w]
        rfl
      refine take_ (i := 5) (N := (some 44)) (v := ?_) (a' := ?_) #[true, true, true, true, true, true, false, false, false, true, true, true, false, false, false, false, false, false, false, false, false, false, false, false, false] rfl rfl (take_ofW HT_.out HW_.out (by kernel_rfl)) (fun _ _ _ h => h) (Or.inl ⟨by rfl, ?_⟩) hHeld ?_ ?_
      rotate_left
      · rintro w' ⟨s0, s1, s2, s3⟩
        go_simp
        with_reducible rfl
      rotate_left
      · simp only [Act.put, List.setIfInBounds_toArray, List.set_cons_zero, List.set_cons_succ, i64_w, i32_w]
        rfl
      refine take_ (i := 6) (N := (some 45)) (v := ?_) (a' := ?_) #[true, true, true, true, true, true, true, false, false, true, true, true, false, false, false, false, false, false, false, false, false, false, false, false, false] rfl rfl (take_ofW HT_.out HW_.out (by kernel_rfl)) (fun _ _ _ h => h) (Or.inl ⟨by rfl, ?_⟩) hHeld ?_ ?_
      rotate_left
      · rintro w' ⟨s0, s1, s2, s3⟩
        go_simp
        with_reducible rfl
      rotate_left
      · simp only [Act.put, List.setIfInBounds_toArray, List.set_cons_zero, List.set_cons_succ, i64_w, i32_w]
        rfl
      refine one_ (i := 7) (N := (some 46)) #[true, true, true, true, true, true, true, true, false, true, true, true, false, false, false, false, false, false, false, false, false, false, false, false, false] rfl rfl (one_of HT_.out (by kernel_rfl)) (by decide) (fun K hK => ?_)
      refine goesc_ Try.func26 (cs := #[.pointer (some ⟨gx, 0, none⟩), .pointer (some ⟨gy, 0, none⟩)]) (by kernel_rfl) rfl #[.agg #[.int .i64 qx, .int .i64 qy], .agg #[.int .i64 px, .int .i64 py], .pointer (some ⟨gx, 0, none⟩), .pointer (some ⟨gy, 0, none⟩)] (by rfl) rfl rfl (by rfl) (by (try simp only [List.map_toArray, List.map_cons, List.map_nil]); first | done | rfl) ?_
      with_reducible refine (HC2.out gx gy _ hx3 hy3 (World.block_lt_of_cell? _ _ hx3) (World.block_lt_of_cell? _ _ hy3)).mono ?_
      rintro e w3 ⟨rfl, hb⟩
      refine ⟨_, rfl, ?_⟩
      have p0' := (hb.cell (World.block_lt_of_cell? _ _ p0)).trans p0; clear p0; have p0 := p0'; clear p0'
      have p1' := (hb.cell (World.block_lt_of_cell? _ _ p1)).trans p1; clear p1; have p1 := p1'; clear p1'
      have q0' := (hb.cell (World.block_lt_of_cell? _ _ q0)).trans q0; clear q0; have q0 := q0'; clear q0'
      have q1' := (hb.cell (World.block_lt_of_cell? _ _ q1)).trans q1; clear q1; have q1 := q1'; clear q1'
      have hx3' := (hb.cell (World.block_lt_of_cell? _ _ hx3)).trans hx3; clear hx3; have hx3 := hx3'; clear hx3'
      have hy3' := (hb.cell (World.block_lt_of_cell? _ _ hy3)).trans hy3; clear hy3; have hy3 := hy3'; clear hy3'
      have HB1' := Aside0.mk (below_step HB1.out hb); clear HB1; have HB1 := HB1'; clear HB1' hb
      have hHeld2 : _ ∧ _ ∧ _ ∧ _ := ⟨p0, p1, q0, q1⟩
      clear hHeld
      refine hK.out _ _ hHeld2 (fun hHeld => ?_)
      clear hK K hHeld2
      refine norm_ (a' := ?_) ?_ ?_
      rotate_left
      · show Act.put _ (some 46) _ = _
        simp only [Act.put, List.setIfInBounds_toArray, List.set_cons_zero, List.set_cons_succ, i64_w, i32_w]
        rfl
      refine pure_ (i := 8) (N := (some 47)) (v := ?_) (a' := ?_) #[true, true, true, true, true, true, true, true, true, true, true, true, false, false, false, false, false, false, false, false, false, false, false, false, false] rfl rfl (any_of HT_.out (by kernel_rfl)) (fun _ _ _ h => h) (Or.inl ⟨by rfl, ?_⟩) ?_ ?_
      rotate_left
      · intro w'
        go_simp
        with_reducible rfl
      rotate_left
      · simp only [Act.put, List.setIfInBounds_toArray, List.set_cons_zero, List.set_cons_succ, i64_w, i32_w]
        rfl
      refine pure_ (i := 12) (N := (some 51)) (v := ?_) (a' := ?_) #[true, true, true, true, true, true, true, true, true, true, true, true, true, false, false, false, false, false, false, false, false, false, false, false, false] rfl rfl (any_of HT_.out (by kernel_rfl)) (fun _ _ _ h => h) (Or.inl ⟨by rfl, ?_⟩) ?_ ?_
      rotate_left
      · intro w'
        go_simp
        with_reducible rfl
      rotate_left
      · simp only [Act.put, List.setIfInBounds_toArray, List.set_cons_zero, List.set_cons_succ, i64_w, i32_w]
        rfl
      refine pure_ (i := 13) (N := (some 52)) (v := ?_) (a' := ?_) #[true, true, true, true, true, true, true, true, true, true, true, true, true, true, false, false, false, false, false, false, false, false, false, false, false] rfl rfl (any_of HT_.out (by kernel_rfl)) (fun _ _ _ h => h) (Or.inl ⟨by rfl, ?_⟩) ?_ ?_
      rotate_left
      · intro w'
        go_simp
        with_reducible rfl
      rotate_left
      · simp only [Act.put, List.setIfInBounds_toArray, List.set_cons_zero, List.set_cons_succ, i64_w, i32_w]
        rfl
      refine pure_ (i := 14) (N := (some 53)) (v := ?_) (a' := ?_) #[true, true, true, true, true, true, true, true, true, true, true, true, true, true, true, false, false, false, false, false, false, false, false, false, false] rfl rfl (any_of HT_.out (by kernel_rfl)) (fun _ _ _ h => h) (Or.inl ⟨by rfl, ?_⟩) ?_ ?_
      rotate_left
      · intro w'
        go_simp
        with_reducible rfl
      rotate_left
      · simp only [Act.put, List.setIfInBounds_toArray, List.set_cons_zero, List.set_cons_succ, i64_w, i32_w]
        rfl
      refine pure_ (i := 15) (N := (some 54)) (v := ?_) (a' := ?_) #[true, true, true, true, true, true, true, true, true, true, true, true, true, true, true, true, false, false, false, false, false, false, false, false, false] rfl rfl (any_of HT_.out (by kernel_rfl)) (fun _ _ _ h => h) (Or.inl ⟨by rfl, ?_⟩) ?_ ?_
      rotate_left
      · intro w'
        go_simp
        with_reducible rfl
      rotate_left
      · simp only [Act.put, List.setIfInBounds_toArray, List.set_cons_zero, List.set_cons_succ, i64_w, i32_w]
        rfl
      refine pure_ (i := 16) (N := (some 55)) (v := ?_) (a' := ?_) #[true, true, true, true, true, true, true, true, true, true, true, true, true, true, true, true, true, false, false, false, false, false, false, false, false] rfl rfl (any_of HT_.out (by kernel_rfl)) (fun _ _ _ h => h) (Or.inl ⟨by rfl, ?_⟩) ?_ ?_
      rotate_left
      · intro w'
        go_simp
        with_reducible rfl
      rotate_left
      · simp only [Act.put, List.setIfInBounds_toArray, List.set_cons_zero, List.set_cons_succ, i64_w, i32_w]
        rfl
      refine pure_ (i := 17) (N := (some 56)) (v := undef) (a' := ?_) #[true, true, true, true, true, true, true, true, true, true, true, true, true, true, true, true, true, true, false, false, false, false, false, false, false] rfl rfl (any_of HT_.out (by kernel_rfl)) (fun _ _ _ h => h) (Or.inr ⟨by rfl, rfl⟩) ?_ ?_
      rotate_left
      · simp only [Act.put, List.setIfInBounds_toArray, List.set_cons_zero, List.set_cons_succ, i64_w, i32_w]
        rfl
      refine pure_ (i := 18) (N := (some 57)) (v := undef) (a' := ?_) #[true, true, true, true, true, true, true, true, true, true, true, true, true, true, true, true, true, true, true, false, false, false, false, false, false] rfl rfl (any_of HT_.out (by kernel_rfl)) (fun _ _ _ h => h) (Or.inr ⟨by rfl, rfl⟩) ?_ ?_
      rotate_left
      · simp only [Act.put, List.setIfInBounds_toArray, List.set_cons_zero, List.set_cons_succ, i64_w, i32_w]
        rfl
      refine pure_ (i := 19) (N := (some 58)) (v := undef) (a' := ?_) #[true, true, true, true, true, true, true, true, true, true, true, true, true, true, true, true, true, true, true, true, false, false, false, false, false] rfl rfl (any_of HT_.out (by kernel_rfl)) (fun _ _ _ h => h) (Or.inr ⟨by rfl, rfl⟩) ?_ ?_
      rotate_left
      · simp only [Act.put, List.setIfInBounds_toArray, List.set_cons_zero, List.set_cons_succ, i64_w, i32_w]
        rfl
      refine pure_ (i := 20) (N := (some 59)) (v := undef) (a' := ?_) #[true, true, true, true, true, true, true, true, true, true, true, true, true, true, true, true, true, true, true, true, true, false, false, false, false] rfl rfl (any_of HT_.out (by kernel_rfl)) (fun _ _ _ h => h) (Or.inr ⟨by rfl, rfl⟩) ?_ ?_
      rotate_left
      · simp only [Act.put, List.setIfInBounds_toArray, List.set_cons_zero, List.set_cons_succ, i64_w, i32_w]
        rfl
      refine pure_ (i := 21) (N := (some 60)) (v := ?_) (a' := ?_) #[true, true, true, true, true, true, true, true, true, true, true, true, true, true, true, true, true, true, true, true, true, true, false, false, false] rfl rfl (any_of HT_.out (by kernel_rfl)) (fun _ _ _ h => h) (Or.inl ⟨by rfl, ?_⟩) ?_ ?_
      rotate_left
      · intro w'
        go_simp
        with_reducible rfl
      rotate_left
      · simp only [Act.put, List.setIfInBounds_toArray, List.set_cons_zero, List.set_cons_succ, i64_w, i32_w]
        rfl
      refine pure_ (i := 22) (N := (some 61)) (v := ?_) (a' := ?_) #[true, true, true, true, true, true, true, true, true, true, true, true, true, true, true, true, true, true, true, true, true, true, true, false, false] rfl rfl (any_of HT_.out (by kernel_rfl)) (fun _ _ _ h => h) (Or.inl ⟨by rfl, ?_⟩) ?_ ?_
      rotate_left
      · intro w'
        go_simp
        with_reducible rfl
      rotate_left
      · simp only [Act.put, List.setIfInBounds_toArray, List.set_cons_zero, List.set_cons_succ, i64_w, i32_w]
        rfl
      refine pure_ (i := 23) (N := (some 62)) (v := ?_) (a' := ?_) #[true, true, true, true, true, true, true, true, true, true, true, true, true, true, true, true, true, true, true, true, true, true, true, true, false] rfl rfl (any_of HT_.out (by kernel_rfl)) (fun _ _ _ h => h) (Or.inl ⟨by rfl, ?_⟩) ?_ ?_
      rotate_left
      · intro w'
        go_simp
        with_reducible rfl
      rotate_left
      · simp only [Act.put, List.setIfInBounds_toArray, List.set_cons_zero, List.set_cons_succ, i64_w, i32_w]
        rfl
      refine pure_ (i := 24) (N := (some 6)) (v := ?_) (a' := ?_) #[true, true, true, true, true, true, true, true, true, true, true, true, true, true, true, true, true, true, true, true, true, true, true, true, true] rfl rfl (any_of HT_.out (by kernel_rfl)) (fun _ _ _ h => h) (Or.inl ⟨by rfl, ?_⟩) ?_ ?_
      rotate_left
      · intro w'
        go_simp
        with_reducible rfl
      rotate_left
      · simp only [Act.put, List.setIfInBounds_toArray, List.set_cons_zero, List.set_cons_succ, i64_w, i32_w]
        rfl
      refine done_ (done_of HT_.out (by kernel_rfl)) ?_
      try go_wp2_with fail
      go_ret
      exact ⟨by first | rfl | simp, HB1.out⟩
    · go_wp2_with (first | (go_at_call 17; (with_reducible refine (HC0.out _).mono ?_); rintro e w1 ⟨v1, rfl, ha, hb⟩; (obtain ⟨gx, gy, rfl, _, _, hx2, hy2, hx3, hy3⟩ := ha); have a0 := (hb.cell (p := ⟨w.heap.size, 0, none⟩) (by first | (simp; done) | (simp; omega))).trans (show _ = some (.int .i64 ax) by (go_simp; done)); have a1 := (hb.cell (p := ⟨w.heap.size, 1, none⟩) (by first | (simp; done) | (simp; omega))).trans (show _ = some (.int .i64 ay) by (go_simp; done)); have b0 := (hb.cell (p := ⟨w.heap.size + 1, 0, none⟩) (by first | (simp; done) | (simp; omega))).trans (show _ = some (.int .i64 bx) by (go_simp; done)); have b1 := (hb.cell (p := ⟨w.heap.size + 1, 1, none⟩) (by first | (simp; done) | (simp; omega))).trans (show _ = some (.int .i64 yb) by (go_simp; done)); have p0 := (hb.cell (p := ⟨w.heap.size + 1 + 1 + 1 + 1, 0, none⟩) (by first | (simp; done) | (simp; omega))).trans (show _ = some (.int .i64 px) by (go_simp; done)); have p1 := (hb.cell (p := ⟨w.heap.size + 1 + 1 + 1 + 1, 1, none⟩) (by first | (simp; done) | (simp; omega))).trans (show _ = some (.int .i64 py) by (go_simp; done)); have q0 := (hb.cell (p := ⟨w.heap.size + 1 + 1 + 1, 0, none⟩) (by first | (simp; done) | (simp; omega))).trans (show _ = some (.int .i64 qx) by (go_simp; done)); have q1 := (hb.cell (p := ⟨w.heap.size + 1 + 1 + 1, 1, none⟩) (by first | (simp; done) | (simp; omega))).trans (show _ = some (.int .i64 qy) by (go_simp; done)); have HB1 := Aside0.mk (below_step (show Below w.heap.size w _ from (by repeat (first | exact Below.refl _ _ | (refine Below.drew ?_) | (refine Below.setCell ?_ (by first | (simp; done) | (simp; omega)) _) | (refine Below.alloc ?_ (by first | (simp; done) | (simp; omega)) _)))) hb); clear hb hx2 hy2) | (go_at_call 26; (with_reducible refine (HC1.out gx gy _ hx3 hy3 (World.block_lt_of_cell? _ _ hx3) (World.block_lt_of_cell? _ _ hy3)).mono ?_); rintro e w2 ⟨rfl, hb⟩; have a0' := (hb.cell (World.block_lt_of_cell? _ _ a0)).trans a0; clear a0; have a0 := a0'; clear a0'; have a1' := (hb.cell (World.block_lt_of_cell? _ _ a1)).trans a1; clear a1; have a1 := a1'; clear a1'; have b0' := (hb.cell (World.block_lt_of_cell? _ _ b0)).trans b0; clear b0; have b0 := b0'; clear b0'; have b1' := (hb.cell (World.block_lt_of_cell? _ _ b1)).trans b1; clear b1; have b1 := b1'; clear b1'; have p0' := (hb.cell (World.block_lt_of_cell? _ _ p0)).trans p0; clear p0; have p0 := p0'; clear p0'; have p1' := (hb.cell (World.block_lt_of_cell? _ _ p1)).trans p1; clear p1; have p1 := p1'; clear p1'; have q0' := (hb.cell (World.block_lt_of_cell? _ _ q0)).trans q0; clear q0; have q0 := q0'; clear q0'; have q1' := (hb.cell (World.block_lt_of_cell? _ _ q1)).trans q1; clear q1; have q1 := q1'; clear q1'; have hx3' := (hb.cell (World.block_lt_of_cell? _ _ hx3)).trans hx3; clear hx3; have hx3 := hx3'; clear hx3'; have hy3' := (hb.cell (World.block_lt_of_cell? _ _ hy3)).trans hy3; clear hy3; have hy3 := hy3'; clear hy3'; have HB1' := Aside0.mk (below_step HB1.out hb); clear HB1; have HB1 := HB1'; clear HB1' hb) | (go_at_call 18; (with_reducible refine (HC3.out _).mono ?_); rintro e w2 ⟨rfl, hb⟩; have a0' := (hb.cell (World.block_lt_of_cell? _ _ a0)).trans a0; clear a0; have a0 := a0'; clear a0'; have a1' := (hb.cell (World.block_lt_of_cell? _ _ a1)).trans a1; clear a1; have a1 := a1'; clear a1'; have b0' := (hb.cell (World.block_lt_of_cell? _ _ b0)).trans b0; clear b0; have b0 := b0'; clear b0'; have b1' := (hb.cell (World.block_lt_of_cell? _ _ b1)).trans b1; clear b1; have b1 := b1'; clear b1'; have p0' := (hb.cell (World.block_lt_of_cell? _ _ p0)).trans p0; clear p0; have p0 := p0'; clear p0'; have p1' := (hb.cell (World.block_lt_of_cell? _ _ p1)).trans p1; clear p1; have p1 := p1'; clear p1'; have q0' := (hb.cell (World.block_lt_of_cell? _ _ q0)).trans q0; clear q0; have q0 := q0'; clear q0'; have q1' := (hb.cell (World.block_lt_of_cell? _ _ q1)).trans q1; clear q1; have q1 := q1'; clear q1'; have hx3' := (hb.cell (World.block_lt_of_cell? _ _ hx3)).trans hx3; clear hx3; have hx3 := hx3'; clear hx3'; have hy3' := (hb.cell (World.block_lt_of_cell? _ _ hy3)).trans hy3; clear hy3; have hy3 := hy3'; clear hy3'; have HB1' := Aside0.mk (below_step HB1.out hb); clear HB1; have HB1 := HB1'; clear HB1' hb))
      have hb := below_drew (Below.refl w2.heap.size w2)
      refine start_ (n := 25) (S := fun W => W.cell? ⟨w.heap.size + 1 + 1 + 1 + 1, 0, none⟩ = some (.int .i64 px) ∧ W.cell? ⟨w.heap.size + 1 + 1 + 1 + 1, 1, none⟩ = some (.int .i64 py) ∧ W.cell? ⟨w.heap.size + 1 + 1 + 1, 0, none⟩ = some (.int .i64 qx) ∧ W.cell? ⟨w.heap.size + 1 + 1 + 1, 1, none⟩ = some (.int .i64 qy)) (ds := []) #[false, false, false, false, false, false, false, false, false, false, false, false, false, false, false, false, false, false, false, false, false, false, false, false, false] (by kernel_rfl) rfl rfl ⟨p0, p1, q0, q1⟩ (fun hHeld => ?_); refine with_tabW OrderAlong_calls.tab8 OrderAlong_calls.bits8 (fun HT_ HW_ => ?_)
      generalize hw0 : w2.drew = w0 at hb hHeld ⊢
      have p0' := (hb.cell (World.block_lt_of_cell? _ _ p0)).trans p0; clear p0; have p0 := p0'; clear p0'
      have p1' := (hb.cell (World.block_lt_of_cell? _ _ p1)).trans p1; clear p1; have p1 := p1'; clear p1'
      have q0' := (hb.cell (World.block_lt_of_cell? _ _ q0)).trans q0; clear q0; have q0 := q0'; clear q0'
      have q1' := (hb.cell (World.block_lt_of_cell? _ _ q1)).trans q1; clear q1; have q1 := q1'; clear q1'
      have hx3' := (hb.cell (World.block_lt_of_cell? _ _ hx3)).trans hx3; clear hx3; have hx3 := hx3'; clear hx3'
      have hy3' := (hb.cell (World.block_lt_of_cell? _ _ hy3)).trans hy3; clear hy3; have hy3 := hy3'; clear hy3'
      have HB1' := Aside0.mk (below_step HB1.out hb); clear HB1; have HB1 := HB1'; clear HB1' hb
      clear hw0
      refine one_ (i := 0) (N := (some 39)) #[true, false, false, false, false, false, false, false, false, false, false, false, false, false, false, false, false, false, false, false, false, false, false, false, false] rfl rfl (one_of HT_.out (by kernel_rfl)) (by decide) (fun K hK => ?_)
      refine goes_ Try.func8 (by kernel_rfl) rfl #[] (by rfl) rfl rfl (by (try simp only [List.map_toArray, List.map_cons, List.map_nil]); first | done | rfl) ?_
      with_reducible refine (cobweblaw07_alive.calls0 _).mono ?_
      rintro e w3 ⟨rfl, hb⟩
      refine ⟨_, rfl, ?_⟩
      have p0' := (hb.cell (World.block_lt_of_cell? _ _ p0)).trans p0; clear p0; have p0 := p0'; clear p0'
      have p1' := (hb.cell (World.block_lt_of_cell? _ _ p1)).trans p1; clear p1; have p1 := p1'; clear p1'
      have q0' := (hb.cell (World.block_lt_of_cell? _ _ q0)).trans q0; clear q0; have q0 := q0'; clear q0'
      have q1' := (hb.cell (World.block_lt_of_cell? _ _ q1)).trans q1; clear q1; have q1 := q1'; clear q1'
      have hx3' := (hb.cell (World.block_lt_of_cell? _ _ hx3)).trans hx3; clear hx3; have hx3 := hx3'; clear hx3'
      have hy3' := (hb.cell (World.block_lt_of_cell? _ _ hy3)).trans hy3; clear hy3; have hy3 := hy3'; clear hy3'
      have HB1' := Aside0.mk (below_step HB1.out hb); clear HB1; have HB1 := HB1'; clear HB1' hb
      have hHeld2 : _ ∧ _ ∧ _ ∧ _ := ⟨p0, p1, q0, q1⟩
      clear hHeld
      refine hK.out _ _ hHeld2 (fun hHeld => ?_)
      clear hK K hHeld2
      refine norm_ (a' := ?_) ?_ ?_
      rotate_left
      · show Act.put _ (some 39) _ = _
        simp only [Act.put, List.setIfInBounds_toArray, List.set_cons_zero, List.set_cons_succ, i64_w, i32_w]
        rfl
      refine pure_ (i := 1) (N := (some 40)) (v := ?_) (a' := ?_) #[true, true, false, false, false, false, false, false, false, false, false, false, false, false, false, false, false, false, false, false, false, false, false, false, false] rfl rfl (any_of HT_.out (by kernel_rfl)) (fun _ _ _ h => h) (Or.inl ⟨by rfl, ?_⟩) ?_ ?_
      rotate_left
      · intro w'
        go_simp
        with_reducible rfl
      rotate_left
      · simp only [Act.put, List.setIfInBounds_toArray, List.set_cons_zero, List.set_cons_succ, i64_w, i32_w]
        rfl
      refine take_ (i := 9) (N := (some 48)) (v := ?_) (a' := ?_) #[true, true, false, false, false, false, false, false, false, true, false, false, false, false, false, false, false, false, false, false, false, false, false, false, false] rfl rfl (take_ofW HT_.out HW_.out (by kernel_rfl)) (fun _ _ _ h => h) (Or.inl ⟨by rfl, ?_⟩) hHeld ?_ ?_
      rotate_left
      · rintro w' ⟨s0, s1, s2, s3⟩
        go_simp
        with_reducible rfl
      rotate_left
      · simp only [Act.put, List.setIfInBounds_toArray, List.set_cons_zero, List.set_cons_succ, i64_w, i32_w]
        rfl
      refine take_ (i := 10) (N := (some 49)) (v := ?_) (a' := ?_) #[true, true, false, false, false, false, false, false, false, true, true, false, false, false, false, false, false, false, false, false, false, false, false, false, false] rfl rfl (take_ofW HT_.out HW_.out (by kernel_rfl)) (fun _ _ _ h => h) (Or.inl ⟨by rfl, ?_⟩) hHeld ?_ ?_
      rotate_left
      · rintro w' ⟨s0, s1, s2, s3⟩
        go_simp
        with_reducible rfl
      rotate_left
      · simp only [Act.put, List.setIfInBounds_toArray, List.set_cons_zero, List.set_cons_succ, i64_w, i32_w]
        rfl
      refine pure_ (i := 11) (N := (some 50)) (v := ?_) (a' := ?_) #[true, true, false, false, false, false, false, false, false, true, true, true, false, false, false, false, false, false, false, false, false, false, false, false, false] rfl rfl (any_of HT_.out (by kernel_rfl)) (fun _ _ _ h => h) (Or.inl ⟨by rfl, ?_⟩) ?_ ?_
      rotate_left
      · intro w'
        first | (go_simp; with_reducible rfl) | (go_simp; simp only [qN]; rfl)
      rotate_left
      · simp only [Act.put, List.setIfInBounds_toArray, List.set_cons_zero, List.set_cons_succ, i64_w, i32_w]
        rfl
      refine pure_ (i := 2) (N := (some 41)) (v := ?_) (a' := ?_) #[true, true, true, false, false, false, false, false, false, true, true, true, false, false, false, false, false, false, false, false, false, false, false, false, false] rfl rfl (any_of HT_.out (by kernel_rfl)) (fun _ _ _ h => h) (Or.inl ⟨by rfl, ?_⟩) ?_ ?_
      rotate_left
      · intro w'
        go_simp
        with_reducible rfl
      rotate_left
      · simp only [Act.put, List.setIfInBounds_toArray, List.set_cons_zero, List.set_cons_succ, i64_w, i32_w]
        rfl
      refine pure_ (i := 3) (N := (some 42)) (v := ?_) (a' := ?_) #[true, true, true, true, false, false, false, false, false, true, true, true, false, false, false, false, false, false, false, false, false, false, false, false, false] rfl rfl (any_of HT_.out (by kernel_rfl)) (fun _ _ _ h => h) (Or.inl ⟨by rfl, ?_⟩) ?_ ?_
      rotate_left
      · intro w'
        go_simp
        with_reducible rfl
      rotate_left
      · simp only [Act.put, List.setIfInBounds_toArray, List.set_cons_zero, List.set_cons_succ, i64_w, i32_w]
        rfl
      refine pure_ (i := 4) (N := (some 43)) (v := ?_) (a' := ?_) #[true, true, true, true, true, false, false, false, false, true, true, true, false, false, false, false, false, false, false, false, false, false, false, false, false] rfl rfl (any_of HT_.out (by kernel_rfl)) (fun _ _ _ h => h) (Or.inl ⟨by rfl, ?_⟩) ?_ ?_
      rotate_left
      · intro w'
        go_simp
        with_reducible rfl
      rotate_left
      · simp only [Act.put, List.setIfInBounds_toArray, List.set_cons_zero, List.set_cons_succ, i64_w, i32_w]
        rfl
      refine take_ (i := 5) (N := (some 44)) (v := ?_) (a' := ?_) #[true, true, true, true, true, true, false, false, false, true, true, true, false, false, false, false, false, false, false, false, false, false, false, false, false] rfl rfl (take_ofW HT_.out HW_.out (by kernel_rfl)) (fun _ _ _ h => h) (Or.inl ⟨by rfl, ?_⟩) hHeld ?_ ?_
      rotate_left
      · rintro w' ⟨s0, s1, s2, s3⟩
        go_simp
        with_reducible rfl
      rotate_left
      · simp only [Act.put, List.setIfInBounds_toArray, List.set_cons_zero, List.set_cons_succ, i64_w, i32_w]
        rfl
      refine take_ (i := 6) (N := (some 45)) (v := ?_) (a' := ?_) #[true, true, true, true, true, true, true, false, false, true, true, true, false, false, false, false, false, false, false, false, false, false, false, false, false] rfl rfl (take_ofW HT_.out HW_.out (by kernel_rfl)) (fun _ _ _ h => h) (Or.inl ⟨by rfl, ?_⟩) hHeld ?_ ?_
      rotate_left
      · rintro w' ⟨s0, s1, s2, s3⟩
        go_simp
        with_reducible rfl
      rotate_left
      · simp only [Act.put, List.setIfInBounds_toArray, List.set_cons_zero, List.set_cons_succ, i64_w, i32_w]
        rfl
      refine one_ (i := 7) (N := (some 46)) #[true, true, true, true, true, true, true, true, false, true, true, true, false, false, false, false, false, false, false, false, false, false, false, false, false] rfl rfl (one_of HT_.out (by kernel_rfl)) (by decide) (fun K hK => ?_)
      refine goesc_ Try.func26 (cs := #[.pointer (some ⟨gx, 0, none⟩), .pointer (some ⟨gy, 0, none⟩)]) (by kernel_rfl) rfl #[.agg #[.int .i64 qx, .int .i64 qy], .agg #[.int .i64 px, .int .i64 py], .pointer (some ⟨gx, 0, none⟩), .pointer (some ⟨gy, 0, none⟩)] (by rfl) rfl rfl (by rfl) (by (try simp only [List.map_toArray, List.map_cons, List.map_nil]); first | done | rfl) ?_
      with_reducible refine (HC2.out gx gy _ hx3 hy3 (World.block_lt_of_cell? _ _ hx3) (World.block_lt_of_cell? _ _ hy3)).mono ?_
      rintro e w3 ⟨rfl, hb⟩
      refine ⟨_, rfl, ?_⟩
      have p0' := (hb.cell (World.block_lt_of_cell? _ _ p0)).trans p0; clear p0; have p0 := p0'; clear p0'
      have p1' := (hb.cell (World.block_lt_of_cell? _ _ p1)).trans p1; clear p1; have p1 := p1'; clear p1'
      have q0' := (hb.cell (World.block_lt_of_cell? _ _ q0)).trans q0; clear q0; have q0 := q0'; clear q0'
      have q1' := (hb.cell (World.block_lt_of_cell? _ _ q1)).trans q1; clear q1; have q1 := q1'; clear q1'
      have hx3' := (hb.cell (World.block_lt_of_cell? _ _ hx3)).trans hx3; clear hx3; have hx3 := hx3'; clear hx3'
      have hy3' := (hb.cell (World.block_lt_of_cell? _ _ hy3)).trans hy3; clear hy3; have hy3 := hy3'; clear hy3'
      have HB1' := Aside0.mk (below_step HB1.out hb); clear HB1; have HB1 := HB1'; clear HB1' hb
      have hHeld2 : _ ∧ _ ∧ _ ∧ _ := ⟨p0, p1, q0, q1⟩
      clear hHeld
      refine hK.out _ _ hHeld2 (fun hHeld => ?_)
      clear hK K hHeld2
      refine norm_ (a' := ?_) ?_ ?_
      rotate_left
      · show Act.put _ (some 46) _ = _
        simp only [Act.put, List.setIfInBounds_toArray, List.set_cons_zero, List.set_cons_succ, i64_w, i32_w]
        rfl
      refine pure_ (i := 8) (N := (some 47)) (v := ?_) (a' := ?_) #[true, true, true, true, true, true, true, true, true, true, true, true, false, false, false, false, false, false, false, false, false, false, false, false, false] rfl rfl (any_of HT_.out (by kernel_rfl)) (fun _ _ _ h => h) (Or.inl ⟨by rfl, ?_⟩) ?_ ?_
      rotate_left
      · intro w'
        go_simp
        with_reducible rfl
      rotate_left
      · simp only [Act.put, List.setIfInBounds_toArray, List.set_cons_zero, List.set_cons_succ, i64_w, i32_w]
        rfl
      refine pure_ (i := 12) (N := (some 51)) (v := ?_) (a' := ?_) #[true, true, true, true, true, true, true, true, true, true, true, true, true, false, false, false, false, false, false, false, false, false, false, false, false] rfl rfl (any_of HT_.out (by kernel_rfl)) (fun _ _ _ h => h) (Or.inl ⟨by rfl, ?_⟩) ?_ ?_
      rotate_left
      · intro w'
        go_simp
        with_reducible rfl
      rotate_left
      · simp only [Act.put, List.setIfInBounds_toArray, List.set_cons_zero, List.set_cons_succ, i64_w, i32_w]
        rfl
      refine pure_ (i := 13) (N := (some 52)) (v := ?_) (a' := ?_) #[true, true, true, true, true, true, true, true, true, true, true, true, true, true, false, false, false, false, false, false, false, false, false, false, false] rfl rfl (any_of HT_.out (by kernel_rfl)) (fun _ _ _ h => h) (Or.inl ⟨by rfl, ?_⟩) ?_ ?_
      rotate_left
      · intro w'
        go_simp
        with_reducible rfl
      rotate_left
      · simp only [Act.put, List.setIfInBounds_toArray, List.set_cons_zero, List.set_cons_succ, i64_w, i32_w]
        rfl
      refine pure_ (i := 14) (N := (some 53)) (v := ?_) (a' := ?_) #[true, true, true, true, true, true, true, true, true, true, true, true, true, true, true, false, false, false, false, false, false, false, false, false, false] rfl rfl (any_of HT_.out (by kernel_rfl)) (fun _ _ _ h => h) (Or.inl ⟨by rfl, ?_⟩) ?_ ?_
      rotate_left
      · intro w'
        go_simp
        with_reducible rfl
      rotate_left
      · simp only [Act.put, List.setIfInBounds_toArray, List.set_cons_zero, List.set_cons_succ, i64_w, i32_w]
        rfl
      refine pure_ (i := 15) (N := (some 54)) (v := ?_) (a' := ?_) #[true, true, true, true, true, true, true, true, true, true, true, true, true, true, true, true, false, false, false, false, false, false, false, false, false] rfl rfl (any_of HT_.out (by kernel_rfl)) (fun _ _ _ h => h) (Or.inl ⟨by rfl, ?_⟩) ?_ ?_
      rotate_left
      · intro w'
        go_simp
        with_reducible rfl
      rotate_left
      · simp only [Act.put, List.setIfInBounds_toArray, List.set_cons_zero, List.set_cons_succ, i64_w, i32_w]
        rfl
      refine pure_ (i := 16) (N := (some 55)) (v := ?_) (a' := ?_) #[true, true, true, true, true, true, true, true, true, true, true, true, true, true, true, true, true, false, false, false, false, false, false, false, false] rfl rfl (any_of HT_.out (by kernel_rfl)) (fun _ _ _ h => h) (Or.inl ⟨by rfl, ?_⟩) ?_ ?_
      rotate_left
      · intro w'
        go_simp
        with_reducible rfl
      rotate_left
      · simp only [Act.put, List.setIfInBounds_toArray, List.set_cons_zero, List.set_cons_succ, i64_w, i32_w]
        rfl
      refine pure_ (i := 17) (N := (some 56)) (v := undef) (a' := ?_) #[true, true, true, true, true, true, true, true, true, true, true, true, true, true, true, true, true, true, false, false, false, false, false, false, false] rfl rfl (any_of HT_.out (by kernel_rfl)) (fun _ _ _ h => h) (Or.inr ⟨by rfl, rfl⟩) ?_ ?_
      rotate_left
      · simp only [Act.put, List.setIfInBounds_toArray, List.set_cons_zero, List.set_cons_succ, i64_w, i32_w]
        rfl
      refine pure_ (i := 18) (N := (some 57)) (v := undef) (a' := ?_) #[true, true, true, true, true, true, true, true, true, true, true, true, true, true, true, true, true, true, true, false, false, false, false, false, false] rfl rfl (any_of HT_.out (by kernel_rfl)) (fun _ _ _ h => h) (Or.inr ⟨by rfl, rfl⟩) ?_ ?_
      rotate_left
      · simp only [Act.put, List.setIfInBounds_toArray, List.set_cons_zero, List.set_cons_succ, i64_w, i32_w]
        rfl
      refine pure_ (i := 19) (N := (some 58)) (v := undef) (a' := ?_) #[true, true, true, true, true, true, true, true, true, true, true, true, true, true, true, true, true, true, true, true, false, false, false, false, false] rfl rfl (any_of HT_.out (by kernel_rfl)) (fun _ _ _ h => h) (Or.inr ⟨by rfl, rfl⟩) ?_ ?_
      rotate_left
      · simp only [Act.put, List.setIfInBounds_toArray, List.set_cons_zero, List.set_cons_succ, i64_w, i32_w]
        rfl
      refine pure_ (i := 20) (N := (some 59)) (v := undef) (a' := ?_) #[true, true, true, true, true, true, true, true, true, true, true, true, true, true, true, true, true, true, true, true, true, false, false, false, false] rfl rfl (any_of HT_.out (by kernel_rfl)) (fun _ _ _ h => h) (Or.inr ⟨by rfl, rfl⟩) ?_ ?_
      rotate_left
      · simp only [Act.put, List.setIfInBounds_toArray, List.set_cons_zero, List.set_cons_succ, i64_w, i32_w]
        rfl
      refine pure_ (i := 21) (N := (some 60)) (v := ?_) (a' := ?_) #[true, true, true, true, true, true, true, true, true, true, true, true, true, true, true, true, true, true, true, true, true, true, false, false, false] rfl rfl (any_of HT_.out (by kernel_rfl)) (fun _ _ _ h => h) (Or.inl ⟨by rfl, ?_⟩) ?_ ?_
      rotate_left
      · intro w'
        go_simp
        with_reducible rfl
      rotate_left
      · simp only [Act.put, List.setIfInBounds_toArray, List.set_cons_zero, List.set_cons_succ, i64_w, i32_w]
        rfl
      refine pure_ (i := 22) (N := (some 61)) (v := ?_) (a' := ?_) #[true, true, true, true, true, true, true, true, true, true, true, true, true, true, true, true, true, true, true, true, true, true, true, false, false] rfl rfl (any_of HT_.out (by kernel_rfl)) (fun _ _ _ h => h) (Or.inl ⟨by rfl, ?_⟩) ?_ ?_
      rotate_left
      · intro w'
        go_simp
        with_reducible rfl
      rotate_left
      · simp only [Act.put, List.setIfInBounds_toArray, List.set_cons_zero, List.set_cons_succ, i64_w, i32_w]
        rfl
      refine pure_ (i := 23) (N := (some 62)) (v := ?_) (a' := ?_) #[true, true, true, true, true, true, true, true, true, true, true, true, true, true, true, true, true, true, true, true, true, true, true, true, false] rfl rfl (any_of HT_.out (by kernel_rfl)) (fun _ _ _ h => h) (Or.inl ⟨by rfl, ?_⟩) ?_ ?_
      rotate_left
      · intro w'
        go_simp
        with_reducible rfl
      rotate_left
      · simp only [Act.put, List.setIfInBounds_toArray, List.set_cons_zero, List.set_cons_succ, i64_w, i32_w]
        rfl
      refine pure_ (i := 24) (N := (some 6)) (v := ?_) (a' := ?_) #[true, true, true, true, true, true, true, true, true, true, true, true, true, true, true, true, true, true, true, true, true, true, true, true, true] rfl rfl (any_of HT_.out (by kernel_rfl)) (fun _ _ _ h => h) (Or.inl ⟨by rfl, ?_⟩) ?_ ?_
      rotate_left
      · intro w'
        go_simp
        with_reducible rfl
      rotate_left
      · simp only [Act.put, List.setIfInBounds_toArray, List.set_cons_zero, List.set_cons_succ, i64_w, i32_w]
        rfl
      refine done_ (done_of HT_.out (by kernel_rfl)) ?_
      try go_wp2_with fail
      go_ret
      exact ⟨by first | rfl | simp, HB1.out⟩
  · subst e3 e4
    clear e2
    simp only [Bool.or_true, Bool.true_or, Bool.or_false] at qN
    go_enter Try.func6, Try.ntmps6
    go_wp2_with fail
    go_region
    · go_wp2_with (first | (go_at_call 17; (with_reducible refine (HC0.out _).mono ?_); rintro e w1 ⟨v1, rfl, ha, hb⟩; (obtain ⟨gx, gy, rfl, _, _, hx2, hy2, hx3, hy3⟩ := ha); have a0 := (hb.cell (p := ⟨w.heap.size, 0, none⟩) (by first | (simp; done) | (simp; omega))).trans (show _ = some (.int .i64 ax) by (go_simp; done)); have a1 := (hb.cell (p := ⟨w.heap.size, 1, none⟩) (by first | (simp; done) | (simp; omega))).trans (show _ = some (.int .i64 ay) by (go_simp; done)); have b0 := (hb.cell (p := ⟨w.heap.size + 1, 0, none⟩) (by first | (simp; done) | (simp; omega))).trans (show _ = some (.int .i64 bx) by (go_simp; done)); have b1 := (hb.cell (p := ⟨w.heap.size + 1, 1, none⟩) (by first | (simp; done) | (simp; omega))).trans (show _ = some (.int .i64 yb) by (go_simp; done)); have p0 := (hb.cell (p := ⟨w.heap.size + 1 + 1 + 1, 0, none⟩) (by first | (simp; done) | (simp; omega))).trans (show _ = some (.int .i64 px) by (go_simp; done)); have p1 := (hb.cell (p := ⟨w.heap.size + 1 + 1 + 1, 1, none⟩) (by first | (simp; done) | (simp; omega))).trans (show _ = some (.int .i64 py) by (go_simp; done)); have q0 := (hb.cell (p := ⟨w.heap.size + 1 + 1 + 1 + 1, 0, none⟩) (by first | (simp; done) | (simp; omega))).trans (show _ = some (.int .i64 qx) by (go_simp; done)); have q1 := (hb.cell (p := ⟨w.heap.size + 1 + 1 + 1 + 1, 1, none⟩) (by first | (simp; done) | (simp; omega))).trans (show _ = some (.int .i64 qy) by (go_simp; done)); have HB1 := Aside0.mk (below_step (show Below w.heap.size w _ from (by repeat (first | exact Below.refl _ _ | (refine Below.drew ?_) | (refine Below.setCell ?_ (by first | (simp; done) | (simp; omega)) _) | (refine Below.alloc ?_ (by first | (simp; done) | (simp; omega)) _)))) hb); clear hb hx2 hy2) | (go_at_call 26; (with_reducible refine (HC1.out gx gy _ hx3 hy3 (World.block_lt_of_cell? _ _ hx3) (World.block_lt_of_cell? _ _ hy3)).mono ?_); rintro e w2 ⟨rfl, hb⟩; have a0' := (hb.cell (World.block_lt_of_cell? _ _ a0)).trans a0; clear a0; have a0 := a0'; clear a0'; have a1' := (hb.cell (World.block_lt_of_cell? _ _ a1)).trans a1; clear a1; have a1 := a1'; clear a1'; have b0' := (hb.cell (World.block_lt_of_cell? _ _ b0)).trans b0; clear b0; have b0 := b0'; clear b0'; have b1' := (hb.cell (World.block_lt_of_cell? _ _ b1)).trans b1; clear b1; have b1 := b1'; clear b1'; have p0' := (hb.cell (World.block_lt_of_cell? _ _ p0)).trans p0; clear p0; have p0 := p0'; clear p0'; have p1' := (hb.cell (World.block_lt_of_cell? _ _ p1)).trans p1; clear p1; have p1 := p1'; clear p1'; have q0' := (hb.cell (World.block_lt_of_cell? _ _ q0)).trans q0; clear q0; have q0 := q0'; clear q0'; have q1' := (hb.cell (World.block_lt_of_cell? _ _ q1)).trans q1; clear q1; have q1 := q1'; clear q1'; have hx3' := (hb.cell (World.block_lt_of_cell? _ _ hx3)).trans hx3; clear hx3; have hx3 := hx3'; clear hx3'; have hy3' := (hb.cell (World.block_lt_of_cell? _ _ hy3)).trans hy3; clear hy3; have hy3 := hy3'; clear hy3'; have HB1' := Aside0.mk (below_step HB1.out hb); clear HB1; have HB1 := HB1'; clear HB1' hb) | (go_at_call 18; (with_reducible refine (HC3.out _).mono ?_); rintro e w2 ⟨rfl, hb⟩; have a0' := (hb.cell (World.block_lt_of_cell? _ _ a0)).trans a0; clear a0; have a0 := a0'; clear a0'; have a1' := (hb.cell (World.block_lt_of_cell? _ _ a1)).trans a1; clear a1; have a1 := a1'; clear a1'; have b0' := (hb.cell (World.block_lt_of_cell? _ _ b0)).trans b0; clear b0; have b0 := b0'; clear b0'; have b1' := (hb.cell (World.block_lt_of_cell? _ _ b1)).trans b1; clear b1; have b1 := b1'; clear b1'; have p0' := (hb.cell (World.block_lt_of_cell? _ _ p0)).trans p0; clear p0; have p0 := p0'; clear p0'; have p1' := (hb.cell (World.block_lt_of_cell? _ _ p1)).trans p1; clear p1; have p1 := p1'; clear p1'; have q0' := (hb.cell (World.block_lt_of_cell? _ _ q0)).trans q0; clear q0; have q0 := q0'; clear q0'; have q1' := (hb.cell (World.block_lt_of_cell? _ _ q1)).trans q1; clear q1; have q1 := q1'; clear q1'; have hx3' := (hb.cell (World.block_lt_of_cell? _ _ hx3)).trans hx3; clear hx3; have hx3 := hx3'; clear hx3'; have hy3' := (hb.cell (World.block_lt_of_cell? _ _ hy3)).trans hy3; clear hy3; have hy3 := hy3'; clear hy3'; have HB1' := Aside0.mk (below_step HB1.out hb); clear HB1; have HB1 := HB1'; clear HB1' hb))
      have hb := below_drew (Below.refl w2.heap.size w2)
      refine start_ (n := 25) (S := fun W => W.cell? ⟨w.heap.size + 1 + 1 + 1, 0, none⟩ = some (.int .i64 px) ∧ W.cell? ⟨w.heap.size + 1 + 1 + 1, 1, none⟩ = some (.int .i64 py) ∧ W.cell? ⟨w.heap.size + 1 + 1 + 1 + 1, 0, none⟩ = some (.int .i64 qx) ∧ W.cell? ⟨w.heap.size + 1 + 1 + 1 + 1, 1, none⟩ = some (.int .i64 qy)) (ds := []) #[false, false, false, false, false, false, false, false, false, false, false, false, false, false, false, false, false, false, false, false, false, false, false, false, false] (by kernel_rfl) rfl rfl ⟨p0, p1, q0, q1⟩ (fun hHeld => ?_); refine with_tabW OrderAlong_calls.tab8 OrderAlong_calls.bits8 (fun HT_ HW_ => ?_)
      generalize hw0 : w2.drew = w0 at hb hHeld ⊢
      have p0' := (hb.cell (World.block_lt_of_cell? _ _ p0)).trans p0; clear p0; have p0 := p0'; clear p0'
      have p1' := (hb.cell (World.block_lt_of_cell? _ _ p1)).trans p1; clear p1; have p1 := p1'; clear p1'
      have q0' := (hb.cell (World.block_lt_of_cell? _ _ q0)).trans q0; clear q0; have q0 := q0'; clear q0'
      have q1' := (hb.cell (World.block_lt_of_cell? _ _ q1)).trans q1; clear q1; have q1 := q1'; clear q1'
      have hx3' := (hb.cell (World.block_lt_of_cell? _ _ hx3)).trans hx3; clear hx3; have hx3 := hx3'; clear hx3'
      have hy3' := (hb.cell (World.block_lt_of_cell? _ _ hy3)).trans hy3; clear hy3; have hy3 := hy3'; clear hy3'
      have HB1' := Aside0.mk (below_step HB1.out hb); clear HB1; have HB1 := HB1'; clear HB1' hb
      clear hw0
      refine one_ (i := 0) (N := (some 39)) #[true, false, false, false, false, false, false, false, false, false, false, false, false, false, false, false, false, false, false, false, false, false, false, false, false] rfl rfl (one_of HT_.out (by kernel_rfl)) (by decide) (fun K hK => ?_)
      refine goes_ Try.func8 (by kernel_rfl) rfl #[] (by rfl) rfl rfl (by (try simp only [List.map_toArray, List.map_cons, List.map_nil]); first | done | rfl) ?_
      with_reducible refine (cobweblaw07_alive.calls0 _).mono ?_
      rintro e w3 ⟨rfl, hb⟩
      refine ⟨_, rfl, ?_⟩
      have p0' := (hb.cell (World.block_lt_of_cell? _ _ p0)).trans p0; clear p0; have p0 := p0'; clear p0'
      have p1' := (hb.cell (World.block_lt_of_cell? _ _ p1)).trans p1; clear p1; have p1 := p1'; clear p1'
      have q0' := (hb.cell (World.block_lt_of_cell? _ _ q0)).trans q0; clear q0; have q0 := q0'; clear q0'
      have q1' := (hb.cell (World.block_lt_of_cell? _ _ q1)).trans q1; clear q1; have q1 := q1'; clear q1'
      have hx3' := (hb.cell (World.block_lt_of_cell? _ _ hx3)).trans hx3; clear hx3; have hx3 := hx3'; clear hx3'
      have hy3' := (hb.cell (World.block_lt_of_cell? _ _ hy3)).trans hy3; clear hy3; have hy3 := hy3'; clear hy3'
      have HB1' := Aside0.mk (below_step HB1.out hb); clear HB1; have HB1 := HB1'; clear HB1' hb
      have hHeld2 : _ ∧ _ ∧ _ ∧ _ := ⟨p0, p1, q0, q1⟩
      clear hHeld
      refine hK.out _ _ hHeld2 (fun hHeld => ?_)
      clear hK K hHeld2
      refine norm_ (a' := ?_) ?_ ?_
      rotate_left
      · show Act.put _ (some 39) _ = _
        simp only [Act.put, List.setIfInBounds_toArray, List.set_cons_zero, List.set_cons_succ, i64_w, i32_w]
        rfl
      refine pure_ (i := 1) (N := (some 40)) (v := ?_) (a' := ?_) #[true, true, false, false, false, false, false, false, false, false, false, false, false, false, false, false, false, false, false, false, false, false, false, false, false] rfl rfl (any_of HT_.out (by kernel_rfl)) (fun _ _ _ h => h) (Or.inl ⟨by rfl, ?_⟩) ?_ ?_
      rotate_left
      · intro w'
        go_simp
        with_reducible rfl
      rotate_left
      · simp only [Act.put, List.setIfInBounds_toArray, List.set_cons_zero, List.set_cons_succ, i64_w, i32_w]
        rfl
      refine take_ (i := 9) (N := (some 48)) (v := ?_) (a' := ?_) #[true, true, false, false, false, false, false, false, false, true, false, false, false, false, false, false, false, false, false, false, false, false, false, false, false] rfl rfl (take_ofW HT_.out HW_.out (by kernel_rfl)) (fun _ _ _ h => h) (Or.inl ⟨by rfl, ?_⟩) hHeld ?_ ?_
      rotate_left
      · rintro w' ⟨s0, s1, s2, s3⟩
        go_simp
        with_reducible rfl
      rotate_left
      · simp only [Act.put, List.setIfInBounds_toArray, List.set_cons_zero, List.set_cons_succ, i64_w, i32_w]
        rfl
      refine take_ (i := 10) (N := (some 49)) (v := ?_) (a' := ?_) #[true, true, false, false, false, false, false, false, false, true, true, false, false, false, false, false, false, false, false, false, false, false, false, false, false] rfl rfl (take_ofW HT_.out HW_.out (by kernel_rfl)) (fun _ _ _ h => h) (Or.inl ⟨by rfl, ?_⟩) hHeld ?_ ?_
      rotate_left
      · rintro w' ⟨s0, s1, s2, s3⟩
        go_simp
        with_reducible rfl
      rotate_left
      · simp only [Act.put, List.setIfInBounds_toArray, List.set_cons_zero, List.set_cons_succ, i64_w, i32_w]
        rfl
      refine pure_ (i := 11) (N := (some 50)) (v := ?_) (a' := ?_) #[true, true, false, false, false, false, false, false, false, true, true, true, false, false, false, false, false, false, false, false, false, false, false, false, false] rfl rfl (any_of HT_.out (by kernel_rfl)) (fun _ _ _ h => h) (Or.inl ⟨by rfl, ?_⟩) ?_ ?_
      rotate_left
      · intro w'
        first | (go_simp; with_reducible rfl) | (go_simp; simp only [qN]; rfl)
      rotate_left
      · simp only [Act.put, List.setIfInBounds_toArray, List.set_cons_zero, List.set_cons_succ, i64_w, i32_w]
        rfl
      refine pure_ (i := 2) (N := (some 41)) (v := ?_) (a' := ?_) #[true, true, true, false, false, false, false, false, false, true, true, true, false, false, false, false, false, false, false, false, false, false, false, false, false] rfl rfl (any_of HT_.out (by kernel_rfl)) (fun _ _ _ h => h) (Or.inl ⟨by rfl, ?_⟩) ?_ ?_
      rotate_left
      · intro w'
        go_simp
        with_reducible rfl
      rotate_left
      · simp only [Act.put, List.setIfInBounds_toArray, List.set_cons_zero, List.set_cons_succ, i64_w, i32_w]
        rfl
      refine pure_ (i := 3) (N := (some 42)) (v := ?_) (a' := ?_) #[true, true, true, true, false, false, false, false, false, true, true, true, false, false, false, false, false, false, false, false, false, false, false, false, false] rfl rfl (any_of HT_.out (by kernel_rfl)) (fun _ _ _ h => h) (Or.inl ⟨by rfl, ?_⟩) ?_ ?_
      rotate_left
      · intro w'
        go_simp
        with_reducible rfl
      rotate_left
      · simp only [Act.put, List.setIfInBounds_toArray, List.set_cons_zero, List.set_cons_succ, i64_w, i32_w]
        rfl
      refine pure_ (i := 4) (N := (some 43)) (v := ?_) (a' := ?_) #[true, true, true, true, true, false, false, false, false, true, true, true, false, false, false, false, false, false, false, false, false, false, false, false, false] rfl rfl (any_of HT_.out (by kernel_rfl)) (fun _ _ _ h => h) (Or.inl ⟨by rfl, ?_⟩) ?_ ?_
      rotate_left
      · intro w'
        go_simp
        with_reducible rfl
      rotate_left
      · simp only [Act.put, List.setIfInBounds_toArray, List.set_cons_zero, List.set_cons_succ, i64_w, i32_w]
        rfl
      refine take_ (i := 5) (N := (some 44)) (v := ?_) (a' := ?_) #[true, true, true, true, true, true, false, false, false, true, true, true, false, false, false, false, false, false, false, false, false, false, false, false, false] rfl rfl (take_ofW HT_.out HW_.out (by kernel_rfl)) (fun _ _ _ h => h) (Or.inl ⟨by rfl, ?_⟩) hHeld ?_ ?_
      rotate_left
      · rintro w' ⟨s0, s1, s2, s3⟩
        go_simp
        with_reducible rfl
      rotate_left
      · simp only [Act.put, List.setIfInBounds_toArray, List.set_cons_zero, List.set_cons_succ, i64_w, i32_w]
        rfl
      refine take_ (i := 6) (N := (some 45)) (v := ?_) (a' := ?_) #[true, true, true, true, true, true, true, false, false, true, true, true, false, false, false, false, false, false, false, false, false, false, false, false, false] rfl rfl (take_ofW HT_.out HW_.out (by kernel_rfl)) (fun _ _ _ h => h) (Or.inl ⟨by rfl, ?_⟩) hHeld ?_ ?_
      rotate_left
      · rintro w' ⟨s0, s1, s2, s3⟩
        go_simp
        with_reducible rfl
      rotate_left
      · simp only [Act.put, List.setIfInBounds_toArray, List.set_cons_zero, List.set_cons_succ, i64_w, i32_w]
        rfl
      refine one_ (i := 7) (N := (some 46)) #[true, true, true, true, true, true, true, true, false, true, true, true, false, false, false, false, false, false, false, false, false, false, false, false, false] rfl rfl (one_of HT_.out (by kernel_rfl)) (by decide) (fun K hK => ?_)
      refine goesc_ Try.func26 (cs := #[.pointer (some ⟨gx, 0, none⟩), .pointer (some ⟨gy, 0, none⟩)]) (by kernel_rfl) rfl #[.agg #[.int .i64 qx, .int .i64 qy], .agg #[.int .i64 px, .int .i64 py], .pointer (some ⟨gx, 0, none⟩), .pointer (some ⟨gy, 0, none⟩)] (by rfl) rfl rfl (by rfl) (by (try simp only [List.map_toArray, List.map_cons, List.map_nil]); first | done | rfl) ?_
      with_reducible refine (HC2.out gx gy _ hx3 hy3 (World.block_lt_of_cell? _ _ hx3) (World.block_lt_of_cell? _ _ hy3)).mono ?_
      rintro e w3 ⟨rfl, hb⟩
      refine ⟨_, rfl, ?_⟩
      have p0' := (hb.cell (World.block_lt_of_cell? _ _ p0)).trans p0; clear p0; have p0 := p0'; clear p0'
      have p1' := (hb.cell (World.block_lt_of_cell? _ _ p1)).trans p1; clear p1; have p1 := p1'; clear p1'
      have q0' := (hb.cell (World.block_lt_of_cell? _ _ q0)).trans q0; clear q0; have q0 := q0'; clear q0'
      have q1' := (hb.cell (World.block_lt_of_cell? _ _ q1)).trans q1; clear q1; have q1 := q1'; clear q1'
      have hx3' := (hb.cell (World.block_lt_of_cell? _ _ hx3)).trans hx3; clear hx3; have hx3 := hx3'; clear hx3'
      have hy3' := (hb.cell (World.block_lt_of_cell? _ _ hy3)).trans hy3; clear hy3; have hy3 := hy3'; clear hy3'
      have HB1' := Aside0.mk (below_step HB1.out hb); clear HB1; have HB1 := HB1'; clear HB1' hb
      have hHeld2 : _ ∧ _ ∧ _ ∧ _ := ⟨p0, p1, q0, q1⟩
      clear hHeld
      refine hK.out _ _ hHeld2 (fun hHeld => ?_)
      clear hK K hHeld2
      refine norm_ (a' := ?_) ?_ ?_
      rotate_left
      · show Act.put _ (some 46) _ = _
        simp only [Act.put, List.setIfInBounds_toArray, List.set_cons_zero, List.set_cons_succ, i64_w, i32_w]
        rfl
      refine pure_ (i := 8) (N := (some 47)) (v := ?_) (a' := ?_) #[true, true, true, true, true, true, true, true, true, true, true, true, false, false, false, false, false, false, false, false, false, false, false, false, false] rfl rfl (any_of HT_.out (by kernel_rfl)) (fun _ _ _ h => h) (Or.inl ⟨by rfl, ?_⟩) ?_ ?_
      rotate_left
      · intro w'
        go_simp
        with_reducible rfl
      rotate_left
      · simp only [Act.put, List.setIfInBounds_toArray, List.set_cons_zero, List.set_cons_succ, i64_w, i32_w]
        rfl
      refine pure_ (i := 12) (N := (some 51)) (v := ?_) (a' := ?_) #[true, true, true, true, true, true, true, true, true, true, true, true, true, false, false, false, false, false, false, false, false, false, false, false, false] rfl rfl (any_of HT_.out (by kernel_rfl)) (fun _ _ _ h => h) (Or.inl ⟨by rfl, ?_⟩) ?_ ?_
      rotate_left
      · intro w'
        go_simp
        with_reducible rfl
      rotate_left
      · simp only [Act.put, List.setIfInBounds_toArray, List.set_cons_zero, List.set_cons_succ, i64_w, i32_w]
        rfl
      refine pure_ (i := 13) (N := (some 52)) (v := ?_) (a' := ?_) #[true, true, true, true, true, true, true, true, true, true, true, true, true, true, false, false, false, false, false, false, false, false, false, false, false] rfl rfl (any_of HT_.out (by kernel_rfl)) (fun _ _ _ h => h) (Or.inl ⟨by rfl, ?_⟩) ?_ ?_
      rotate_left
      · intro w'
        go_simp
        with_reducible rfl
      rotate_left
      · simp only [Act.put, List.setIfInBounds_toArray, List.set_cons_zero, List.set_cons_succ, i64_w, i32_w]
        rfl
      refine pure_ (i := 14) (N := (some 53)) (v := ?_) (a' := ?_) #[true, true, true, true, true, true, true, true, true, true, true, true, true, true, true, false, false, false, false, false, false, false, false, false, false] rfl rfl (any_of HT_.out (by kernel_rfl)) (fun _ _ _ h => h) (Or.inl ⟨by rfl, ?_⟩) ?_ ?_
      rotate_left
      · intro w'
        go_simp
        with_reducible rfl
      rotate_left
      · simp only [Act.put, List.setIfInBounds_toArray, List.set_cons_zero, List.set_cons_succ, i64_w, i32_w]
        rfl
      refine pure_ (i := 15) (N := (some 54)) (v := ?_) (a' := ?_) #[true, true, true, true, true, true, true, true, true, true, true, true, true, true, true, true, false, false, false, false, false, false, false, false, false] rfl rfl (any_of HT_.out (by kernel_rfl)) (fun _ _ _ h => h) (Or.inl ⟨by rfl, ?_⟩) ?_ ?_
      rotate_left
      · intro w'
        go_simp
        with_reducible rfl
      rotate_left
      · simp only [Act.put, List.setIfInBounds_toArray, List.set_cons_zero, List.set_cons_succ, i64_w, i32_w]
        rfl
      refine pure_ (i := 16) (N := (some 55)) (v := ?_) (a' := ?_) #[true, true, true, true, true, true, true, true, true, true, true, true, true, true, true, true, true, false, false, false, false, false, false, false, false] rfl rfl (any_of HT_.out (by kernel_rfl)) (fun _ _ _ h => h) (Or.inl ⟨by rfl, ?_⟩) ?_ ?_
      rotate_left
      · intro w'
        go_simp
        with_reducible rfl
      rotate_left
      · simp only [Act.put, List.setIfInBounds_toArray, List.set_cons_zero, List.set_cons_succ, i64_w, i32_w]
        rfl
      refine pure_ (i := 17) (N := (some 56)) (v := undef) (a' := ?_) #[true, true, true, true, true, true, true, true, true, true, true, true, true, true, true, true, true, true, false, false, false, false, false, false, false] rfl rfl (any_of HT_.out (by kernel_rfl)) (fun _ _ _ h => h) (Or.inr ⟨by rfl, rfl⟩) ?_ ?_
      rotate_left
      · simp only [Act.put, List.setIfInBounds_toArray, List.set_cons_zero, List.set_cons_succ, i64_w, i32_w]
        rfl
      refine pure_ (i := 18) (N := (some 57)) (v := undef) (a' := ?_) #[true, true, true, true, true, true, true, true, true, true, true, true, true, true, true, true, true, true, true, false, false, false, false, false, false] rfl rfl (any_of HT_.out (by kernel_rfl)) (fun _ _ _ h => h) (Or.inr ⟨by rfl, rfl⟩) ?_ ?_
      rotate_left
      · simp only [Act.put, List.setIfInBounds_toArray, List.set_cons_zero, List.set_cons_succ, i64_w, i32_w]
        rfl
      refine pure_ (i := 19) (N := (some 58)) (v := undef) (a' := ?_) #[true, true, true, true, true, true, true, true, true, true, true, true, true, true, true, true, true, true, true, true, false, false, false, false, false] rfl rfl (any_of HT_.out (by kernel_rfl)) (fun _ _ _ h => h) (Or.inr ⟨by rfl, rfl⟩) ?_ ?_
      rotate_left
      · simp only [Act.put, List.setIfInBounds_toArray, List.set_cons_zero, List.set_cons_succ, i64_w, i32_w]
        rfl
      refine pure_ (i := 20) (N := (some 59)) (v := undef) (a' := ?_) #[true, true, true, true, true, true, true, true, true, true, true, true, true, true, true, true, true, true, true, true, true, false, false, false, false] rfl rfl (any_of HT_.out (by kernel_rfl)) (fun _ _ _ h => h) (Or.inr ⟨by rfl, rfl⟩) ?_ ?_
      rotate_left
      · simp only [Act.put, List.setIfInBounds_toArray, List.set_cons_zero, List.set_cons_succ, i64_w, i32_w]
        rfl
      refine pure_ (i := 21) (N := (some 60)) (v := ?_) (a' := ?_) #[true, true, true, true, true, true, true, true, true, true, true, true, true, true, true, true, true, true, true, true, true, true, false, false, false] rfl rfl (any_of HT_.out (by kernel_rfl)) (fun _ _ _ h => h) (Or.inl ⟨by rfl, ?_⟩) ?_ ?_
      rotate_left
      · intro w'
        go_simp
        with_reducible rfl
      rotate_left
      · simp only [Act.put, List.setIfInBounds_toArray, List.set_cons_zero, List.set_cons_succ, i64_w, i32_w]
        rfl
      refine pure_ (i := 22) (N := (some 61)) (v := ?_) (a' := ?_) #[true, true, true, true, true, true, true, true, true, true, true, true, true, true, true, true, true, true, true, true, true, true, true, false, false] rfl rfl (any_of HT_.out (by kernel_rfl)) (fun _ _ _ h => h) (Or.inl ⟨by rfl, ?_⟩) ?_ ?_
      rotate_left
      · intro w'
        go_simp
        with_reducible rfl
      rotate_left
      · simp only [Act.put, List.setIfInBounds_toArray, List.set_cons_zero, List.set_cons_succ, i64_w, i32_w]
        rfl
      refine pure_ (i := 23) (N := (some 62)) (v := ?_) (a' := ?_) #[true, true, true, true, true, true, true, true, true, true, true, true, true, true, true, true, true, true, true, true, true, true, true, true, false] rfl rfl (any_of HT_.out (by kernel_rfl)) (fun _ _ _ h => h) (Or.inl ⟨by rfl, ?_⟩) ?_ ?_
      rotate_left
      · intro w'
        go_simp
        with_reducible rfl
      rotate_left
      · simp only [Act.put, List.setIfInBounds_toArray, List.set_cons_zero, List.set_cons_succ, i64_w, i32_w]
        rfl
      refine pure_ (i := 24) (N := (some 6)) (v := ?_) (a' := ?_) #[true, true, true, true, true, true, true, true, true, true, true, true, true, true, true, true, true, true, true, true, true, true, true, true, true] rfl rfl (any_of HT_.out (by kernel_rfl)) (fun _ _ _ h => h) (Or.inl ⟨by rfl, ?_⟩) ?_ ?_
      rotate_left
      · intro w'
        go_simp
        with_reducible rfl
      rotate_left
      · simp only [Act.put, List.setIfInBounds_toArray, List.set_cons_zero, List.set_cons_succ, i64_w, i32_w]
        rfl
      refine done_ (done_of HT_.out (by kernel_rfl)) ?_
      try go_wp2_with fail
      go_ret
      exact ⟨by first | rfl | simp, HB1.out⟩
    · go_wp2_with (first | (go_at_call 17; (with_reducible refine (HC0.out _).mono ?_); rintro e w1 ⟨v1, rfl, ha, hb⟩; (obtain ⟨gx, gy, rfl, _, _, hx2, hy2, hx3, hy3⟩ := ha); have a0 := (hb.cell (p := ⟨w.heap.size, 0, none⟩) (by first | (simp; done) | (simp; omega))).trans (show _ = some (.int .i64 ax) by (go_simp; done)); have a1 := (hb.cell (p := ⟨w.heap.size, 1, none⟩) (by first | (simp; done) | (simp; omega))).trans (show _ = some (.int .i64 ay) by (go_simp; done)); have b0 := (hb.cell (p := ⟨w.heap.size + 1, 0, none⟩) (by first | (simp; done) | (simp; omega))).trans (show _ = some (.int .i64 bx) by (go_simp; done)); have b1 := (hb.cell (p := ⟨w.heap.size + 1, 1, none⟩) (by first | (simp; done) | (simp; omega))).trans (show _ = some (.int .i64 yb) by (go_simp; done)); have p0 := (hb.cell (p := ⟨w.heap.size + 1 + 1 + 1 + 1, 0, none⟩) (by first | (simp; done) | (simp; omega))).trans (show _ = some (.int .i64 px) by (go_simp; done)); have p1 := (hb.cell (p := ⟨w.heap.size + 1 + 1 + 1 + 1, 1, none⟩) (by first | (simp; done) | (simp; omega))).trans (show _ = some (.int .i64 py) by (go_simp; done)); have q0 := (hb.cell (p := ⟨w.heap.size + 1 + 1 + 1, 0, none⟩) (by first | (simp; done) | (simp; omega))).trans (show _ = some (.int .i64 qx) by (go_simp; done)); have q1 := (hb.cell (p := ⟨w.heap.size + 1 + 1 + 1, 1, none⟩) (by first | (simp; done) | (simp; omega))).trans (show _ = some (.int .i64 qy) by (go_simp; done)); have HB1 := Aside0.mk (below_step (show Below w.heap.size w _ from (by repeat (first | exact Below.refl _ _ | (refine Below.drew ?_) | (refine Below.setCell ?_ (by first | (simp; done) | (simp; omega)) _) | (refine Below.alloc ?_ (by first | (simp; done) | (simp; omega)) _)))) hb); clear hb hx2 hy2) | (go_at_call 26; (with_reducible refine (HC1.out gx gy _ hx3 hy3 (World.block_lt_of_cell? _ _ hx3) (World.block_lt_of_cell? _ _ hy3)).mono ?_); rintro e w2 ⟨rfl, hb⟩; have a0' := (hb.cell (World.block_lt_of_cell? _ _ a0)).trans a0; clear a0; have a0 := a0'; clear a0'; have a1' := (hb.cell (World.block_lt_of_cell? _ _ a1)).trans a1; clear a1; have a1 := a1'; clear a1'; have b0' := (hb.cell (World.block_lt_of_cell? _ _ b0)).trans b0; clear b0; have b0 := b0'; clear b0'; have b1' := (hb.cell (World.block_lt_of_cell? _ _ b1)).trans b1; clear b1; have b1 := b1'; clear b1'; have p0' := (hb.cell (World.block_lt_of_cell? _ _ p0)).trans p0; clear p0; have p0 := p0'; clear p0'; have p1' := (hb.cell (World.block_lt_of_cell? _ _ p1)).trans p1; clear p1; have p1 := p1'; clear p1'; have q0' := (hb.cell (World.block_lt_of_cell? _ _ q0)).trans q0; clear q0; have q0 := q0'; clear q0'; have q1' := (hb.cell (World.block_lt_of_cell? _ _ q1)).trans q1; clear q1; have q1 := q1'; clear q1'; have hx3' := (hb.cell (World.block_lt_of_cell? _ _ hx3)).trans hx3; clear hx3; have hx3 := hx3'; clear hx3'; have hy3' := (hb.cell (World.block_lt_of_cell? _ _ hy3)).trans hy3; clear hy3; have hy3 := hy3'; clear hy3'; have HB1' := Aside0.mk (below_step HB1.out hb); clear HB1; have HB1 := HB1'; clear HB1' hb) | (go_at_call 18; (with_reducible refine (HC3.out _).mono ?_); rintro e w2 ⟨rfl, hb⟩; have a0' := (hb.cell (World.block_lt_of_cell? _ _ a0)).trans a0; clear a0; have a0 := a0'; clear a0'; have a1' := (hb.cell (World.block_lt_of_cell? _ _ a1)).trans a1; clear a1; have a1 := a1'; clear a1'; have b0' := (hb.cell (World.block_lt_of_cell? _ _ b0)).trans b0; clear b0; have b0 := b0'; clear b0'; have b1' := (hb.cell (World.block_lt_of_cell? _ _ b1)).trans b1; clear b1; have b1 := b1'; clear b1'; have p0' := (hb.cell (World.block_lt_of_cell? _ _ p0)).trans p0; clear p0; have p0 := p0'; clear p0'; have p1' := (hb.cell (World.block_lt_of_cell? _ _ p1)).trans p1; clear p1; have p1 := p1'; clear p1'; have q0' := (hb.cell (World.block_lt_of_cell? _ _ q0)).trans q0; clear q0; have q0 := q0'; clear q0'; have q1' := (hb.cell (World.block_lt_of_cell? _ _ q1)).trans q1; clear q1; have q1 := q1'; clear q1'; have hx3' := (hb.cell (World.block_lt_of_cell? _ _ hx3)).trans hx3; clear hx3; have hx3 := hx3'; clear hx3'; have hy3' := (hb.cell (World.block_lt_of_cell? _ _ hy3)).trans hy3; clear hy3; have hy3 := hy3'; clear hy3'; have HB1' := Aside0.mk (below_step HB1.out hb); clear HB1; have HB1 := HB1'; clear HB1' hb))
      have hb := below_drew (Below.refl w2.heap.size w2)
      refine start_ (n := 25) (S := fun W => W.cell? ⟨w.heap.size + 1 + 1 + 1 + 1, 0, none⟩ = some (.int .i64 px) ∧ W.cell? ⟨w.heap.size + 1 + 1 + 1 + 1, 1, none⟩ = some (.int .i64 py) ∧ W.cell? ⟨w.heap.size + 1 + 1 + 1, 0, none⟩ = some (.int .i64 qx) ∧ W.cell? ⟨w.heap.size + 1 + 1 + 1, 1, none⟩ = some (.int .i64 qy)) (ds := []) #[false, false, false, false, false, false, false, false, false, false, false, false, false, false, false, false, false, false, false, false, false, false, false, false, false] (by kernel_rfl) rfl rfl ⟨p0, p1, q0, q1⟩ (fun hHeld => ?_); refine with_tabW OrderAlong_calls.tab8 OrderAlong_calls.bits8 (fun HT_ HW_ => ?_)
      generalize hw0 : w2.drew = w0 at hb hHeld ⊢
      have p0' := (hb.cell (World.block_lt_of_cell? _ _ p0)).trans p0; clear p0; have p0 := p0'; clear p0'
      have p1' := (hb.cell (World.block_lt_of_cell? _ _ p1)).trans p1; clear p1; have p1 := p1'; clear p1'
      have q0' := (hb.cell (World.block_lt_of_cell? _ _ q0)).trans q0; clear q0; have q0 := q0'; clear q0'
      have q1' := (hb.cell (World.block_lt_of_cell? _ _ q1)).trans q1; clear q1; have q1 := q1'; clear q1'
      have hx3' := (hb.cell (World.block_lt_of_cell? _ _ hx3)).trans hx3; clear hx3; have hx3 := hx3'; clear hx3'
      have hy3' := (hb.cell (World.block_lt_of_cell? _ _ hy3)).trans hy3; clear hy3; have hy3 := hy3'; clear hy3'
      have HB1' := Aside0.mk (below_step HB1.out hb); clear HB1; have HB1 := HB1'; clear HB1' hb
      clear hw0
      refine one_ (i := 0) (N := (some 39)) #[true, false, false, false, false, false, false, false, false, false, false, false, false, false, false, false, false, false, false, false, false, false, false, false, false] rfl rfl (one_of HT_.out (by kernel_rfl)) (by decide) (fun K hK => ?_)
      refine goes_ Try.func8 (by kernel_rfl) rfl #[] (by rfl) rfl rfl (by (try simp only [List.map_toArray, List.map_cons, List.map_nil]); first | done | rfl) ?_
      with_reducible refine (cobweblaw07_alive.calls0 _).mono ?_
      rintro e w3 ⟨rfl, hb⟩
      refine ⟨_, rfl, ?_⟩
      have p0' := (hb.cell (World.block_lt_of_cell? _ _ p0)).trans p0; clear p0; have p0 := p0'; clear p0'
      have p1' := (hb.cell (World.block_lt_of_cell? _ _ p1)).trans p1; clear p1; have p1 := p1'; clear p1'
      have q0' := (hb.cell (World.block_lt_of_cell? _ _ q0)).trans q0; clear q0; have q0 := q0'; clear q0'
      have q1' := (hb.cell (World.block_lt_of_cell? _ _ q1)).trans q1; clear q1; have q1 := q1'; clear q1'
      have hx3' := (hb.cell (World.block_lt_of_cell? _ _ hx3)).trans hx3; clear hx3; have hx3 := hx3'; clear hx3'
      have hy3' := (hb.cell (World.block_lt_of_cell? _ _ hy3)).trans hy3; clear hy3; have hy3 := hy3'; clear hy3'
      have HB1' := Aside0.mk (below_step HB1.out hb); clear HB1; have HB1 := HB1'; clear HB1' hb
      have hHeld2 : _ ∧ _ ∧ _ ∧ _ := ⟨p0, p1, q0, q1⟩
      clear hHeld
      refine hK.out _ _ hHeld2 (fun hHeld => ?_)
      clear hK K hHeld2
      refine norm_ (a' := ?_) ?_ ?_
      rotate_left
      · show Act.put _ (some 39) _ = _
        simp only [Act.put, List.setIfInBounds_toArray, List.set_cons_zero, List.set_cons_succ, i64_w, i32_w]
        rfl
      refine pure_ (i := 1) (N := (some 40)) (v := ?_) (a' := ?_) #[true, true, false, false, false, false, false, false, false, false, false, false, false, false, false, false, false, false, false, false, false, false, false, false, false] rfl rfl (any_of HT_.out (by kernel_rfl)) (fun _ _ _ h => h) (Or.inl ⟨by rfl, ?_⟩) ?_ ?_
      rotate_left
      · intro w'
        go_simp
        with_reducible rfl
      rotate_left
      · simp only [Act.put, List.setIfInBounds_toArray, List.set_cons_zero, List.set_cons_succ, i64_w, i32_w]
        rfl
      refine take_ (i := 9) (N := (some 48)) (v := ?_) (a' := ?_) #[true, true, false, false, false, false, false, false, false, true, false, false, false, false, false, false, false, false, false, false, false, false, false, false, false] rfl rfl (take_ofW HT_.out HW_.out (by kernel_rfl)) (fun _ _ _ h => h) (Or.inl ⟨by rfl, ?_⟩) hHeld ?_ ?_
      rotate_left
      · rintro w' ⟨s0, s1, s2, s3⟩
        go_simp
        with_reducible rfl
      rotate_left
      · simp only [Act.put, List.setIfInBounds_toArray, List.set_cons_zero, List.set_cons_succ, i64_w, i32_w]
        rfl
      refine take_ (i := 10) (N := (some 49)) (v := ?_) (a' := ?_) #[true, true, false, false, false, false, false, false, false, true, true, false, false, false, false, false, false, false, false, false, false, false, false, false, false] rfl rfl (take_ofW HT_.out HW_.out (by kernel_rfl)) (fun _ _ _ h => h) (Or.inl ⟨by rfl, ?_⟩) hHeld ?_ ?_
      rotate_left
      · rintro w' ⟨s0, s1, s2, s3⟩
        go_simp
        with_reducible rfl
      rotate_left
      · simp only [Act.put, List.setIfInBounds_toArray, List.set_cons_zero, List.set_cons_succ, i64_w, i32_w]
        rfl
      refine pure_ (i := 11) (N := (some 50)) (v := ?_) (a' := ?_) #[true, true, false, false, false, false, false, false, false, true, true, true, false, false, false, false, false, false, false, false, false, false, false, false, false] rfl rfl (any_of HT_.out (by kernel_rfl)) (fun _ _ _ h => h) (Or.inl ⟨by rfl, ?_⟩) ?_ ?_
      rotate_left
      · intro w'
        first | (go_simp; with_reducible rfl) | (go_simp; simp only [qN]; rfl)
      rotate_left
      · simp only [Act.put, List.setIfInBounds_toArray, List.set_cons_zero, List.set_cons_succ, i64_w, i32_w]
        rfl
      refine pure_ (i := 2) (N := (some 41)) (v := ?_) (a' := ?_) #[true, true, true, false, false, false, false, false, false, true, true, true, false, false, false, false, false, false, false, false, false, false, false, false, false] rfl rfl (any_of HT_.out (by kernel_rfl)) (fun _ _ _ h => h) (Or.inl ⟨by rfl, ?_⟩) ?_ ?_
      rotate_left
      · intro w'
        go_simp
        with_reducible rfl
      rotate_left
      · simp only [Act.put, List.setIfInBounds_toArray, List.set_cons_zero, List.set_cons_succ, i64_w, i32_w]
        rfl
      refine pure_ (i := 3) (N := (some 42)) (v := ?_) (a' := ?_) #[true, true, true, true, false, false, false, false, false, true, true, true, false, false, false, false, false, false, false, false, false, false, false, false, false] rfl rfl (any_of HT_.out (by kernel_rfl)) (fun _ _ _ h => h) (Or.inl ⟨by rfl, ?_⟩) ?_ ?_
      rotate_left
      · intro w'
        go_simp
        with_reducible rfl
      rotate_left
      · simp only [Act.put, List.setIfInBounds_toArray, List.set_cons_zero, List.set_cons_succ, i64_w, i32_w]
        rfl
      refine pure_ (i := 4) (N := (some 43)) (v := ?_) (a' := ?_) #[true, true, true, true, true, false, false, false, false, true, true, true, false, false, false, false, false, false, false, false, false, false, false, false, false] rfl rfl (any_of HT_.out (by kernel_rfl)) (fun _ _ _ h => h) (Or.inl ⟨by rfl, ?_⟩) ?_ ?_
      rotate_left
      · intro w'
        go_simp
        with_reducible rfl
      rotate_left
      · simp only [Act.put, List.setIfInBounds_toArray, List.set_cons_zero, List.set_cons_succ, i64_w, i32_w]
        rfl
      refine take_ (i := 5) (N := (some 44)) (v := ?_) (a' := ?_) #[true, true, true, true, true, true, false, false, false, true, true, true, false, false, false, false, false, false, false, false, false, false, false, false, false] rfl rfl (take_ofW HT_.out HW_.out (by kernel_rfl)) (fun _ _ _ h => h) (Or.inl ⟨by rfl, ?_⟩) hHeld ?_ ?_
      rotate_left
      · rintro w' ⟨s0, s1, s2, s3⟩
        go_simp
        with_reducible rfl
      rotate_left
      · simp only [Act.put, List.setIfInBounds_toArray, List.set_cons_zero, List.set_cons_succ, i64_w, i32_w]
        rfl
      refine take_ (i := 6) (N := (some 45)) (v := ?_) (a' := ?_) #[true, true, true, true, true, true, true, false, false, true, true, true, false, false, false, false, false, false, false, false, false, false, false, false, false] rfl rfl (take_ofW HT_.out HW_.out (by kernel_rfl)) (fun _ _ _ h => h) (Or.inl ⟨by rfl, ?_⟩) hHeld ?_ ?_
      rotate_left
      · rintro w' ⟨s0, s1, s2, s3⟩
        go_simp
        with_reducible rfl
      rotate_left
      · simp only [Act.put, List.setIfInBounds_toArray, List.set_cons_zero, List.set_cons_succ, i64_w, i32_w]
        rfl
      refine one_ (i := 7) (N := (some 46)) #[true, true, true, true, true, true, true, true, false, true, true, true, false, false, false, false, false, false, false, false, false, false, false, false, false] rfl rfl (one_of HT_.out (by kernel_rfl)) (by decide) (fun K hK => ?_)
      refine goesc_ Try.func26 (cs := #[.pointer (some ⟨gx, 0, none⟩), .pointer (some ⟨gy, 0, none⟩)]) (by kernel_rfl) rfl #[.agg #[.int .i64 qx, .int .i64 qy], .agg #[.int .i64 px, .int .i64 py], .pointer (some ⟨gx, 0, none⟩), .pointer (some ⟨gy, 0, none⟩)] (by rfl) rfl rfl (by rfl) (by (try simp only [List.map_toArray, List.map_cons, List.map_nil]); first | done | rfl) ?_
      with_reducible refine (HC2.out gx gy _ hx3 hy3 (World.block_lt_of_cell? _ _ hx3) (World.block_lt_of_cell? _ _ hy3)).mono ?_
      rintro e w3 ⟨rfl, hb⟩
      refine ⟨_, rfl, ?_⟩
      have p0' := (hb.cell (World.block_lt_of_cell? _ _ p0)).trans p0; clear p0; have p0 := p0'; clear p0'
      have p1' := (hb.cell (World.block_lt_of_cell? _ _ p1)).trans p1; clear p1; have p1 := p1'; clear p1'
      have q0' := (hb.cell (World.block_lt_of_cell? _ _ q0)).trans q0; clear q0; have q0 := q0'; clear q0'
      have q1' := (hb.cell (World.block_lt_of_cell? _ _ q1)).trans q1; clear q1; have q1 := q1'; clear q1'
      have hx3' := (hb.cell (World.block_lt_of_cell? _ _ hx3)).trans hx3; clear hx3; have hx3 := hx3'; clear hx3'
      have hy3' := (hb.cell (World.block_lt_of_cell? _ _ hy3)).trans hy3; clear hy3; have hy3 := hy3'; clear hy3'
      have HB1' := Aside0.mk (below_step HB1.out hb); clear HB1; have HB1 := HB1'; clear HB1' hb
      have hHeld2 : _ ∧ _ ∧ _ ∧ _ := ⟨p0, p1, q0, q1⟩
      clear hHeld
      refine hK.out _ _ hHeld2 (fun hHeld => ?_)
      clear hK K hHeld2
      refine norm_ (a' := ?_) ?_ ?_
      rotate_left
      · show Act.put _ (some 46) _ = _
        simp only [Act.put, List.setIfInBounds_toArray, List.set_cons_zero, List.set_cons_succ, i64_w, i32_w]
        rfl
      refine pure_ (i := 8) (N := (some 47)) (v := ?_) (a' := ?_) #[true, true, true, true, true, true, true, true, true, true, true, true, false, false, false, false, false, false, false, false, false, false, false, false, false] rfl rfl (any_of HT_.out (by kernel_rfl)) (fun _ _ _ h => h) (Or.inl ⟨by rfl, ?_⟩) ?_ ?_
      rotate_left
      · intro w'
        go_simp
        with_reducible rfl
      rotate_left
      · simp only [Act.put, List.setIfInBounds_toArray, List.set_cons_zero, List.set_cons_succ, i64_w, i32_w]
        rfl
      refine pure_ (i := 12) (N := (some 51)) (v := ?_) (a' := ?_) #[true, true, true, true, true, true, true, true, true, true, true, true, true, false, false, false, false, false, false, false, false, false, false, false, false] rfl rfl (any_of HT_.out (by kernel_rfl)) (fun _ _ _ h => h) (Or.inl ⟨by rfl, ?_⟩) ?_ ?_
      rotate_left
      · intro w'
        go_simp
        with_reducible rfl
      rotate_left
      · simp only [Act.put, List.setIfInBounds_toArray, List.set_cons_zero, List.set_cons_succ, i64_w, i32_w]
        rfl
      refine pure_ (i := 13) (N := (some 52)) (v := ?_) (a' := ?_) #[true, true, true, true, true, true, true, true, true, true, true, true, true, true, false, false, false, false, false, false, false, false, false, false, false] rfl rfl (any_of HT_.out (by kernel_rfl)) (fun _ _ _ h => h) (Or.inl ⟨by rfl, ?_⟩) ?_ ?_
      rotate_left
      · intro w'
        go_simp
        with_reducible rfl
      rotate_left
      · simp only [Act.put, List.setIfInBounds_toArray, List.set_cons_zero, List.set_cons_succ, i64_w, i32_w]
        rfl
      refine pure_ (i := 14) (N := (some 53)) (v := ?_) (a' := ?_) #[true, true, true, true, true, true, true, true, true, true, true, true, true, true, true, false, false, false, false, false, false, false, false, false, false] rfl rfl (any_of HT_.out (by kernel_rfl)) (fun _ _ _ h => h) (Or.inl ⟨by rfl, ?_⟩) ?_ ?_
      rotate_left
      · intro w'
        go_simp
        with_reducible rfl
      rotate_left
      · simp only [Act.put, List.setIfInBounds_toArray, List.set_cons_zero, List.set_cons_succ, i64_w, i32_w]
        rfl
      refine pure_ (i := 15) (N := (some 54)) (v := ?_) (a' := ?_) #[true, true, true, true, true, true, true, true, true, true, true, true, true, true, true, true, false, false, false, false, false, false, false, false, false] rfl rfl (any_of HT_.out (by kernel_rfl)) (fun _ _ _ h => h) (Or.inl ⟨by rfl, ?_⟩) ?_ ?_
      rotate_left
      · intro w'
        go_simp
        with_reducible rfl
      rotate_left
      · simp only [Act.put, List.setIfInBounds_toArray, List.set_cons_zero, List.set_cons_succ, i64_w, i32_w]
        rfl
      refine pure_ (i := 16) (N := (some 55)) (v := ?_) (a' := ?_) #[true, true, true, true, true, true, true, true, true, true, true, true, true, true, true, true, true, false, false, false, false, false, false, false, false] rfl rfl (any_of HT_.out (by kernel_rfl)) (fun _ _ _ h => h) (Or.inl ⟨by rfl, ?_⟩) ?_ ?_
      rotate_left
      · intro w'
        go_simp
        with_reducible rfl
      rotate_left
      · simp only [Act.put, List.setIfInBounds_toArray, List.set_cons_zero, List.set_cons_succ, i64_w, i32_w]
        rfl
      refine pure_ (i := 17) (N := (some 56)) (v := undef) (a' := ?_) #[true, true, true, true, true, true, true, true, true, true, true, true, true, true, true, true, true, true, false, false, false, false, false, false, false] rfl rfl (any_of HT_.out (by kernel_rfl)) (fun _ _ _ h => h) (Or.inr ⟨by rfl, rfl⟩) ?_ ?_
      rotate_left
      · simp only [Act.put, List.setIfInBounds_toArray, List.set_cons_zero, List.set_cons_succ, i64_w, i32_w]
        rfl
      refine pure_ (i := 18) (N := (some 57)) (v := undef) (a' := ?_) #[true, true, true, true, true, true, true, true, true, true, true, true, true, true, true, true, true, true, true, false, false, false, false, false, false] rfl rfl (any_of HT_.out (by kernel_rfl)) (fun _ _ _ h => h) (Or.inr ⟨by rfl, rfl⟩) ?_ ?_
      rotate_left
      · simp only [Act.put, List.setIfInBounds_toArray, List.set_cons_zero, List.set_cons_succ, i64_w, i32_w]
        rfl
      refine pure_ (i := 19) (N := (some 58)) (v := undef) (a' := ?_) #[true, true, true, true, true, true, true, true, true, true, true, true, true, true, true, true, true, true, true, true, false, false, false, false, false] rfl rfl (any_of HT_.out (by kernel_rfl)) (fun _ _ _ h => h) (Or.inr ⟨by rfl, rfl⟩) ?_ ?_
      rotate_left
      · simp only [Act.put, List.setIfInBounds_toArray, List.set_cons_zero, List.set_cons_succ, i64_w, i32_w]
        rfl
      refine pure_ (i := 20) (N := (some 59)) (v := undef) (a' := ?_) #[true, true, true, true, true, true, true, true, true, true, true, true, true, true, true, true, true, true, true, true, true, false, false, false, false] rfl rfl (any_of HT_.out (by kernel_rfl)) (fun _ _ _ h => h) (Or.inr ⟨by rfl, rfl⟩) ?_ ?_
      rotate_left
      · simp only [Act.put, List.setIfInBounds_toArray, List.set_cons_zero, List.set_cons_succ, i64_w, i32_w]
        rfl
      refine pure_ (i := 21) (N := (some 60)) (v := ?_) (a' := ?_) #[true, true, true, true, true, true, true, true, true, true, true, true, true, true, true, true, true, true, true, true, true, true, false, false, false] rfl rfl (any_of HT_.out (by kernel_rfl)) (fun _ _ _ h => h) (Or.inl ⟨by rfl, ?_⟩) ?_ ?_
      rotate_left
      · intro w'
        go_simp
        with_reducible rfl
      rotate_left
      · simp only [Act.put, List.setIfInBounds_toArray, List.set_cons_zero, List.set_cons_succ, i64_w, i32_w]
        rfl
      refine pure_ (i := 22) (N := (some 61)) (v := ?_) (a' := ?_) #[true, true, true, true, true, true, true, true, true, true, true, true, true, true, true, true, true, true, true, true, true, true, true, false, false] rfl rfl (any_of HT_.out (by kernel_rfl)) (fun _ _ _ h => h) (Or.inl ⟨by rfl, ?_⟩) ?_ ?_
      rotate_left
      · intro w'
        go_simp
        with_reducible rfl
      rotate_left
      · simp only [Act.put, List.setIfInBounds_toArray, List.set_cons_zero, List.set_cons_succ, i64_w, i32_w]
        rfl
      refine pure_ (i := 23) (N := (some 62)) (v := ?_) (a' := ?_) #[true, true, true, true, true, true, true, true, true, true, true, true, true, true, true, true, true, true, true, true, true, true, true, true, false] rfl rfl (any_of HT_.out (by kernel_rfl)) (fun _ _ _ h => h) (Or.inl ⟨by rfl, ?_⟩) ?_ ?_
      rotate_left
      · intro w'
        go_simp
        with_reducible rfl
      rotate_left
      · simp only [Act.put, List.setIfInBounds_toArray, List.set_cons_zero, List.set_cons_succ, i64_w, i32_w]
        rfl
      refine pure_ (i := 24) (N := (some 6)) (v := ?_) (a' := ?_) #[true, true, true, true, true, true, true, true, true, true, true, true, true, true, true, true, true, true, true, true, true, true, true, true, true] rfl rfl (any_of HT_.out (by kernel_rfl)) (fun _ _ _ h => h) (Or.inl ⟨by rfl, ?_⟩) ?_ ?_
      rotate_left
      · intro w'
        go_simp
        with_reducible rfl
      rotate_left
      · simp only [Act.put, List.setIfInBounds_toArray, List.set_cons_zero, List.set_cons_succ, i64_w, i32_w]
        rfl
      refine done_ (done_of HT_.out (by kernel_rfl)) ?_
      try go_wp2_with fail
      go_ret
      exact ⟨by first | rfl | simp, HB1.out⟩
  · subst e3 e4
    clear e2
    simp only [Bool.or_true, Bool.true_or, Bool.or_false] at qN
    go_enter Try.func6, Try.ntmps6
    go_wp2_with fail
    go_region
    · go_wp2_with (first | (go_at_call 17; (with_reducible refine (HC0.out _).mono ?_); rintro e w1 ⟨v1, rfl, ha, hb⟩; (obtain ⟨gx, gy, rfl, _, _, hx2, hy2, hx3, hy3⟩ := ha); have a0 := (hb.cell (p := ⟨w.heap.size, 0, none⟩) (by first | (simp; done) | (simp; omega))).trans (show _ = some (.int .i64 ax) by (go_simp; done)); have a1 := (hb.cell (p := ⟨w.heap.size, 1, none⟩) (by first | (simp; done) | (simp; omega))).trans (show _ = some (.int .i64 ay) by (go_simp; done)); have b0 := (hb.cell (p := ⟨w.heap.size + 1, 0, none⟩) (by first | (simp; done) | (simp; omega))).trans (show _ = some (.int .i64 bx) by (go_simp; done)); have b1 := (hb.cell (p := ⟨w.heap.size + 1, 1, none⟩) (by first | (simp; done) | (simp; omega))).trans (show _ = some (.int .i64 yb) by (go_simp; done)); have p0 := (hb.cell (p := ⟨w.heap.size + 1 + 1 + 1, 0, none⟩) (by first | (simp; done) | (simp; omega))).trans (show _ = some (.int .i64 px) by (go_simp; done)); have p1 := (hb.cell (p := ⟨w.heap.size + 1 + 1 + 1, 1, none⟩) (by first | (simp; done) | (simp; omega))).trans (show _ = some (.int .i64 py) by (go_simp; done)); have q0 := (hb.cell (p := ⟨w.heap.size + 1 + 1 + 1 + 1, 0, none⟩) (by first | (simp; done) | (simp; omega))).trans (show _ = some (.int .i64 qx) by (go_simp; done)); have q1 := (hb.cell (p := ⟨w.heap.size + 1 + 1 + 1 + 1, 1, none⟩) (by first | (simp; done) | (simp; omega))).trans (show _ = some (.int .i64 qy) by (go_simp; done)); have HB1 := Aside0.mk (below_step (show Below w.heap.size w _ from (by repeat (first | exact Below.refl _ _ | (refine Below.drew ?_) | (refine Below.setCell ?_ (by first | (simp; done) | (simp; omega)) _) | (refine Below.alloc ?_ (by first | (simp; done) | (simp; omega)) _)))) hb); clear hb hx2 hy2) | (go_at_call 26; (with_reducible refine (HC1.out gx gy _ hx3 hy3 (World.block_lt_of_cell? _ _ hx3) (World.block_lt_of_cell? _ _ hy3)).mono ?_); rintro e w2 ⟨rfl, hb⟩; have a0' := (hb.cell (World.block_lt_of_cell? _ _ a0)).trans a0; clear a0; have a0 := a0'; clear a0'; have a1' := (hb.cell (World.block_lt_of_cell? _ _ a1)).trans a1; clear a1; have a1 := a1'; clear a1'; have b0' := (hb.cell (World.block_lt_of_cell? _ _ b0)).trans b0; clear b0; have b0 := b0'; clear b0'; have b1' := (hb.cell (World.block_lt_of_cell? _ _ b1)).trans b1; clear b1; have b1 := b1'; clear b1'; have p0' := (hb.cell (World.block_lt_of_cell? _ _ p0)).trans p0; clear p0; have p0 := p0'; clear p0'; have p1' := (hb.cell (World.block_lt_of_cell? _ _ p1)).trans p1; clear p1; have p1 := p1'; clear p1'; have q0' := (hb.cell (World.block_lt_of_cell? _ _ q0)).trans q0; clear q0; have q0 := q0'; clear q0'; have q1' := (hb.cell (World.block_lt_of_cell? _ _ q1)).trans q1; clear q1; have q1 := q1'; clear q1'; have hx3' := (hb.cell (World.block_lt_of_cell? _ _ hx3)).trans hx3; clear hx3; have hx3 := hx3'; clear hx3'; have hy3' := (hb.cell (World.block_lt_of_cell? _ _ hy3)).trans hy3; clear hy3; have hy3 := hy3'; clear hy3'; have HB1' := Aside0.mk (below_step HB1.out hb); clear HB1; have HB1 := HB1'; clear HB1' hb) | (go_at_call 18; (with_reducible refine (HC3.out _).mono ?_); rintro e w2 ⟨rfl, hb⟩; have a0' := (hb.cell (World.block_lt_of_cell? _ _ a0)).trans a0; clear a0; have a0 := a0'; clear a0'; have a1' := (hb.cell (World.block_lt_of_cell? _ _ a1)).trans a1; clear a1; have a1 := a1'; clear a1'; have b0' := (hb.cell (World.block_lt_of_cell? _ _ b0)).trans b0; clear b0; have b0 := b0'; clear b0'; have b1' := (hb.cell (World.block_lt_of_cell? _ _ b1)).trans b1; clear b1; have b1 := b1'; clear b1'; have p0' := (hb.cell (World.block_lt_of_cell? _ _ p0)).trans p0; clear p0; have p0 := p0'; clear p0'; have p1' := (hb.cell (World.block_lt_of_cell? _ _ p1)).trans p1; clear p1; have p1 := p1'; clear p1'; have q0' := (hb.cell (World.block_lt_of_cell? _ _ q0)).trans q0; clear q0; have q0 := q0'; clear q0'; have q1' := (hb.cell (World.block_lt_of_cell? _ _ q1)).trans q1; clear q1; have q1 := q1'; clear q1'; have hx3' := (hb.cell (World.block_lt_of_cell? _ _ hx3)).trans hx3; clear hx3; have hx3 := hx3'; clear hx3'; have hy3' := (hb.cell (World.block_lt_of_cell? _ _ hy3)).trans hy3; clear hy3; have hy3 := hy3'; clear hy3'; have HB1' := Aside0.mk (below_step HB1.out hb); clear HB1; have HB1 := HB1'; clear HB1' hb))
      have hb := below_drew (Below.refl w2.heap.size w2)
      refine start_ (n := 25) (S := fun W => W.cell? ⟨w.heap.size + 1 + 1 + 1, 0, none⟩ = some (.int .i64 px) ∧ W.cell? ⟨w.heap.size + 1 + 1 + 1, 1, none⟩ = some (.int .i64 py) ∧ W.cell? ⟨w.heap.size + 1 + 1 + 1 + 1, 0, none⟩ = some (.int .i64 qx) ∧ W.cell? ⟨w.heap.size + 1 + 1 + 1 + 1, 1, none⟩ = some (.int .i64 qy)) (ds := []) #[false, false, false, false, false, false, false, false, false, false, false, false, false, false, false, false, false, false, false, false, false, false, false, false, false] (by kernel_rfl) rfl rfl ⟨p0, p1, q0, q1⟩ (fun hHeld => ?_); refine with_tabW OrderAlong_calls.tab8 OrderAlong_calls.bits8 (fun HT_ HW_ => ?_)
      generalize hw0 : w2.drew = w0 at hb hHeld ⊢
      have p0' := (hb.cell (World.block_lt_of_cell? _ _ p0)).trans p0; clear p0; have p0 := p0'; clear p0'
      have p1' := (hb.cell (World.block_lt_of_cell? _ _ p1)).trans p1; clear p1; have p1 := p1'; clear p1'
      have q0' := (hb.cell (World.block_lt_of_cell? _ _ q0)).trans q0; clear q0; have q0 := q0'; clear q0'
      have q1' := (hb.cell (World.block_lt_of_cell? _ _ q1)).trans q1; clear q1; have q1 := q1'; clear q1'
      have hx3' := (hb.cell (World.block_lt_of_cell? _ _ hx3)).trans hx3; clear hx3; have hx3 := hx3'; clear hx3'
      have hy3' := (hb.cell (World.block_lt_of_cell? _ _ hy3)).trans hy3; clear hy3; have hy3 := hy3'; clear hy3'
      have HB1' := Aside0.mk (below_step HB1.out hb); clear HB1; have HB1 := HB1'; clear HB1' hb
      clear hw0
      refine one_ (i := 0) (N := (some 39)) #[true, false, false, false, false, false, false, false, false, false, false, false, false, false, false, false, false, false, false, false, false, false, false, false, false] rfl rfl (one_of HT_.out (by kernel_rfl)) (by decide) (fun K hK => ?_)
      refine goes_ Try.func8 (by kernel_rfl) rfl #[] (by rfl) rfl rfl (by (try simp only [List.map_toArray, List.map_cons, List.map_nil]); first | done | rfl) ?_
      with_reducible refine (cobweblaw07_alive.calls0 _).mono ?_
      rintro e w3 ⟨rfl, hb⟩
      refine ⟨_, rfl, ?_⟩
      have p0' := (hb.cell (World.block_lt_of_cell? _ _ p0)).trans p0; clear p0; have p0 := p0'; clear p0'
      have p1' := (hb.cell (World.block_lt_of_cell? _ _ p1)).trans p1; clear p1; have p1 := p1'; clear p1'
      have q0' := (hb.cell (World.block_lt_of_cell? _ _ q0)).trans q0; clear q0; have q0 := q0'; clear q0'
      have q1' := (hb.cell (World.block_lt_of_cell? _ _ q1)).trans q1; clear q1; have q1 := q1'; clear q1'
      have hx3' := (hb.cell (World.block_lt_of_cell? _ _ hx3)).trans hx3; clear hx3; have hx3 := hx3'; clear hx3'
      have hy3' := (hb.cell (World.block_lt_of_cell? _ _ hy3)).trans hy3; clear hy3; have hy3 := hy3'; clear hy3'
      have HB1' := Aside0.mk (below_step HB1.out hb); clear HB1; have HB1 := HB1'; clear HB1' hb
      have hHeld2 : _ ∧ _ ∧ _ ∧ _ := ⟨p0, p1, q0, q1⟩
      clear hHeld
      refine hK.out _ _ hHeld2 (fun hHeld => ?_)
      clear hK K hHeld2
      refine norm_ (a' := ?_) ?_ ?_
      rotate_left
      · show Act.put _ (some 39) _ = _
        simp only [Act.put, List.setIfInBounds_toArray, List.set_cons_zero, List.set_cons_succ, i64_w, i32_w]
        rfl
      refine pure_ (i := 1) (N := (some 40)) (v := ?_) (a' := ?_) #[true, true, false, false, false, false, false, false, false, false, false, false, false, false, false, false, false, false, false, false, false, false, false, false, false] rfl rfl (any_of HT_.out (by kernel_rfl)) (fun _ _ _ h => h) (Or.inl ⟨by rfl, ?_⟩) ?_ ?_
      rotate_left
      · intro w'
        go_simp
        with_reducible rfl
      rotate_left
      · simp only [Act.put, List.setIfInBounds_toArray, List.set_cons_zero, List.set_cons_succ, i64_w, i32_w]
        rfl
      refine take_ (i := 9) (N := (some 48)) (v := ?_) (a' := ?_) #[true, true, false, false, false, false, false, false, false, true, false, false, false, false, false, false, false, false, false, false, false, false, false, false, false] rfl rfl (take_ofW HT_.out HW_.out (by kernel_rfl)) (fun _ _ _ h => h) (Or.inl ⟨by rfl, ?_⟩) hHeld ?_ ?_
      rotate_left
      · rintro w' ⟨s0, s1, s2, s3⟩
        go_simp
        with_reducible rfl
      rotate_left
      · simp only [Act.put, List.setIfInBounds_toArray, List.set_cons_zero, List.set_cons_succ, i64_w, i32_w]
        rfl
      refine take_ (i := 10) (N := (some 49)) (v := ?_) (a' := ?_) #[true, true, false, false, false, false, false, false, false, true, true, false, false, false, false, false, false, false, false, false, false, false, false, false, false] rfl rfl (take_ofW HT_.out HW_.out (by kernel_rfl)) (fun _ _ _ h => h) (Or.inl ⟨by rfl, ?_⟩) hHeld ?_ ?_
      rotate_left
      · rintro w' ⟨s0, s1, s2, s3⟩
        go_simp
        with_reducible rfl
      rotate_left
      · simp only [Act.put, List.setIfInBounds_toArray, List.set_cons_zero, List.set_cons_succ, i64_w, i32_w]
        rfl
      refine pure_ (i := 11) (N := (some 50)) (v := ?_) (a' := ?_) #[true, true, false, false, false, false, false, false, false, true, true, true, false, false, false, false, false, false, false, false, false, false, false, false, false] rfl rfl (any_of HT_.out (by kernel_rfl)) (fun _ _ _ h => h) (Or.inl ⟨by rfl, ?_⟩) ?_ ?_
      rotate_left
      · intro w'
        first | (go_simp; with_reducible rfl) | (go_simp; simp only [qN]; rfl)
      rotate_left
      · simp only [Act.put, List.setIfInBounds_toArray, List.set_cons_zero, List.set_cons_succ, i64_w, i32_w]
        rfl
      refine pure_ (i := 2) (N := (some 41)) (v := ?_) (a' := ?_) #[true, true, true, false, false, false, false, false, false, true, true, true, false, false, false, false, false, false, false, false, false, false, false, false, false] rfl rfl (any_of HT_.out (by kernel_rfl)) (fun _ _ _ h => h) (Or.inl ⟨by rfl, ?_⟩) ?_ ?_
      rotate_left
      · intro w'
        go_simp
        with_reducible rfl
      rotate_left
      · simp only [Act.put, List.setIfInBounds_toArray, List.set_cons_zero, List.set_cons_succ, i64_w, i32_w]
        rfl
      refine pure_ (i := 3) (N := (some 42)) (v := ?_) (a' := ?_) #[true, true, true, true, false, false, false, false, false, true, true, true, false, false, false, false, false, false, false, false, false, false, false, false, false] rfl rfl (any_of HT_.out (by kernel_rfl)) (fun _ _ _ h => h) (Or.inl ⟨by rfl, ?_⟩) ?_ ?_
      rotate_left
      · intro w'
        go_simp
        with_reducible rfl
      rotate_left
      · simp only [Act.put, List.setIfInBounds_toArray, List.set_cons_zero, List.set_cons_succ, i64_w, i32_w]
        rfl
      refine pure_ (i := 4) (N := (some 43)) (v := undef) (a' := ?_) #[true, true, true, true, true, false, false, false, false, true, true, true, false, false, false, false, false, false, false, false, false, false, false, false, false] rfl rfl (any_of HT_.out (by kernel_rfl)) (fun _ _ _ h => h) (Or.inr ⟨by rfl, rfl⟩) ?_ ?_
      rotate_left
      · simp only [Act.put, List.setIfInBounds_toArray, List.set_cons_zero, List.set_cons_succ, i64_w, i32_w]
        rfl
      refine pure_ (i := 5) (N := (some 44)) (v := undef) (a' := ?_) #[true, true, true, true, true, true, false, false, false, true, true, true, false, false, false, false, false, false, false, false, false, false, false, false, false] rfl rfl (any_of HT_.out (by kernel_rfl)) (fun _ _ _ h => h) (Or.inr ⟨by rfl, rfl⟩) ?_ ?_
      rotate_left
      · simp only [Act.put, List.setIfInBounds_toArray, List.set_cons_zero, List.set_cons_succ, i64_w, i32_w]
        rfl
      refine pure_ (i := 6) (N := (some 45)) (v := undef) (a' := ?_) #[true, true, true, true, true, true, true, false, false, true, true, true, false, false, false, false, false, false, false, false, false, false, false, false, false] rfl rfl (any_of HT_.out (by kernel_rfl)) (fun _ _ _ h => h) (Or.inr ⟨by rfl, rfl⟩) ?_ ?_
      rotate_left
      · simp only [Act.put, List.setIfInBounds_toArray, List.set_cons_zero, List.set_cons_succ, i64_w, i32_w]
        rfl
      refine pure_ (i := 7) (N := (some 46)) (v := undef) (a' := ?_) #[true, true, true, true, true, true, true, true, false, true, true, true, false, false, false, false, false, false, false, false, false, false, false, false, false] rfl rfl (any_of HT_.out (by kernel_rfl)) (fun _ _ _ h => h) (Or.inr ⟨by rfl, rfl⟩) ?_ ?_
      rotate_left
      · simp only [Act.put, List.setIfInBounds_toArray, List.set_cons_zero, List.set_cons_succ, i64_w, i32_w]
        rfl
      refine pure_ (i := 8) (N := (some 47)) (v := ?_) (a' := ?_) #[true, true, true, true, true, true, true, true, true, true, true, true, false, false, false, false, false, false, false, false, false, false, false, false, false] rfl rfl (any_of HT_.out (by kernel_rfl)) (fun _ _ _ h => h) (Or.inl ⟨by rfl, ?_⟩) ?_ ?_
      rotate_left
      · intro w'
        go_simp
        with_reducible rfl
      rotate_left
      · simp only [Act.put, List.setIfInBounds_toArray, List.set_cons_zero, List.set_cons_succ, i64_w, i32_w]
        rfl
      refine pure_ (i := 12) (N := (some 51)) (v := ?_) (a' := ?_) #[true, true, true, true, true, true, true, true, true, true, true, true, true, false, false, false, false, false, false, false, false, false, false, false, false] rfl rfl (any_of HT_.out (by kernel_rfl)) (fun _ _ _ h => h) (Or.inl ⟨by rfl, ?_⟩) ?_ ?_
      rotate_left
      · intro w'
        go_simp
        with_reducible rfl
      rotate_left
      · simp only [Act.put, List.setIfInBounds_toArray, List.set_cons_zero, List.set_cons_succ, i64_w, i32_w]
        rfl
      refine pure_ (i := 13) (N := (some 52)) (v := ?_) (a' := ?_) #[true, true, true, true, true, true, true, true, true, true, true, true, true, true, false, false, false, false, false, false, false, false, false, false, false] rfl rfl (any_of HT_.out (by kernel_rfl)) (fun _ _ _ h => h) (Or.inl ⟨by rfl, ?_⟩) ?_ ?_
      rotate_left
      · intro w'
        go_simp
        with_reducible rfl
      rotate_left
      · simp only [Act.put, List.setIfInBounds_toArray, List.set_cons_zero, List.set_cons_succ, i64_w, i32_w]
        rfl
      refine pure_ (i := 14) (N := (some 53)) (v := ?_) (a' := ?_) #[true, true, true, true, true, true, true, true, true, true, true, true, true, true, true, false, false, false, false, false, false, false, false, false, false] rfl rfl (any_of HT_.out (by kernel_rfl)) (fun _ _ _ h => h) (Or.inl ⟨by rfl, ?_⟩) ?_ ?_
      rotate_left
      · intro w'
        go_simp
        with_reducible rfl
      rotate_left
      · simp only [Act.put, List.setIfInBounds_toArray, List.set_cons_zero, List.set_cons_succ, i64_w, i32_w]
        rfl
      refine pure_ (i := 15) (N := (some 54)) (v := ?_) (a' := ?_) #[true, true, true, true, true, true, true, true, true, true, true, true, true, true, true, true, false, false, false, false, false, false, false, false, false] rfl rfl (any_of HT_.out (by kernel_rfl)) (fun _ _ _ h => h) (Or.inl ⟨by rfl, ?_⟩) ?_ ?_
      rotate_left
      · intro w'
        go_simp
        with_reducible rfl
      rotate_left
      · simp only [Act.put, List.setIfInBounds_toArray, List.set_cons_zero, List.set_cons_succ, i64_w, i32_w]
        rfl
      refine pure_ (i := 16) (N := (some 55)) (v := ?_) (a' := ?_) #[true, true, true, true, true, true, true, true, true, true, true, true, true, true, true, true, true, false, false, false, false, false, false, false, false] rfl rfl (any_of HT_.out (by kernel_rfl)) (fun _ _ _ h => h) (Or.inl ⟨by rfl, ?_⟩) ?_ ?_
      rotate_left
      · intro w'
        go_simp
        with_reducible rfl
      rotate_left
      · simp only [Act.put, List.setIfInBounds_toArray, List.set_cons_zero, List.set_cons_succ, i64_w, i32_w]
        rfl
      refine pure_ (i := 17) (N := (some 56)) (v := ?_) (a' := ?_) #[true, true, true, true, true, true, true, true, true, true, true, true, true, true, true, true, true, true, false, false, false, false, false, false, false] rfl rfl (any_of HT_.out (by kernel_rfl)) (fun _ _ _ h => h) (Or.inl ⟨by rfl, ?_⟩) ?_ ?_
      rotate_left
      · intro w'
        go_simp
        with_reducible rfl
      rotate_left
      · simp only [Act.put, List.setIfInBounds_toArray, List.set_cons_zero, List.set_cons_succ, i64_w, i32_w]
        rfl
      refine take_ (i := 18) (N := (some 57)) (v := ?_) (a' := ?_) #[true, true, true, true, true, true, true, true, true, true, true, true, true, true, true, true, true, true, true, false, false, false, false, false, false] rfl rfl (take_ofW HT_.out HW_.out (by kernel_rfl)) (fun _ _ _ h => h) (Or.inl ⟨by rfl, ?_⟩) hHeld ?_ ?_
      rotate_left
      · rintro w' ⟨s0, s1, s2, s3⟩
        go_simp
        with_reducible rfl
      rotate_left
      · simp only [Act.put, List.setIfInBounds_toArray, List.set_cons_zero, List.set_cons_succ, i64_w, i32_w]
        rfl
      refine take_ (i := 19) (N := (some 58)) (v := ?_) (a' := ?_) #[true, true, true, true, true, true, true, true, true, true, true, true, true, true, true, true, true, true, true, true, false, false, false, false, false] rfl rfl (take_ofW HT_.out HW_.out (by kernel_rfl)) (fun _ _ _ h => h) (Or.inl ⟨by rfl, ?_⟩) hHeld ?_ ?_
      rotate_left
      · rintro w' ⟨s0, s1, s2, s3⟩
        go_simp
        with_reducible rfl
      rotate_left
      · simp only [Act.put, List.setIfInBounds_toArray, List.set_cons_zero, List.set_cons_succ, i64_w, i32_w]
        rfl
      refine one_ (i := 20) (N := (some 59)) #[true, true, true, true, true, true, true, true, true, true, true, true, true, true, true, true, true, true, true, true, true, false, false, false, false] rfl rfl (one_of HT_.out (by kernel_rfl)) (by decide) (fun K hK => ?_)
      refine goesc_ Try.func26 (cs := #[.pointer (some ⟨gx, 0, none⟩), .pointer (some ⟨gy, 0, none⟩)]) (by kernel_rfl) rfl #[.agg #[.int .i64 qx, .int .i64 qy], .agg #[.int .i64 px, .int .i64 py], .pointer (some ⟨gx, 0, none⟩), .pointer (some ⟨gy, 0, none⟩)] (by rfl) rfl rfl (by rfl) (by (try simp only [List.map_toArray, List.map_cons, List.map_nil]); first | done | rfl) ?_
      with_reducible refine (HC2.out gx gy _ hx3 hy3 (World.block_lt_of_cell? _ _ hx3) (World.block_lt_of_cell? _ _ hy3)).mono ?_
      rintro e w3 ⟨rfl, hb⟩
      refine ⟨_, rfl, ?_⟩
      have p0' := (hb.cell (World.block_lt_of_cell? _ _ p0)).trans p0; clear p0; have p0 := p0'; clear p0'
      have p1' := (hb.cell (World.block_lt_of_cell? _ _ p1)).trans p1; clear p1; have p1 := p1'; clear p1'
      have q0' := (hb.cell (World.block_lt_of_cell? _ _ q0)).trans q0; clear q0; have q0 := q0'; clear q0'
      have q1' := (hb.cell (World.block_lt_of_cell? _ _ q1)).trans q1; clear q1; have q1 := q1'; clear q1'
      have hx3' := (hb.cell (World.block_lt_of_cell? _ _ hx3)).trans hx3; clear hx3; have hx3 := hx3'; clear hx3'
      have hy3' := (hb.cell (World.block_lt_of_cell? _ _ hy3)).trans hy3; clear hy3; have hy3 := hy3'; clear hy3'
      have HB1' := Aside0.mk (below_step HB1.out hb); clear HB1; have HB1 := HB1'; clear HB1' hb
      have hHeld2 : _ ∧ _ ∧ _ ∧ _ := ⟨p0, p1, q0, q1⟩
      clear hHeld
      refine hK.out _ _ hHeld2 (fun hHeld => ?_)
      clear hK K hHeld2
      refine norm_ (a' := ?_) ?_ ?_
      rotate_left
      · show Act.put _ (some 59) _ = _
        simp only [Act.put, List.setIfInBounds_toArray, List.set_cons_zero, List.set_cons_succ, i64_w, i32_w]
        rfl
      refine pure_ (i := 21) (N := (some 60)) (v := ?_) (a' := ?_) #[true, true, true, true, true, true, true, true, true, true, true, true, true, true, true, true, true, true, true, true, true, true, false, false, false] rfl rfl (any_of HT_.out (by kernel_rfl)) (fun _ _ _ h => h) (Or.inl ⟨by rfl, ?_⟩) ?_ ?_
      rotate_left
      · intro w'
        go_simp
        with_reducible rfl
      rotate_left
      · simp only [Act.put, List.setIfInBounds_toArray, List.set_cons_zero, List.set_cons_succ, i64_w, i32_w]
        rfl
      refine pure_ (i := 22) (N := (some 61)) (v := ?_) (a' := ?_) #[true, true, true, true, true, true, true, true, true, true, true, true, true, true, true, true, true, true, true, true, true, true, true, false, false] rfl rfl (any_of HT_.out (by kernel_rfl)) (fun _ _ _ h => h) (Or.inl ⟨by rfl, ?_⟩) ?_ ?_
      rotate_left
      · intro w'
        go_simp
        with_reducible rfl
      rotate_left
      · simp only [Act.put, List.setIfInBounds_toArray, List.set_cons_zero, List.set_cons_succ, i64_w, i32_w]
        rfl
      refine pure_ (i := 23) (N := (some 62)) (v := ?_) (a' := ?_) #[true, true, true, true, true, true, true, true, true, true, true, true, true, true, true, true, true, true, true, true, true, true, true, true, false] rfl rfl (any_of HT_.out (by kernel_rfl)) (fun _ _ _ h => h) (Or.inl ⟨by rfl, ?_⟩) ?_ ?_
      rotate_left
      · intro w'
        go_simp
        with_reducible rfl
      rotate_left
      · simp only [Act.put, List.setIfInBounds_toArray, List.set_cons_zero, List.set_cons_succ, i64_w, i32_w]
        rfl
      refine pure_ (i := 24) (N := (some 6)) (v := ?_) (a' := ?_) #[true, true, true, true, true, true, true, true, true, true, true, true, true, true, true, true, true, true, true, true, true, true, true, true, true] rfl rfl (any_of HT_.out (by kernel_rfl)) (fun _ _ _ h => h) (Or.inl ⟨by rfl, ?_⟩) ?_ ?_
      rotate_left
      · intro w'
        go_simp
        with_reducible rfl
      rotate_left
      · simp only [Act.put, List.setIfInBounds_toArray, List.set_cons_zero, List.set_cons_succ, i64_w, i32_w]
        rfl
      refine done_ (done_of HT_.out (by kernel_rfl)) ?_
      try go_wp2_with fail
      go_ret
      exact ⟨by first | rfl | simp, HB1.out⟩
    · go_wp2_with (first | (go_at_call 17; (with_reducible refine (HC0.out _).mono ?_); rintro e w1 ⟨v1, rfl, ha, hb⟩; (obtain ⟨gx, gy, rfl, _, _, hx2, hy2, hx3, hy3⟩ := ha); have a0 := (hb.cell (p := ⟨w.heap.size, 0, none⟩) (by first | (simp; done) | (simp; omega))).trans (show _ = some (.int .i64 ax) by (go_simp; done)); have a1 := (hb.cell (p := ⟨w.heap.size, 1, none⟩) (by first | (simp; done) | (simp; omega))).trans (show _ = some (.int .i64 ay) by (go_simp; done)); have b0 := (hb.cell (p := ⟨w.heap.size + 1, 0, none⟩) (by first | (simp; done) | (simp; omega))).trans (show _ = some (.int .i64 bx) by (go_simp; done)); have b1 := (hb.cell (p := ⟨w.heap.size + 1, 1, none⟩) (by first | (simp; done) | (simp; omega))).trans (show _ = some (.int .i64 yb) by (go_simp; done)); have p0 := (hb.cell (p := ⟨w.heap.size + 1 + 1 + 1 + 1, 0, none⟩) (by first | (simp; done) | (simp; omega))).trans (show _ = some (.int .i64 px) by (go_simp; done)); have p1 := (hb.cell (p := ⟨w.heap.size + 1 + 1 + 1 + 1, 1, none⟩) (by first | (simp; done) | (simp; omega))).trans (show _ = some (.int .i64 py) by (go_simp; done)); have q0 := (hb.cell (p := ⟨w.heap.size + 1 + 1 + 1, 0, none⟩) (by first | (simp; done) | (simp; omega))).trans (show _ = some (.int .i64 qx) by (go_simp; done)); have q1 := (hb.cell (p := ⟨w.heap.size + 1 + 1 + 1, 1, none⟩) (by first | (simp; done) | (simp; omega))).trans (show _ = some (.int .i64 qy) by (go_simp; done)); have HB1 := Aside0.mk (below_step (show Below w.heap.size w _ from (by repeat (first | exact Below.refl _ _ | (refine Below.drew ?_) | (refine Below.setCell ?_ (by first | (simp; done) | (simp; omega)) _) | (refine Below.alloc ?_ (by first | (simp; done) | (simp; omega)) _)))) hb); clear hb hx2 hy2) | (go_at_call 26; (with_reducible refine (HC1.out gx gy _ hx3 hy3 (World.block_lt_of_cell? _ _ hx3) (World.block_lt_of_cell? _ _ hy3)).mono ?_); rintro e w2 ⟨rfl, hb⟩; have a0' := (hb.cell (World.block_lt_of_cell? _ _ a0)).trans a0; clear a0; have a0 := a0'; clear a0'; have a1' := (hb.cell (World.block_lt_of_cell? _ _ a1)).trans a1; clear a1; have a1 := a1'; clear a1'; have b0' := (hb.cell (World.block_lt_of_cell? _ _ b0)).trans b0; clear b0; have b0 := b0'; clear b0'; have b1' := (hb.cell (World.block_lt_of_cell? _ _ b1)).trans b1; clear b1; have b1 := b1'; clear b1'; have p0' := (hb.cell (World.block_lt_of_cell? _ _ p0)).trans p0; clear p0; have p0 := p0'; clear p0'; have p1' := (hb.cell (World.block_lt_of_cell? _ _ p1)).trans p1; clear p1; have p1 := p1'; clear p1'; have q0' := (hb.cell (World.block_lt_of_cell? _ _ q0)).trans q0; clear q0; have q0 := q0'; clear q0'; have q1' := (hb.cell (World.block_lt_of_cell? _ _ q1)).trans q1; clear q1; have q1 := q1'; clear q1'; have hx3' := (hb.cell (World.block_lt_of_cell? _ _ hx3)).trans hx3; clear hx3; have hx3 := hx3'; clear hx3'; have hy3' := (hb.cell (World.block_lt_of_cell? _ _ hy3)).trans hy3; clear hy3; have hy3 := hy3'; clear hy3'; have HB1' := Aside0.mk (below_step HB1.out hb); clear HB1; have HB1 := HB1'; clear HB1' hb) | (go_at_call 18; (with_reducible refine (HC3.out _).mono ?_); rintro e w2 ⟨rfl, hb⟩; have a0' := (hb.cell (World.block_lt_of_cell? _ _ a0)).trans a0; clear a0; have a0 := a0'; clear a0'; have a1' := (hb.cell (World.block_lt_of_cell? _ _ a1)).trans a1; clear a1; have a1 := a1'; clear a1'; have b0' := (hb.cell (World.block_lt_of_cell? _ _ b0)).trans b0; clear b0; have b0 := b0'; clear b0'; have b1' := (hb.cell (World.block_lt_of_cell? _ _ b1)).trans b1; clear b1; have b1 := b1'; clear b1'; have p0' := (hb.cell (World.block_lt_of_cell? _ _ p0)).trans p0; clear p0; have p0 := p0'; clear p0'; have p1' := (hb.cell (World.block_lt_of_cell? _ _ p1)).trans p1; clear p1; have p1 := p1'; clear p1'; have q0' := (hb.cell (World.block_lt_of_cell? _ _ q0)).trans q0; clear q0; have q0 := q0'; clear q0'; have q1' := (hb.cell (World.block_lt_of_cell? _ _ q1)).trans q1; clear q1; have q1 := q1'; clear q1'; have hx3' := (hb.cell (World.block_lt_of_cell? _ _ hx3)).trans hx3; clear hx3; have hx3 := hx3'; clear hx3'; have hy3' := (hb.cell (World.block_lt_of_cell? _ _ hy3)).trans hy3; clear hy3; have hy3 := hy3'; clear hy3'; have HB1' := Aside0.mk (below_step HB1.out hb); clear HB1; have HB1 := HB1'; clear HB1' hb))
      have hb := below_drew (Below.refl w2.heap.size w2)
      refine start_ (n := 25) (S := fun W => W.cell? ⟨w.heap.size + 1 + 1 + 1 + 1, 0, none⟩ = some (.int .i64 px) ∧ W.cell? ⟨w.heap.size + 1 + 1 + 1 + 1, 1, none⟩ = some (.int .i64 py) ∧ W.cell? ⟨w.heap.size + 1 + 1 + 1, 0, none⟩ = some (.int .i64 qx) ∧ W.cell? ⟨w.heap.size + 1 + 1 + 1, 1, none⟩ = some (.int .i64 qy)) (ds := []) #[false, false, false, false, false, false, false, false, false, false, false, false, false, false, false, false, false, false, false, false, false, false, false, false, false] (by kernel_rfl) rfl rfl ⟨p0, p1, q0, q1⟩ (fun hHeld => ?_); refine with_tabW OrderAlong_calls.tab8 OrderAlong_calls.bits8 (fun HT_ HW_ => ?_)
      generalize hw0 : w2.drew = w0 at hb hHeld ⊢
      have p0' := (hb.cell (World.block_lt_of_cell? _ _ p0)).trans p0; clear p0; have p0 := p0'; clear p0'
      have p1' := (hb.cell (World.block_lt_of_cell? _ _ p1)).trans p1; clear p1; have p1 := p1'; clear p1'
      have q0' := (hb.cell (World.block_lt_of_cell? _ _ q0)).trans q0; clear q0; have q0 := q0'; clear q0'
      have q1' := (hb.cell (World.block_lt_of_cell? _ _ q1)).trans q1; clear q1; have q1 := q1'; clear q1'
      have hx3' := (hb.cell (World.block_lt_of_cell? _ _ hx3)).trans hx3; clear hx3; have hx3 := hx3'; clear hx3'
      have hy3' := (hb.cell (World.block_lt_of_cell? _ _ hy3)).trans hy3; clear hy3; have hy3 := hy3'; clear hy3'
      have HB1' := Aside0.mk (below_step HB1.out hb); clear HB1; have HB1 := HB1'; clear HB1' hb
      clear hw0
      refine one_ (i := 0) (N := (some 39)) #[true, false, false, false, false, false, false, false, false, false, false, false, false, false, false, false, false, false, false, false, false, false, false, false, false] rfl rfl (one_of HT_.out (by kernel_rfl)) (by decide) (fun K hK => ?_)
      refine goes_ Try.func8 (by kernel_rfl) rfl #[] (by rfl) rfl rfl (by (try simp only [List.map_toArray, List.map_cons, List.map_nil]); first | done | rfl) ?_
      with_reducible refine (cobweblaw07_alive.calls0 _).mono ?_
      rintro e w3 ⟨rfl, hb⟩
      refine ⟨_, rfl, ?_⟩
      have p0' := (hb.cell (World.block_lt_of_cell? _ _ p0)).trans p0; clear p0; have p0 := p0'; clear p0'
      have p1' := (hb.cell (World.block_lt_of_cell? _ _ p1)).trans p1; clear p1; have p1 := p1'; clear p1'
      have q0' := (hb.cell (World.block_lt_of_cell? _ _ q0)).trans q0; clear q0; have q0 := q0'; clear q0'
      have q1' := (hb.cell (World.block_lt_of_cell? _ _ q1)).trans q1; clear q1; have q1 := q1'; clear q1'
      have hx3' := (hb.cell (World.block_lt_of_cell? _ _ hx3)).trans hx3; clear hx3; have hx3 := hx3'; clear hx3'
      have hy3' := (hb.cell (World.block_lt_of_cell? _ _ hy3)).trans hy3; clear hy3; have hy3 := hy3'; clear hy3'
      have HB1' := Aside0.mk (below_step HB1.out hb); clear HB1; have HB1 := HB1'; clear HB1' hb
      have hHeld2 : _ ∧ _ ∧ _ ∧ _ := ⟨p0, p1, q0, q1⟩
      clear hHeld
      refine hK.out _ _ hHeld2 (fun hHeld => ?_)
      clear hK K hHeld2
      refine norm_ (a' := ?_) ?_ ?_
      rotate_left
      · show Act.put _ (some 39) _ = _
        simp only [Act.put, List.setIfInBounds_toArray, List.set_cons_zero, List.set_cons_succ, i64_w, i32_w]
        rfl
      refine pure_ (i := 1) (N := (some 40)) (v := ?_) (a' := ?_) #[true, true, false, false, false, false, false, false, false, false, false, false, false, false, false, false, false, false, false, false, false, false, false, false, false] rfl rfl (any_of HT_.out (by kernel_rfl)) (fun _ _ _ h => h) (Or.inl ⟨by rfl, ?_⟩) ?_ ?_
      rotate_left
      · intro w'
        go_simp
        with_reducible rfl
      rotate_left
      · simp only [Act.put, List.setIfInBounds_toArray, List.set_cons_zero, List.set_cons_succ, i64_w, i32_w]
        rfl
      refine take_ (i := 9) (N := (some 48)) (v := ?_) (a' := ?_) #[true, true, false, false, false, false, false, false, false, true, false, false, false, false, false, false, false, false, false, false, false, false, false, false, false] rfl rfl (take_ofW HT_.out HW_.out (by kernel_rfl)) (fun _ _ _ h => h) (Or.inl ⟨by rfl, ?_⟩) hHeld ?_ ?_
      rotate_left
      · rintro w' ⟨s0, s1, s2, s3⟩
        go_simp
        with_reducible rfl
      rotate_left
      · simp only [Act.put, List.setIfInBounds_toArray, List.set_cons_zero, List.set_cons_succ, i64_w, i32_w]
        rfl
      refine take_ (i := 10) (N := (some 49)) (v := ?_) (a' := ?_) #[true, true, false, false, false, false, false, false, false, true, true, false, false, false, false, false, false, false, false, false, false, false, false, false, false] rfl rfl (take_ofW HT_.out HW_.out (by kernel_rfl)) (fun _ _ _ h => h) (Or.inl ⟨by rfl, ?_⟩) hHeld ?_ ?_
      rotate_left
      · rintro w' ⟨s0, s1, s2, s3⟩
        go_simp
        with_reducible rfl
      rotate_left
      · simp only [Act.put, List.setIfInBounds_toArray, List.set_cons_zero, List.set_cons_succ, i64_w, i32_w]
        rfl
      refine pure_ (i := 11) (N := (some 50)) (v := ?_) (a' := ?_) #[true, true, false, false, false, false, false, false, false, true, true, true, false, false, false, false, false, false, false, false, false, false, false, false, false] rfl rfl (any_of HT_.out (by kernel_rfl)) (fun _ _ _ h => h) (Or.inl ⟨by rfl, ?_⟩) ?_ ?_
      rotate_left
      · intro w'
        first | (go_simp; with_reducible rfl) | (go_simp; simp only [qN]; rfl)
      rotate_left
      · simp only [Act.put, List.setIfInBounds_toArray, List.set_cons_zero, List.set_cons_succ, i64_w, i32_w]
        rfl
      refine pure_ (i := 2) (N := (some 41)) (v := ?_) (a' := ?_) #[true, true, true, false, false, false, false, false, false, true, true, true, false, false, false, false, false, false, false, false, false, false, false, false, false] rfl rfl (any_of HT_.out (by kernel_rfl)) (fun _ _ _ h => h) (Or.inl ⟨by rfl, ?_⟩) ?_ ?_
      rotate_left
      · intro w'
        go_simp
        with_reducible rfl
      rotate_left
      · simp only [Act.put, List.setIfInBounds_toArray, List.set_cons_zero, List.set_cons_succ, i64_w, i32_w]
        rfl
      refine pure_ (i := 3) (N := (some 42)) (v := ?_) (a' := ?_) #[true, true, true, true, false, false, false, false, false, true, true, true, false, false, false, false, false, false, false, false, false, false, false, false, false] rfl rfl (any_of HT_.out (by kernel_rfl)) (fun _ _ _ h => h) (Or.inl ⟨by rfl, ?_⟩) ?_ ?_
      rotate_left
      · intro w'
        go_simp
        with_reducible rfl
      rotate_left
      · simp only [Act.put, List.setIfInBounds_toArray, List.set_cons_zero, List.set_cons_succ, i64_w, i32_w]
        rfl
      refine pure_ (i := 4) (N := (some 43)) (v := undef) (a' := ?_) #[true, true, true, true, true, false, false, false, false, true, true, true, false, false, false, false, false, false, false, false, false, false, false, false, false] rfl rfl (any_of HT_.out (by kernel_rfl)) (fun _ _ _ h => h) (Or.inr ⟨by rfl, rfl⟩) ?_ ?_
      rotate_left
      · simp only [Act.put, List.setIfInBounds_toArray, List.set_cons_zero, List.set_cons_succ, i64_w, i32_w]
        rfl
      refine pure_ (i := 5) (N := (some 44)) (v := undef) (a' := ?_) #[true, true, true, true, true, true, false, false, false, true, true, true, false, false, false, false, false, false, false, false, false, false, false, false, false] rfl rfl (any_of HT_.out (by kernel_rfl)) (fun _ _ _ h => h) (Or.inr ⟨by rfl, rfl⟩) ?_ ?_
      rotate_left
      · simp only [Act.put, List.setIfInBounds_toArray, List.set_cons_zero, List.set_cons_succ, i64_w, i32_w]
        rfl
      refine pure_ (i := 6) (N := (some 45)) (v := undef) (a' := ?_) #[true, true, true, true, true, true, true, false, false, true, true, true, false, false, false, false, false, false, false, false, false, false, false, false, false] rfl rfl (any_of HT_.out (by kernel_rfl)) (fun _ _ _ h => h) (Or.inr ⟨by rfl, rfl⟩) ?_ ?_
      rotate_left
      · simp only [Act.put, List.setIfInBounds_toArray, List.set_cons_zero, List.set_cons_succ, i64_w, i32_w]
        rfl
      refine pure_ (i := 7) (N := (some 46)) (v := undef) (a' := ?_) #[true, true, true, true, true, true, true, true, false, true, true, true, false, false, false, false, false, false, false, false, false, false, false, false, false] rfl rfl (any_of HT_.out (by kernel_rfl)) (fun _ _ _ h => h) (Or.inr ⟨by rfl, rfl⟩) ?_ ?_
      rotate_left
      · simp only [Act.put, List.setIfInBounds_toArray, List.set_cons_zero, List.set_cons_succ, i64_w, i32_w]
        rfl
      refine pure_ (i := 8) (N := (some 47)) (v := ?_) (a' := ?_) #[true, true, true, true, true, true, true, true, true, true, true, true, false, false, false, false, false, false, false, false, false, false, false, false, false] rfl rfl (any_of HT_.out (by kernel_rfl)) (fun _ _ _ h => h) (Or.inl ⟨by rfl, ?_⟩) ?_ ?_
      rotate_left
      · intro w'
        go_simp
        with_reducible rfl
      rotate_left
      · simp only [Act.put, List.setIfInBounds_toArray, List.set_cons_zero, List.set_cons_succ, i64_w, i32_w]
        rfl
      refine pure_ (i := 12) (N := (some 51)) (v := ?_) (a' := ?_) #[true, true, true, true, true, true, true, true, true, true, true, true, true, false, false, false, false, false, false, false, false, false, false, false, false] rfl rfl (any_of HT_.out (by kernel_rfl)) (fun _ _ _ h => h) (Or.inl ⟨by rfl, ?_⟩) ?_ ?_
      rotate_left
      · intro w'
        go_simp
        with_reducible rfl
      rotate_left
      · simp only [Act.put, List.setIfInBounds_toArray, List.set_cons_zero, List.set_cons_succ, i64_w, i32_w]
        rfl
      refine pure_ (i := 13) (N := (some 52)) (v := ?_) (a' := ?_) #[true, true, true, true, true, true, true, true, true, true, true, true, true, true, false, false, false, false, false, false, false, false, false, false, false] rfl rfl (any_of HT_.out (by kernel_rfl)) (fun _ _ _ h => h) (Or.inl ⟨by rfl, ?_⟩) ?_ ?_
      rotate_left
      · intro w'
        go_simp
        with_reducible rfl
      rotate_left
      · simp only [Act.put, List.setIfInBounds_toArray, List.set_cons_zero, List.set_cons_succ, i64_w, i32_w]
        rfl
      refine pure_ (i := 14) (N := (some 53)) (v := ?_) (a' := ?_) #[true, true, true, true, true, true, true, true, true, true, true, true, true, true, true, false, false, false, false, false, false, false, false, false, false] rfl rfl (any_of HT_.out (by kernel_rfl)) (fun _ _ _ h => h) (Or.inl ⟨by rfl, ?_⟩) ?_ ?_
      rotate_left
      · intro w'
        go_simp
        with_reducible rfl
      rotate_left
      · simp only [Act.put, List.setIfInBounds_toArray, List.set_cons_zero, List.set_cons_succ, i64_w, i32_w]
        rfl
      refine pure_ (i := 15) (N := (some 54)) (v := ?_) (a' := ?_) #[true, true, true, true, true, true, true, true, true, true, true, true, true, true, true, true, false, false, false, false, false, false, false, false, false] rfl rfl (any_of HT_.out (by kernel_rfl)) (fun _ _ _ h => h) (Or.inl ⟨by rfl, ?_⟩) ?_ ?_
      rotate_left
      · intro w'
        go_simp
        with_reducible rfl
      rotate_left
      · simp only [Act.put, List.setIfInBounds_toArray, List.set_cons_zero, List.set_cons_succ, i64_w, i32_w]
        rfl
      refine pure_ (i := 16) (N := (some 55)) (v := ?_) (a' := ?_) #[true, true, true, true, true, true, true, true, true, true, true, true, true, true, true, true, true, false, false, false, false, false, false, false, false] rfl rfl (any_of HT_.out (by kernel_rfl)) (fun _ _ _ h => h) (Or.inl ⟨by rfl, ?_⟩) ?_ ?_
      rotate_left
      · intro w'
        go_simp
        with_reducible rfl
      rotate_left
      · simp only [Act.put, List.setIfInBounds_toArray, List.set_cons_zero, List.set_cons_succ, i64_w, i32_w]
        rfl
      refine pure_ (i := 17) (N := (some 56)) (v := ?_) (a' := ?_) #[true, true, true, true, true, true, true, true, true, true, true, true, true, true, true, true, true, true, false, false, false, false, false, false, false] rfl rfl (any_of HT_.out (by kernel_rfl)) (fun _ _ _ h => h) (Or.inl ⟨by rfl, ?_⟩) ?_ ?_
      rotate_left
      · intro w'
        go_simp
        with_reducible rfl
      rotate_left
      · simp only [Act.put, List.setIfInBounds_toArray, List.set_cons_zero, List.set_cons_succ, i64_w, i32_w]
        rfl
      refine take_ (i := 18) (N := (some 57)) (v := ?_) (a' := ?_) #[true, true, true, true, true, true, true, true, true, true, true, true, true, true, true, true, true, true, true, false, false, false, false, false, false] rfl rfl (take_ofW HT_.out HW_.out (by kernel_rfl)) (fun _ _ _ h => h) (Or.inl ⟨by rfl, ?_⟩) hHeld ?_ ?_
      rotate_left
      · rintro w' ⟨s0, s1, s2, s3⟩
        go_simp
        with_reducible rfl
      rotate_left
      · simp only [Act.put, List.setIfInBounds_toArray, List.set_cons_zero, List.set_cons_succ, i64_w, i32_w]
        rfl
      refine take_ (i := 19) (N := (some 58)) (v := ?_) (a' := ?_) #[true, true, true, true, true, true, true, true, true, true, true, true, true, true, true, true, true, true, true, true, false, false, false, false, false] rfl rfl (take_ofW HT_.out HW_.out (by kernel_rfl)) (fun _ _ _ h => h) (Or.inl ⟨by rfl, ?_⟩) hHeld ?_ ?_
      rotate_left
      · rintro w' ⟨s0, s1, s2, s3⟩
        go_simp
        with_reducible rfl
      rotate_left
      · simp only [Act.put, List.setIfInBounds_toArray, List.set_cons_zero, List.set_cons_succ, i64_w, i32_w]
        rfl
      refine one_ (i := 20) (N := (some 59)) #[true, true, true, true, true, true, true, true, true, true, true, true, true, true, true, true, true, true, true, true, true, false, false, false, false] rfl rfl (one_of HT_.out (by kernel_rfl)) (by decide) (fun K hK => ?_)
      refine goesc_ Try.func26 (cs := #[.pointer (some ⟨gx, 0, none⟩), .pointer (some ⟨gy, 0, none⟩)]) (by kernel_rfl) rfl #[.agg #[.int .i64 qx, .int .i64 qy], .agg #[.int .i64 px, .int .i64 py], .pointer (some ⟨gx, 0, none⟩), .pointer (some ⟨gy, 0, none⟩)] (by rfl) rfl rfl (by rfl) (by (try simp only [List.map_toArray, List.map_cons, List.map_nil]); first | done | rfl) ?_
      with_reducible refine (HC2.out gx gy _ hx3 hy3 (World.block_lt_of_cell? _ _ hx3) (World.block_lt_of_cell? _ _ hy3)).mono ?_
      rintro e w3 ⟨rfl, hb⟩
      refine ⟨_, rfl, ?_⟩
      have p0' := (hb.cell (World.block_lt_of_cell? _ _ p0)).trans p0; clear p0; have p0 := p0'; clear p0'
      have p1' := (hb.cell (World.block_lt_of_cell? _ _ p1)).trans p1; clear p1; have p1 := p1'; clear p1'
      have q0' := (hb.cell (World.block_lt_of_cell? _ _ q0)).trans q0; clear q0; have q0 := q0'; clear q0'
      have q1' := (hb.cell (World.block_lt_of_cell? _ _ q1)).trans q1; clear q1; have q1 := q1'; clear q1'
      have hx3' := (hb.cell (World.block_lt_of_cell? _ _ hx3)).trans hx3; clear hx3; have hx3 := hx3'; clear hx3'
      have hy3' := (hb.cell (World.block_lt_of_cell? _ _ hy3)).trans hy3; clear hy3; have hy3 := hy3'; clear hy3'
      have HB1' := Aside0.mk (below_step HB1.out hb); clear HB1; have HB1 := HB1'; clear HB1' hb
      have hHeld2 : _ ∧ _ ∧ _ ∧ _ := ⟨p0, p1, q0, q1⟩
      clear hHeld
      refine hK.out _ _ hHeld2 (fun hHeld => ?_)
      clear hK K hHeld2
      refine norm_ (a' := ?_) ?_ ?_
      rotate_left
      · show Act.put _ (some 59) _ = _
        simp only [Act.put, List.setIfInBounds_toArray, List.set_cons_zero, List.set_cons_succ, i64_w, i32_w]
        rfl
      refine pure_ (i := 21) (N := (some 60)) (v := ?_) (a' := ?_) #[true, true, true, true, true, true, true, true, true, true, true, true, true, true, true, true, true, true, true, true, true, true, false, false, false] rfl rfl (any_of HT_.out (by kernel_rfl)) (fun _ _ _ h => h) (Or.inl ⟨by rfl, ?_⟩) ?_ ?_
      rotate_left
      · intro w'
        go_simp
        with_reducible rfl
      rotate_left
      · simp only [Act.put, List.setIfInBounds_toArray, List.set_cons_zero, List.set_cons_succ, i64_w, i32_w]
        rfl
      refine pure_ (i := 22) (N := (some 61)) (v := ?_) (a' := ?_) #[true, true, true, true, true, true, true, true, true, true, true, true, true, true, true, true, true, true, true, true, true, true, true, false, false] rfl rfl (any_of HT_.out (by kernel_rfl)) (fun _ _ _ h => h) (Or.inl ⟨by rfl, ?_⟩) ?_ ?_
      rotate_left
      · intro w'
        go_simp
        with_reducible rfl
      rotate_left
      · simp only [Act.put, List.setIfInBounds_toArray, List.set_cons_zero, List.set_cons_succ, i64_w, i32_w]
        rfl
      refine pure_ (i := 23) (N := (some 62)) (v := ?_) (a' := ?_) #[true, true, true, true, true, true, true, true, true, true, true, true, true, true, true, true, true, true, true, true, true, true, true, true, false] rfl rfl (any_of HT_.out (by kernel_rfl)) (fun _ _ _ h => h) (Or.inl ⟨by rfl, ?_⟩) ?_ ?_
      rotate_left
      · intro w'
        go_simp
        with_reducible rfl
      rotate_left
      · simp only [Act.put, List.setIfInBounds_toArray, List.set_cons_zero, List.set_cons_succ, i64_w, i32_w]
        rfl
      refine pure_ (i := 24) (N := (some 6)) (v := ?_) (a' := ?_) #[true, true, true, true, true, true, true, true, true, true, true, true, true, true, true, true, true, true, true, true, true, true, true, true, true] rfl rfl (any_of HT_.out (by kernel_rfl)) (fun _ _ _ h => h) (Or.inl ⟨by rfl, ?_⟩) ?_ ?_
      rotate_left
      · intro w'
        go_simp
        with_reducible rfl
      rotate_left
      · simp only [Act.put, List.setIfInBounds_toArray, List.set_cons_zero, List.set_cons_succ, i64_w, i32_w]
        rfl
      refine done_ (done_of HT_.out (by kernel_rfl)) ?_
      try go_wp2_with fail
      go_ret
      exact ⟨by first | rfl | simp, HB1.out⟩
end Go.Proofs.Ytfjhelbmopdbiaa.F
