/- OrderMet, walked by hand. Conditions: none beyond the law's own guards. -/
import Derived.Test.YtcfnheoppaelbaaPO
import Derived.Test.YtcfnheoppaelbaaF4
import Derived.Test.YtcfnheoppaelbaaF5
import Derived.Test.YtcfnheoppaelbaaHAlive07
namespace Go.Proofs.Ytcfnheoppaelbaa.F
open Go.RowKit Go.Proofs.Ytcfnheoppaelbaa.PxM Go.Proofs.YtcfnheoppaelbaaW.PrintWords Go.Proofs.YtcfnheoppaelbaaW.PrintLast Go.Proofs.YtcfnheoppaelbaaW.PrintMore
set_option linter.unusedVariables false
set_option linter.unusedSimpArgs false
def orderMet.T1 : Bool × List (List Nat × List Nat) := (true, [([], []), ([0], [0]), ([], []), ([2], [2]), ([], []), ([], []), ([4, 1, 0, 1, 4, 5], [1, 4]), ([5, 3, 6, 0, 1, 2, 3, 4, 5, 6], [3, 5])])
def orderMet.B1 : List Nat := [0, 1, 0, 4, 0, 0, 51, 127]
theorem orderMet.tab1 : rtab .any (opsOf Try.f3 1) = orderMet.T1 := by kernel_rfl
theorem orderMet.bits1 : waitsOk orderMet.T1.2 orderMet.B1 = true := by kernel_rfl
def orderMet.T9 : Bool × List (List Nat × List Nat) := (true, [([], []), ([0], [0]), ([], []), ([2], [2]), ([1, 3], [1, 3]), ([], []), ([5], [5]), ([], []), ([7], [7]), ([6, 8], [6, 8]), ([4, 0, 1, 2, 3, 4], [4]), ([9, 10, 0, 1, 2, 3, 4, 5, 6, 7, 8, 9, 10], [9])])
def orderMet.B9 : List Nat := [0, 1, 0, 4, 15, 0, 32, 0, 128, 480, 31, 2047]
theorem orderMet.tab9 : rtab .any (opsOf Try.f3 9) = orderMet.T9 := by kernel_rfl
theorem orderMet.bits9 : waitsOk orderMet.T9.2 orderMet.B9 = true := by kernel_rfl
theorem bkc {w : World} {g : Nat} {t : TypeId} {cs : Array Value} (h : w.heap[g]? = some (.cells cs t (0, 0))) (i : Nat) (v : Value) (hv : cs[i]? = some v) : w.cell? ⟨g, i, none⟩ = some v := (blk_cell h i).trans hv
theorem bkb {w w' : World} {g : Nat} {o : Obj} (h : w.heap[g]? = some o) (hb : Below w.heap.size w w') : w'.heap[g]? = some o := (hb.block g (blk_lt h)).trans h
theorem run_equalIn_func_nil {P : Program} {ps rs : Array TypeId} {vd : Bool} (d : Nat) (t : TypeId) (h : P.underlying t = some (.func ps rs vd)) (W : World) (f : Fn) (x y : Array Value) : (Op.equalIn (d + 1) t (.func f x y) .nilFunc).run P W = .ok false W := by
  simp [Op.equalIn, run_underlying h]
theorem run_eql_func_nil {P : Program} {ps rs : Array TypeId} {vd : Bool} (t : TypeId) (h : P.underlying t = some (.func ps rs vd)) (W : World) (f : Fn) (x y : Array Value) : (binOp .eql t (.func f x y) .nilFunc).run P W = .ok (.bool false) W := by
  simp only [binOp]
  simp [Op.equal, Op.maxDepth, run_equalIn_func_nil 9999 t h]
def rungR (k : Int) : Int := if k < 0 then 0 else if k > 28 then 28 else k
theorem Rung_eq (k : Int) : cobwebref03_Rung.f k = Option.some (rungR k) := by
  unfold cobwebref03_Rung.f rungR
  repeat' split
  all_goals rfl
theorem rungR_eq {k : Int} (h : k = rungR k) : 0 ≤ k ∧ k ≤ 28 := by
  unfold rungR at h
  split at h
  · omega
  · split at h <;> omega
theorem right_eq (x y : Int) : ∃ r, cobwebref05_Right.f x y = Option.some r := by
  unfold cobwebref05_Right.f
  repeat' split
  all_goals exact ⟨_, rfl⟩
theorem alive_m (w : World) : Calls Try.prog 7 #[] w fun e w' => e = .returned (.bool true) ∧ Below w.heap.size w w' := cobweblaw07_alive.calls0 w
theorem rung_m (k : Int) (w : World) : Calls Try.prog 4 #[.int .i64 k] w fun e w' => e = .returned (.int .i64 (rungR k)) ∧ Below w.heap.size w w' := (cobwebref03_Rung.calls k _ w (Rung_eq k)).mono fun e w' h => ⟨h.1, h.2.below⟩
theorem right_m (x y : Int) (r : Bool) (h : cobwebref05_Right.f x y = Option.some r) (w : World) : Calls Try.prog 5 #[.agg #[.int .i64 x, .int .i64 y]] w fun e w' => e = .returned (.bool r) ∧ Below w.heap.size w w' := cobwebref05_Right.calls x y r w h
theorem hits_m (ax ay bx yb qx qy k : Int) (w : World) : Calls Try.prog 6 #[.agg #[.int .i64 ax, .int .i64 ay], .agg #[.int .i64 bx, .int .i64 yb], .agg #[.int .i64 qx, .int .i64 qy], .int .i64 k] w fun e w' => e = .returned (.bool (hitsB ax ay bx yb qx qy k)) ∧ Below w.heap.size w w' := pixel_Hits.calls 1 ax ay bx yb qx qy k _ w (Hits_eq 0 ax ay bx yb qx qy k)
theorem hits_small {ax ay bx yb x y k : Int} (h : hitsB ax ay bx yb x y k = true) : -134217728 ≤ x ∧ x ≤ 134217728 ∧ -134217728 ≤ y ∧ y ≤ 134217728 := by
  have hm := mostAt_bounds k
  unfold hitsB at h
  rw [Bool.and_eq_true, Bool.and_eq_true, Bool.and_eq_true] at h
  have h2 := h.1.2
  unfold nearB at h2
  simp only [Bool.and_eq_true, decide_eq_true_eq] at h2
  omega
theorem w64 {x : Int} (h0 : -9223372036854775808 ≤ x) (h1 : x < 9223372036854775808) : wrap64 x = x := by unfold wrap64; omega
theorem wsub {a b : Int} (h1 : -134217728 ≤ a) (h2 : a ≤ 134217728) (h3 : -134217728 ≤ b) (h4 : b ≤ 134217728) : wrap64 (a - b) = a - b ∧ wrap64 (-(a - b)) = -(a - b) := ⟨w64 (by omega) (by omega), w64 (by omega) (by omega)⟩
theorem ahead_eq (x y : Bool) (px py qx qy : Int) : aheadOf x y px py qx qy = aheadP x y px py qx qy := rfl
theorem skipS_ {P : Program} {ops : Array Oper} {Q : Exit → Act → World → Prop} {oi : Oper} {N : Option Tmp} {a : Act} {w w1 : World} {K : Act → World → Prop} (hw : Region.wanted oi (yielded ops a.tmps) = true) (hd : oi.dst = none) (hN : N = none) (hrun : (execOp a.eval oi).run P w = .ok .skip w1)
    (h : K (a.put none undef) w1) : if Region.wanted oi (yielded ops a.tmps) = true then Oper.wp P oi a w K Q else K (a.put N undef) w := by
  rw [if_pos hw]
  subst hN
  unfold Oper.wp
  rw [hrun]
  show K (a.put oi.dst undef) w1
  rw [hd]
  exact h
set_option maxHeartbeats 16000000 in
set_option maxRecDepth 100000 in
theorem orderMet.walk (ax ay bx yb px py qx qy k : Int) (w : World) :
    Calls Try.prog 3 #[.agg #[.int .i64 ax, .int .i64 ay, .int .i64 bx, .int .i64 yb], .agg #[.int .i64 px, .int .i64 py, .int .i64 qx, .int .i64 qy], .int .i64 k] w fun e w' => e = .returned (.bool true) ∧ Below w.heap.size w w' := by
  have hb2 := below_alloc (below_alloc (Below.refl _ w) (.cells #[.int .i64 ax, .int .i64 ay, .int .i64 bx, .int .i64 yb] 24 (0, 0))) (.cells #[.int .i64 px, .int .i64 py, .int .i64 qx, .int .i64 qy] 26 (0, 0))
  have hbd := below_drew hb2
  have k3 : ((w.alloc (.cells #[.int .i64 ax, .int .i64 ay, .int .i64 bx, .int .i64 yb] 24 (0, 0))).alloc (.cells #[.int .i64 px, .int .i64 py, .int .i64 qx, .int .i64 qy] 26 (0, 0))).heap[w.heap.size]? = some (.cells #[.int .i64 ax, .int .i64 ay, .int .i64 bx, .int .i64 yb] 24 (0, 0)) := bkb (heap_alloc_new w (.cells #[.int .i64 ax, .int .i64 ay, .int .i64 bx, .int .i64 yb] 24 (0, 0))) (below_alloc (Below.refl _ _) (.cells #[.int .i64 px, .int .i64 py, .int .i64 qx, .int .i64 qy] 26 (0, 0)))
  have k4 : ((w.alloc (.cells #[.int .i64 ax, .int .i64 ay, .int .i64 bx, .int .i64 yb] 24 (0, 0))).alloc (.cells #[.int .i64 px, .int .i64 py, .int .i64 qx, .int .i64 qy] 26 (0, 0))).heap[(w.alloc (.cells #[.int .i64 ax, .int .i64 ay, .int .i64 bx, .int .i64 yb] 24 (0, 0))).heap.size]? = some (.cells #[.int .i64 px, .int .i64 py, .int .i64 qx, .int .i64 qy] 26 (0, 0)) := heap_alloc_new (w.alloc (.cells #[.int .i64 ax, .int .i64 ay, .int .i64 bx, .int .i64 yb] 24 (0, 0))) (.cells #[.int .i64 px, .int .i64 py, .int .i64 qx, .int .i64 qy] 26 (0, 0))
  have e4 : (w.alloc (.cells #[.int .i64 ax, .int .i64 ay, .int .i64 bx, .int .i64 yb] 24 (0, 0))).heap.size = w.heap.size + 1 := by simp
  rw [e4] at k4
  have HB2 := Aside0.mk hbd
  have hh : ((w.alloc (.cells #[.int .i64 ax, .int .i64 ay, .int .i64 bx, .int .i64 yb] 24 (0, 0))).alloc (.cells #[.int .i64 px, .int .i64 py, .int .i64 qx, .int .i64 qy] 26 (0, 0))).drew.heap[w.heap.size]? = some (.cells #[.int .i64 ax, .int .i64 ay, .int .i64 bx, .int .i64 yb] 24 (0, 0)) ∧ ((w.alloc (.cells #[.int .i64 ax, .int .i64 ay, .int .i64 bx, .int .i64 yb] 24 (0, 0))).alloc (.cells #[.int .i64 px, .int .i64 py, .int .i64 qx, .int .i64 qy] 26 (0, 0))).drew.heap[w.heap.size + 1]? = some (.cells #[.int .i64 px, .int .i64 py, .int .i64 qx, .int .i64 qy] 26 (0, 0)) := ⟨k3, k4⟩
  clear hb2 hbd k3 k4 e4
  go_enter Try.func3, Try.ntmps3
  go_wp2_with fail
  refine start_ (n := 8) (S := fun W => W.heap[w.heap.size]? = some (.cells #[.int .i64 ax, .int .i64 ay, .int .i64 bx, .int .i64 yb] 24 (0, 0)) ∧ W.heap[w.heap.size + 1]? = some (.cells #[.int .i64 px, .int .i64 py, .int .i64 qx, .int .i64 qy] 26 (0, 0))) (ds := []) #[false, false, false, false, false, false, false, false] (by kernel_rfl) rfl rfl hh (fun hHeld => ?_); refine with_tabW orderMet.tab1 orderMet.bits1 (fun HT_ HW_ => ?_)
  generalize ((w.alloc (.cells #[.int .i64 ax, .int .i64 ay, .int .i64 bx, .int .i64 yb] 24 (0, 0))).alloc (.cells #[.int .i64 px, .int .i64 py, .int .i64 qx, .int .i64 qy] 26 (0, 0))).drew = w1 at hHeld HB2
  clear hh
  refine pure_ (i := 0) (N := (some 12)) (v := ?_) (a' := ?_) #[true, false, false, false, false, false, false, false] rfl rfl (any_of HT_.out (by kernel_rfl)) (fun _ _ _ h => h) (Or.inl ⟨by rfl, ?_⟩) ?_ ?_
  rotate_left
  · intro w'
    go_simp
    with_reducible rfl
  rotate_left
  · simp only [Act.put, List.setIfInBounds_toArray, List.set_cons_zero, List.set_cons_succ, i64_w, i32_w]
    rfl
  refine take_ (i := 1) (N := (some 13)) (v := ?_) (a' := ?_) #[true, true, false, false, false, false, false, false] rfl rfl (take_ofW HT_.out HW_.out (by kernel_rfl)) (fun _ _ _ h => h) (Or.inl ⟨by rfl, ?_⟩) hHeld ?_ ?_
  rotate_left
  · rintro w' ⟨s1, s2⟩
    have h0 := bkc s2 0 _ rfl
    have h1 := bkc s2 1 _ rfl
    have h2 := bkc s2 2 _ rfl
    have h3 := bkc s2 3 _ rfl
    go_simp
    with_reducible rfl
  rotate_left
  · simp only [Act.put, List.setIfInBounds_toArray, List.set_cons_zero, List.set_cons_succ, i64_w, i32_w]
    rfl
  refine pure_ (i := 2) (N := (some 14)) (v := ?_) (a' := ?_) #[true, true, true, false, false, false, false, false] rfl rfl (any_of HT_.out (by kernel_rfl)) (fun _ _ _ h => h) (Or.inl ⟨by rfl, ?_⟩) ?_ ?_
  rotate_left
  · intro w'
    go_simp
    with_reducible rfl
  rotate_left
  · simp only [Act.put, List.setIfInBounds_toArray, List.set_cons_zero, List.set_cons_succ, i64_w, i32_w]
    rfl
  refine take_ (i := 3) (N := (some 15)) (v := ?_) (a' := ?_) #[true, true, true, true, false, false, false, false] rfl rfl (take_ofW HT_.out HW_.out (by kernel_rfl)) (fun _ _ _ h => h) (Or.inl ⟨by rfl, ?_⟩) hHeld ?_ ?_
  rotate_left
  · rintro w' ⟨s1, s2⟩
    have h0 := bkc s2 0 _ rfl
    have h1 := bkc s2 1 _ rfl
    have h2 := bkc s2 2 _ rfl
    have h3 := bkc s2 3 _ rfl
    go_simp
    with_reducible rfl
  rotate_left
  · simp only [Act.put, List.setIfInBounds_toArray, List.set_cons_zero, List.set_cons_succ, i64_w, i32_w]
    rfl
  refine join_ (σ := Nat × Nat) 0 #[true, true, true, true, true, true, true, true] (fun s => [(7, .pointer (some ⟨s.1, 0, none⟩)), (8, .pointer (some ⟨s.2, 0, none⟩))]) (fun s W => W.heap[s.1]? = some (.cells #[.int .i64 px, .int .i64 py] 25 (0, 0)) ∧ W.heap[s.2]? = some (.cells #[.int .i64 qx, .int .i64 qy] 25 (0, 0)) ∧ W.heap[w.heap.size]? = some (.cells #[.int .i64 ax, .int .i64 ay, .int .i64 bx, .int .i64 yb] 24 (0, 0)) ∧ s.1 ≠ s.2 ∧ w.heap.size < s.1 ∧ w.heap.size < s.2 ∧ Below w.heap.size w W) ?_ ?_
  rotate_left
  · intro hc
    refine two_ (i := 4) (j := 5) (Ni := some 7) (Nj := some 8) #[true, true, true, true, true, false, false, false] #[true, true, true, true, false, true, false, false] rfl rfl rfl rfl (by kernel_rfl) (by decide) (by decide) (fun K hK => ?_) (fun K hK => ?_)
    · skip
      refine value_ (w1 := w1.alloc (.cells #[.int .i64 0, .int .i64 0] 25)) (v := .pointer (some ⟨w1.heap.size, 0, none⟩)) (by rfl) rfl (by first | (go_simp; done) | (go_simp; rfl) | (go_simp; constructor <;> rfl)) ?_
      have hb := below_alloc (Below.refl w1.heap.size w1) (.cells #[.int .i64 0, .int .i64 0] 25)
      have hS : _ ∧ _ := ⟨bkb hHeld.1 hb, bkb hHeld.2 hb⟩
      have Nb7 := heap_alloc_new w1 (.cells #[.int .i64 0, .int .i64 0] 25)
      have BA := Aside0.mk (below_step HB2.out hb)
      have LT1 := Aside0.mk (blk_lt hHeld.1)
      have LTb := Aside0.mk (blk_lt hHeld.2)
      clear hHeld hb
      refine hK.out _ _ hS (fun hHeld => ?_)
      clear hK K hS
      refine norm_ (a' := ?_) ?_ ?_
      rotate_left
      · show Act.put _ (some 7) _ = _
        simp only [Act.put, List.setIfInBounds_toArray, List.set_cons_zero, List.set_cons_succ, i64_w, i32_w]
        rfl
      generalize hwa : w1.alloc (.cells #[.int .i64 0, .int .i64 0] 25) = wa at hHeld Nb7 BA ⊢
      clear hwa
      generalize w1.heap.size = b7 at Nb7 LT1 LTb ⊢
      refine one_ (i := 5) (N := some 8) #[true, true, true, true, true, true, false, false] rfl rfl (by kernel_rfl) (by decide) (fun K hK => ?_)
      refine value_ (w1 := wa.alloc (.cells #[.int .i64 0, .int .i64 0] 25)) (v := .pointer (some ⟨wa.heap.size, 0, none⟩)) (by rfl) rfl (by first | (go_simp; done) | (go_simp; rfl) | (go_simp; constructor <;> rfl)) ?_
      have hb := below_alloc (Below.refl wa.heap.size wa) (.cells #[.int .i64 0, .int .i64 0] 25)
      have hS : _ ∧ _ := ⟨bkb hHeld.1 hb, bkb hHeld.2 hb⟩
      have Nb8 := heap_alloc_new wa (.cells #[.int .i64 0, .int .i64 0] 25)
      have Mb7 := (hb.block _ (blk_lt Nb7)).trans Nb7
      have BB := Aside0.mk (below_step BA.out hb)
      have LT2 := Aside0.mk (blk_lt Nb7)
      have LT3 := Aside0.mk (blk_lt hHeld.1)
      have LTc := Aside0.mk (blk_lt hHeld.2)
      clear hHeld hb Nb7
      refine hK.out _ _ hS (fun hHeld => ?_)
      clear hK K hS
      refine norm_ (a' := ?_) ?_ ?_
      rotate_left
      · show Act.put _ (some 8) _ = _
        simp only [Act.put, List.setIfInBounds_toArray, List.set_cons_zero, List.set_cons_succ, i64_w, i32_w]
        rfl
      generalize hwb : wa.alloc (.cells #[.int .i64 0, .int .i64 0] 25) = wb at hHeld Nb8 Mb7 BB ⊢
      clear hwb
      generalize wa.heap.size = b8 at Nb8 LT2 LT3 LTc ⊢
      have Mb8 := Nb8
      clear Nb8
      have hne : b7 ≠ b8 := by have := LT2.out; omega
      have hf7 : w.heap.size < b7 := by have := LT1.out; have := LT2.out; have := LT3.out; omega
      have hf8 : w.heap.size < b8 := by have := LT1.out; have := LT2.out; have := LT3.out; omega
      have hg7 : w.heap.size + 1 < b7 := by have := LTb.out; have := LT2.out; have := LTc.out; omega
      have hg8 : w.heap.size + 1 < b8 := by have := LTb.out; have := LT2.out; have := LTc.out; omega
      refine one_ (i := 6) (N := none) #[true, true, true, true, true, true, true, false] rfl rfl (by kernel_rfl) (by decide) (fun K hK => ?_)
      have g0 := (blk_cell Mb7 0).trans (show _ = some (.int .i64 0) from rfl)
      have g1 := (blk_cell Mb7 1).trans (show _ = some (.int .i64 0) from rfl)
      have z0 := blk_frozen Mb7 0
      have z1 := blk_frozen Mb7 1
      refine skipS_ (w1 := ((wb.setCell ⟨b7, 0, none⟩ (.int .i64 px)).setCell ⟨b7, 1, none⟩ (.int .i64 py))) (by rfl) rfl rfl (by first | (go_simp; done) | (go_simp; rfl)) ?_
      have Pb7 := blk_put (cs' := #[.int .i64 px, .int .i64 py]) (blk_put (cs' := #[.int .i64 px, .int .i64 0]) Mb7 0 (.int .i64 px) rfl) 1 (.int .i64 py) rfl
      have far : ∀ g, g ≠ b7 → ((wb.setCell ⟨b7, 0, none⟩ (.int .i64 px)).setCell ⟨b7, 1, none⟩ (.int .i64 py)).heap[g]? = wb.heap[g]? := fun g hg => (Below.heap_setCell _ ⟨b7, 1, none⟩ _ g hg).trans (Below.heap_setCell _ ⟨b7, 0, none⟩ _ g hg)
      have hS : _ ∧ _ := ⟨(far w.heap.size (Nat.ne_of_lt hf7)).trans hHeld.1, (far (w.heap.size + 1) (Nat.ne_of_lt hg7)).trans hHeld.2⟩
      have Qb8 := (far b8 (Ne.symm hne)).trans Mb8
      have BC := Aside0.mk ((BB.out.setCell (p := ⟨b7, 0, none⟩) (show w.heap.size ≤ b7 from Nat.le_of_lt hf7) (.int .i64 px)).setCell (p := ⟨b7, 1, none⟩) (show w.heap.size ≤ b7 from Nat.le_of_lt hf7) (.int .i64 py))
      clear hHeld far Mb7 Mb8 BB g0 g1 z0 z1
      refine hK.out _ _ hS (fun hHeld => ?_)
      clear hK K hS
      refine norm_ (a' := ?_) ?_ ?_
      rotate_left
      · show Act.put _ none _ = _
        simp only [Act.put]
        rfl
      generalize hwq : ((wb.setCell ⟨b7, 0, none⟩ (.int .i64 px)).setCell ⟨b7, 1, none⟩ (.int .i64 py)) = wc at hHeld Pb7 Qb8 BC ⊢
      clear hwq
      have BB := BC
      clear BC
      have Mb8 := Qb8
      clear Qb8
      refine one_ (i := 7) (N := none) #[true, true, true, true, true, true, true, true] rfl rfl (by kernel_rfl) (by decide) (fun K hK => ?_)
      have g0 := (blk_cell Mb8 0).trans (show _ = some (.int .i64 0) from rfl)
      have g1 := (blk_cell Mb8 1).trans (show _ = some (.int .i64 0) from rfl)
      have z0 := blk_frozen Mb8 0
      have z1 := blk_frozen Mb8 1
      refine skipS_ (w1 := ((wc.setCell ⟨b8, 0, none⟩ (.int .i64 qx)).setCell ⟨b8, 1, none⟩ (.int .i64 qy))) (by rfl) rfl rfl (by first | (go_simp; done) | (go_simp; rfl)) ?_
      have Pb8 := blk_put (cs' := #[.int .i64 qx, .int .i64 qy]) (blk_put (cs' := #[.int .i64 qx, .int .i64 0]) Mb8 0 (.int .i64 qx) rfl) 1 (.int .i64 qy) rfl
      have far : ∀ g, g ≠ b8 → ((wc.setCell ⟨b8, 0, none⟩ (.int .i64 qx)).setCell ⟨b8, 1, none⟩ (.int .i64 qy)).heap[g]? = wc.heap[g]? := fun g hg => (Below.heap_setCell _ ⟨b8, 1, none⟩ _ g hg).trans (Below.heap_setCell _ ⟨b8, 0, none⟩ _ g hg)
      have hS : _ ∧ _ := ⟨(far w.heap.size (Nat.ne_of_lt hf8)).trans hHeld.1, (far (w.heap.size + 1) (Nat.ne_of_lt hg8)).trans hHeld.2⟩
      have Qb7 := (far b7 hne).trans Pb7
      have BC := Aside0.mk ((BB.out.setCell (p := ⟨b8, 0, none⟩) (show w.heap.size ≤ b8 from Nat.le_of_lt hf8) (.int .i64 qx)).setCell (p := ⟨b8, 1, none⟩) (show w.heap.size ≤ b8 from Nat.le_of_lt hf8) (.int .i64 qy))
      clear hHeld far Mb8 Pb7 BB g0 g1 z0 z1
      refine hK.out _ _ hS (fun hHeld => ?_)
      clear hK K hS
      refine norm_ (a' := ?_) ?_ ?_
      rotate_left
      · show Act.put _ none _ = _
        simp only [Act.put]
        rfl
      generalize hwq : ((wc.setCell ⟨b8, 0, none⟩ (.int .i64 qx)).setCell ⟨b8, 1, none⟩ (.int .i64 qy)) = wd at hHeld Pb8 Qb7 BC ⊢
      clear hwq
      have BB := BC
      clear BC
      exact norm_ (by first | (simp only [putAll, Act.put, List.setIfInBounds_toArray, List.set_cons_zero, List.set_cons_succ]; done) | (simp only [putAll, Act.put, List.setIfInBounds_toArray, List.set_cons_zero, List.set_cons_succ]; rfl)) (hc (b7, b8) _ ⟨Qb7, Pb8, hHeld.1, hne, hf7, hf8, BB.out⟩)
    · skip
      refine value_ (w1 := w1.alloc (.cells #[.int .i64 0, .int .i64 0] 25)) (v := .pointer (some ⟨w1.heap.size, 0, none⟩)) (by rfl) rfl (by first | (go_simp; done) | (go_simp; rfl) | (go_simp; constructor <;> rfl)) ?_
      have hb := below_alloc (Below.refl w1.heap.size w1) (.cells #[.int .i64 0, .int .i64 0] 25)
      have hS : _ ∧ _ := ⟨bkb hHeld.1 hb, bkb hHeld.2 hb⟩
      have Nb8 := heap_alloc_new w1 (.cells #[.int .i64 0, .int .i64 0] 25)
      have BA := Aside0.mk (below_step HB2.out hb)
      have LT1 := Aside0.mk (blk_lt hHeld.1)
      have LTb := Aside0.mk (blk_lt hHeld.2)
      clear hHeld hb
      refine hK.out _ _ hS (fun hHeld => ?_)
      clear hK K hS
      refine norm_ (a' := ?_) ?_ ?_
      rotate_left
      · show Act.put _ (some 8) _ = _
        simp only [Act.put, List.setIfInBounds_toArray, List.set_cons_zero, List.set_cons_succ, i64_w, i32_w]
        rfl
      generalize hwa : w1.alloc (.cells #[.int .i64 0, .int .i64 0] 25) = wa at hHeld Nb8 BA ⊢
      clear hwa
      generalize w1.heap.size = b8 at Nb8 LT1 LTb ⊢
      refine one_ (i := 4) (N := some 7) #[true, true, true, true, true, true, false, false] rfl rfl (by kernel_rfl) (by decide) (fun K hK => ?_)
      refine value_ (w1 := wa.alloc (.cells #[.int .i64 0, .int .i64 0] 25)) (v := .pointer (some ⟨wa.heap.size, 0, none⟩)) (by rfl) rfl (by first | (go_simp; done) | (go_simp; rfl) | (go_simp; constructor <;> rfl)) ?_
      have hb := below_alloc (Below.refl wa.heap.size wa) (.cells #[.int .i64 0, .int .i64 0] 25)
      have hS : _ ∧ _ := ⟨bkb hHeld.1 hb, bkb hHeld.2 hb⟩
      have Nb7 := heap_alloc_new wa (.cells #[.int .i64 0, .int .i64 0] 25)
      have Mb8 := (hb.block _ (blk_lt Nb8)).trans Nb8
      have BB := Aside0.mk (below_step BA.out hb)
      have LT2 := Aside0.mk (blk_lt Nb8)
      have LT3 := Aside0.mk (blk_lt hHeld.1)
      have LTc := Aside0.mk (blk_lt hHeld.2)
      clear hHeld hb Nb8
      refine hK.out _ _ hS (fun hHeld => ?_)
      clear hK K hS
      refine norm_ (a' := ?_) ?_ ?_
      rotate_left
      · show Act.put _ (some 7) _ = _
        simp only [Act.put, List.setIfInBounds_toArray, List.set_cons_zero, List.set_cons_succ, i64_w, i32_w]
        rfl
      generalize hwb : wa.alloc (.cells #[.int .i64 0, .int .i64 0] 25) = wb at hHeld Nb7 Mb8 BB ⊢
      clear hwb
      generalize wa.heap.size = b7 at Nb7 LT2 LT3 LTc ⊢
      have Mb7 := Nb7
      clear Nb7
      have hne : b7 ≠ b8 := by have := LT2.out; omega
      have hf7 : w.heap.size < b7 := by have := LT1.out; have := LT2.out; have := LT3.out; omega
      have hf8 : w.heap.size < b8 := by have := LT1.out; have := LT2.out; have := LT3.out; omega
      have hg7 : w.heap.size + 1 < b7 := by have := LTb.out; have := LT2.out; have := LTc.out; omega
      have hg8 : w.heap.size + 1 < b8 := by have := LTb.out; have := LT2.out; have := LTc.out; omega
      refine one_ (i := 6) (N := none) #[true, true, true, true, true, true, true, false] rfl rfl (by kernel_rfl) (by decide) (fun K hK => ?_)
      have g0 := (blk_cell Mb7 0).trans (show _ = some (.int .i64 0) from rfl)
      have g1 := (blk_cell Mb7 1).trans (show _ = some (.int .i64 0) from rfl)
      have z0 := blk_frozen Mb7 0
      have z1 := blk_frozen Mb7 1
      refine skipS_ (w1 := ((wb.setCell ⟨b7, 0, none⟩ (.int .i64 px)).setCell ⟨b7, 1, none⟩ (.int .i64 py))) (by rfl) rfl rfl (by first | (go_simp; done) | (go_simp; rfl)) ?_
      have Pb7 := blk_put (cs' := #[.int .i64 px, .int .i64 py]) (blk_put (cs' := #[.int .i64 px, .int .i64 0]) Mb7 0 (.int .i64 px) rfl) 1 (.int .i64 py) rfl
      have far : ∀ g, g ≠ b7 → ((wb.setCell ⟨b7, 0, none⟩ (.int .i64 px)).setCell ⟨b7, 1, none⟩ (.int .i64 py)).heap[g]? = wb.heap[g]? := fun g hg => (Below.heap_setCell _ ⟨b7, 1, none⟩ _ g hg).trans (Below.heap_setCell _ ⟨b7, 0, none⟩ _ g hg)
      have hS : _ ∧ _ := ⟨(far w.heap.size (Nat.ne_of_lt hf7)).trans hHeld.1, (far (w.heap.size + 1) (Nat.ne_of_lt hg7)).trans hHeld.2⟩
      have Qb8 := (far b8 (Ne.symm hne)).trans Mb8
      have BC := Aside0.mk ((BB.out.setCell (p := ⟨b7, 0, none⟩) (show w.heap.size ≤ b7 from Nat.le_of_lt hf7) (.int .i64 px)).setCell (p := ⟨b7, 1, none⟩) (show w.heap.size ≤ b7 from Nat.le_of_lt hf7) (.int .i64 py))
      clear hHeld far Mb7 Mb8 BB g0 g1 z0 z1
      refine hK.out _ _ hS (fun hHeld => ?_)
      clear hK K hS
      refine norm_ (a' := ?_) ?_ ?_
      rotate_left
      · show Act.put _ none _ = _
        simp only [Act.put]
        rfl
      generalize hwq : ((wb.setCell ⟨b7, 0, none⟩ (.int .i64 px)).setCell ⟨b7, 1, none⟩ (.int .i64 py)) = wc at hHeld Pb7 Qb8 BC ⊢
      clear hwq
      have BB := BC
      clear BC
      have Mb8 := Qb8
      clear Qb8
      refine one_ (i := 7) (N := none) #[true, true, true, true, true, true, true, true] rfl rfl (by kernel_rfl) (by decide) (fun K hK => ?_)
      have g0 := (blk_cell Mb8 0).trans (show _ = some (.int .i64 0) from rfl)
      have g1 := (blk_cell Mb8 1).trans (show _ = some (.int .i64 0) from rfl)
      have z0 := blk_frozen Mb8 0
      have z1 := blk_frozen Mb8 1
      refine skipS_ (w1 := ((wc.setCell ⟨b8, 0, none⟩ (.int .i64 qx)).setCell ⟨b8, 1, none⟩ (.int .i64 qy))) (by rfl) rfl rfl (by first | (go_simp; done) | (go_simp; rfl)) ?_
      have Pb8 := blk_put (cs' := #[.int .i64 qx, .int .i64 qy]) (blk_put (cs' := #[.int .i64 qx, .int .i64 0]) Mb8 0 (.int .i64 qx) rfl) 1 (.int .i64 qy) rfl
      have far : ∀ g, g ≠ b8 → ((wc.setCell ⟨b8, 0, none⟩ (.int .i64 qx)).setCell ⟨b8, 1, none⟩ (.int .i64 qy)).heap[g]? = wc.heap[g]? := fun g hg => (Below.heap_setCell _ ⟨b8, 1, none⟩ _ g hg).trans (Below.heap_setCell _ ⟨b8, 0, none⟩ _ g hg)
      have hS : _ ∧ _ := ⟨(far w.heap.size (Nat.ne_of_lt hf8)).trans hHeld.1, (far (w.heap.size + 1) (Nat.ne_of_lt hg8)).trans hHeld.2⟩
      have Qb7 := (far b7 hne).trans Pb7
      have BC := Aside0.mk ((BB.out.setCell (p := ⟨b8, 0, none⟩) (show w.heap.size ≤ b8 from Nat.le_of_lt hf8) (.int .i64 qx)).setCell (p := ⟨b8, 1, none⟩) (show w.heap.size ≤ b8 from Nat.le_of_lt hf8) (.int .i64 qy))
      clear hHeld far Mb8 Pb7 BB g0 g1 z0 z1
      refine hK.out _ _ hS (fun hHeld => ?_)
      clear hK K hS
      refine norm_ (a' := ?_) ?_ ?_
      rotate_left
      · show Act.put _ none _ = _
        simp only [Act.put]
        rfl
      generalize hwq : ((wc.setCell ⟨b8, 0, none⟩ (.int .i64 qx)).setCell ⟨b8, 1, none⟩ (.int .i64 qy)) = wd at hHeld Pb8 Qb7 BC ⊢
      clear hwq
      have BB := BC
      clear BC
      exact norm_ (by first | (simp only [putAll, Act.put, List.setIfInBounds_toArray, List.set_cons_zero, List.set_cons_succ]; done) | (simp only [putAll, Act.put, List.setIfInBounds_toArray, List.set_cons_zero, List.set_cons_succ]; rfl)) (hc (b7, b8) _ ⟨Qb7, Pb8, hHeld.1, hne, hf7, hf8, BB.out⟩)
  rintro ⟨b7, b8⟩ w2 ⟨f7, f8, f3, fne, fl7, fl8, fb⟩
  have K7 := Aside0.mk (show w2.heap[b7]? = some (.cells #[.int .i64 px, .int .i64 py] 25 (0, 0)) from f7)
  have K8 := Aside0.mk (show w2.heap[b8]? = some (.cells #[.int .i64 qx, .int .i64 qy] 25 (0, 0)) from f8)
  have K3 := Aside0.mk f3
  have HNE := Aside0.mk (show b7 ≠ b8 from fne)
  have HL7 := Aside0.mk (show w.heap.size < b7 from fl7)
  have HL8 := Aside0.mk (show w.heap.size < b8 from fl8)
  have B := Aside0.mk fb
  clear f7 f8 f3 fne fl7 fl8 fb HB2 hHeld
  refine norm_ (a' := ?_) ?_ ?_
  rotate_left
  · simp only [putAll, Act.put, List.setIfInBounds_toArray, List.set_cons_zero, List.set_cons_succ]
    rfl
  refine done_ (by kernel_rfl) ?_
  clear HT_ HW_
  have a0 := bkc K3.out 0 _ rfl
  have a1 := bkc K3.out 1 _ rfl
  have a2 := bkc K3.out 2 _ rfl
  have a3 := bkc K3.out 3 _ rfl
  have p0 := bkc K7.out 0 _ rfl
  have p1 := bkc K7.out 1 _ rfl
  have q0 := bkc K8.out 0 _ rfl
  have q1 := bkc K8.out 1 _ rfl
  have HKW := Aside0.mk (Below.refl w.heap.size w)
  go_wp2_with fail
  refine (rung_m k w2).mono ?_
  rintro e w3 ⟨rfl, hb⟩
  clear a0 a1 a2 a3 p0 p1 q0 q1
  have B' := Aside0.mk (below_step B.out hb); clear B; have B := B'; clear B'; have K3' := Aside0.mk (bkb K3.out hb); clear K3; have K3 := K3'; clear K3'; have K7' := Aside0.mk (bkb K7.out hb); clear K7; have K7 := K7'; clear K7'; have K8' := Aside0.mk (bkb K8.out hb); clear K8; have K8 := K8'; clear K8'
  clear hb
  have a0 := bkc K3.out 0 _ rfl
  have a1 := bkc K3.out 1 _ rfl
  have a2 := bkc K3.out 2 _ rfl
  have a3 := bkc K3.out 3 _ rfl
  have p0 := bkc K7.out 0 _ rfl
  have p1 := bkc K7.out 1 _ rfl
  have q0 := bkc K8.out 0 _ rfl
  have q1 := bkc K8.out 1 _ rfl
  by_cases hk : k = rungR k
  rotate_left
  · have hk1 : (k != rungR k) = true := bne_iff_ne.2 hk
    clear hk
    go_wp2_with (go_at_call 7; (with_reducible refine (alive_m _).mono ?_); rintro e wq ⟨rfl, hb⟩; have BQ := Aside0.mk (below_step B.out hb))
    go_ret
    exact ⟨rfl, BQ.out⟩
  have hk1 : (k != rungR k) = false := bne_eq_false_iff_eq.2 hk
  obtain ⟨hk0, hk28⟩ := rungR_eq hk
  have HK0 := Aside0.mk hk0
  have HK28 := Aside0.mk hk28
  clear hk hk0 hk28
  obtain ⟨ra, hra⟩ := right_eq ax ay
  have HRA := Aside0.mk hra
  clear hra
  go_wp2_with fail
  refine (right_m ax ay ra HRA.out w3).mono ?_
  rintro e w4 ⟨rfl, hb⟩
  clear a0 a1 a2 a3 p0 p1 q0 q1
  have B' := Aside0.mk (below_step B.out hb); clear B; have B := B'; clear B'; have K3' := Aside0.mk (bkb K3.out hb); clear K3; have K3 := K3'; clear K3'; have K7' := Aside0.mk (bkb K7.out hb); clear K7; have K7 := K7'; clear K7'; have K8' := Aside0.mk (bkb K8.out hb); clear K8; have K8 := K8'; clear K8'
  clear hb
  have a0 := bkc K3.out 0 _ rfl
  have a1 := bkc K3.out 1 _ rfl
  have a2 := bkc K3.out 2 _ rfl
  have a3 := bkc K3.out 3 _ rfl
  have p0 := bkc K7.out 0 _ rfl
  have p1 := bkc K7.out 1 _ rfl
  have q0 := bkc K8.out 0 _ rfl
  have q1 := bkc K8.out 1 _ rfl
  cases ra
  · skip
    go_wp2_with (go_at_call 7; (with_reducible refine (alive_m _).mono ?_); rintro e wq ⟨rfl, hb⟩; have BQ := Aside0.mk (below_step B.out hb))
    go_ret
    exact ⟨rfl, BQ.out⟩
  clear HRA
  obtain ⟨rb, hrb⟩ := right_eq bx yb
  have HRB := Aside0.mk hrb
  clear hrb
  go_wp2_with fail
  refine (right_m bx yb rb HRB.out w4).mono ?_
  rintro e w5 ⟨rfl, hb⟩
  clear a0 a1 a2 a3 p0 p1 q0 q1
  have B' := Aside0.mk (below_step B.out hb); clear B; have B := B'; clear B'; have K3' := Aside0.mk (bkb K3.out hb); clear K3; have K3 := K3'; clear K3'; have K7' := Aside0.mk (bkb K7.out hb); clear K7; have K7 := K7'; clear K7'; have K8' := Aside0.mk (bkb K8.out hb); clear K8; have K8 := K8'; clear K8'
  clear hb
  have a0 := bkc K3.out 0 _ rfl
  have a1 := bkc K3.out 1 _ rfl
  have a2 := bkc K3.out 2 _ rfl
  have a3 := bkc K3.out 3 _ rfl
  have p0 := bkc K7.out 0 _ rfl
  have p1 := bkc K7.out 1 _ rfl
  have q0 := bkc K8.out 0 _ rfl
  have q1 := bkc K8.out 1 _ rfl
  cases rb
  · skip
    go_wp2_with (go_at_call 7; (with_reducible refine (alive_m _).mono ?_); rintro e wq ⟨rfl, hb⟩; have BQ := Aside0.mk (below_step B.out hb))
    go_ret
    exact ⟨rfl, BQ.out⟩
  clear HRB
  go_wp2_with fail
  refine (hits_m ax ay bx yb px py k w5).mono ?_
  rintro e w6 ⟨rfl, hb⟩
  clear a0 a1 a2 a3 p0 p1 q0 q1
  have B' := Aside0.mk (below_step B.out hb); clear B; have B := B'; clear B'; have K3' := Aside0.mk (bkb K3.out hb); clear K3; have K3 := K3'; clear K3'; have K7' := Aside0.mk (bkb K7.out hb); clear K7; have K7 := K7'; clear K7'; have K8' := Aside0.mk (bkb K8.out hb); clear K8; have K8 := K8'; clear K8'
  clear hb
  have a0 := bkc K3.out 0 _ rfl
  have a1 := bkc K3.out 1 _ rfl
  have a2 := bkc K3.out 2 _ rfl
  have a3 := bkc K3.out 3 _ rfl
  have p0 := bkc K7.out 0 _ rfl
  have p1 := bkc K7.out 1 _ rfl
  have q0 := bkc K8.out 0 _ rfl
  have q1 := bkc K8.out 1 _ rfl
  generalize hh1 : hitsB ax ay bx yb px py k = h1
  cases h1
  · skip
    go_wp2_with (go_at_call 7; (with_reducible refine (alive_m _).mono ?_); rintro e wq ⟨rfl, hb⟩; have BQ := Aside0.mk (below_step B.out hb))
    go_ret
    exact ⟨rfl, BQ.out⟩
  have HP := Aside0.mk hh1
  clear hh1
  go_wp2_with fail
  refine (hits_m ax ay bx yb qx qy k w6).mono ?_
  rintro e w7 ⟨rfl, hb⟩
  clear a0 a1 a2 a3 p0 p1 q0 q1
  have B' := Aside0.mk (below_step B.out hb); clear B; have B := B'; clear B'; have K3' := Aside0.mk (bkb K3.out hb); clear K3; have K3 := K3'; clear K3'; have K7' := Aside0.mk (bkb K7.out hb); clear K7; have K7 := K7'; clear K7'; have K8' := Aside0.mk (bkb K8.out hb); clear K8; have K8 := K8'; clear K8'
  clear hb
  have a0 := bkc K3.out 0 _ rfl
  have a1 := bkc K3.out 1 _ rfl
  have a2 := bkc K3.out 2 _ rfl
  have a3 := bkc K3.out 3 _ rfl
  have p0 := bkc K7.out 0 _ rfl
  have p1 := bkc K7.out 1 _ rfl
  have q0 := bkc K8.out 0 _ rfl
  have q1 := bkc K8.out 1 _ rfl
  generalize hh2 : hitsB ax ay bx yb qx qy k = h2
  cases h2
  · skip
    go_wp2_with (go_at_call 7; (with_reducible refine (alive_m _).mono ?_); rintro e wq ⟨rfl, hb⟩; have BQ := Aside0.mk (below_step B.out hb))
    go_ret
    exact ⟨rfl, BQ.out⟩
  have HQ := Aside0.mk hh2
  clear hh2
  clear hk1
  go_wp2_with fail
  refine (order_Along.calls ax ay bx yb w7).mono ?_
  rintro e w8 ⟨v8, rfl, hal, hb⟩
  obtain ⟨gx, gy, rfl, _, _, hgx, hgy, hcx, hcy⟩ := hal
  clear a0 a1 a2 a3 p0 p1 q0 q1
  have B' := Aside0.mk (below_step B.out hb); clear B; have B := B'; clear B'; have K3' := Aside0.mk (bkb K3.out hb); clear K3; have K3 := K3'; clear K3'; have K7' := Aside0.mk (bkb K7.out hb); clear K7; have K7 := K7'; clear K7'; have K8' := Aside0.mk (bkb K8.out hb); clear K8; have K8 := K8'; clear K8'
  clear hb
  have a0 := bkc K3.out 0 _ rfl
  have a1 := bkc K3.out 1 _ rfl
  have a2 := bkc K3.out 2 _ rfl
  have a3 := bkc K3.out 3 _ rfl
  have p0 := bkc K7.out 0 _ rfl
  have p1 := bkc K7.out 1 _ rfl
  have q0 := bkc K8.out 0 _ rfl
  have q1 := bkc K8.out 1 _ rfl
  have qT : ∀ (W : World) (f : Fn) (x y : Array Value), (binOp .eql 31 (.func f x y) .nilFunc).run Try.prog W = .ok (.bool false) W := fun W f x y => run_eql_func_nil 31 Try.underlying31 W f x y
  have HAL := Aside0.mk (order_Along_1.calls px py qx qy (decide (bx < ax)) (decide (yb < ay)) gx gy w8 hcx hcy hgx hgy)
  clear hcx hcy hgx hgy
  go_wp2_with fail
  refine HAL.out.mono ?_
  rintro e w9 ⟨rfl, hb⟩
  clear a0 a1 a2 a3 p0 p1 q0 q1
  have B' := Aside0.mk (below_step B.out hb); clear B; have B := B'; clear B'; have K3' := Aside0.mk (bkb K3.out hb); clear K3; have K3 := K3'; clear K3'; have K7' := Aside0.mk (bkb K7.out hb); clear K7; have K7 := K7'; clear K7'; have K8' := Aside0.mk (bkb K8.out hb); clear K8; have K8 := K8'; clear K8'
  clear hb HAL qT
  have a0 := bkc K3.out 0 _ rfl
  have a1 := bkc K3.out 1 _ rfl
  have a2 := bkc K3.out 2 _ rfl
  have a3 := bkc K3.out 3 _ rfl
  have p0 := bkc K7.out 0 _ rfl
  have p1 := bkc K7.out 1 _ rfl
  have q0 := bkc K8.out 0 _ rfl
  have q1 := bkc K8.out 1 _ rfl
  generalize hah : aheadOf (decide (bx < ax)) (decide (yb < ay)) px py qx qy = ah
  rw [ahead_eq] at hah
  have hsp := hits_small HP.out
  have hsq := hits_small HQ.out
  cases ah
  · skip
    have HF := Aside0.mk (met_false HK0.out HK28.out HP.out HQ.out hah)
    obtain ⟨rx1, rx2⟩ := (wsub (by omega) (by omega) (by omega) (by omega) : wrap64 (px - qx) = px - qx ∧ wrap64 (-(px - qx)) = -(px - qx))
    obtain ⟨ry1, ry2⟩ := (wsub (by omega) (by omega) (by omega) (by omega) : wrap64 (py - qy) = py - qy ∧ wrap64 (-(py - qy)) = -(py - qy))
    clear hah hsp hsq
    have z0 := blk_frozen K7.out 0
    have z1 := blk_frozen K7.out 1
    have n7 := blk_put (cs' := #[.int .i64 qx, .int .i64 qy]) (blk_put (cs' := #[.int .i64 qx, .int .i64 py]) K7.out 0 (.int .i64 qx) rfl) 1 (.int .i64 qy) rfl
    have far1 : ∀ g, g ≠ b7 → ((w9.setCell ⟨b7, 0, none⟩ (.int .i64 qx)).setCell ⟨b7, 1, none⟩ (.int .i64 qy)).heap[g]? = w9.heap[g]? := fun g hg => (Below.heap_setCell _ ⟨b7, 1, none⟩ _ g hg).trans (Below.heap_setCell _ ⟨b7, 0, none⟩ _ g hg)
    have m8 := (far1 b8 (Ne.symm HNE.out)).trans K8.out
    have y0 := blk_frozen m8 0
    have y1 := blk_frozen m8 1
    have x0 := bkc m8 0 _ rfl
    have x1 := bkc m8 1 _ rfl
    have n8 := blk_put (cs' := #[.int .i64 px, .int .i64 py]) (blk_put (cs' := #[.int .i64 px, .int .i64 qy]) m8 0 (.int .i64 px) rfl) 1 (.int .i64 py) rfl
    have far2 : ∀ g, g ≠ b8 → ((((w9.setCell ⟨b7, 0, none⟩ (.int .i64 qx)).setCell ⟨b7, 1, none⟩ (.int .i64 qy)).setCell ⟨b8, 0, none⟩ (.int .i64 px)).setCell ⟨b8, 1, none⟩ (.int .i64 py)).heap[g]? = ((w9.setCell ⟨b7, 0, none⟩ (.int .i64 qx)).setCell ⟨b7, 1, none⟩ (.int .i64 qy)).heap[g]? := fun g hg => (Below.heap_setCell _ ⟨b8, 1, none⟩ _ g hg).trans (Below.heap_setCell _ ⟨b8, 0, none⟩ _ g hg)
    have K7n := Aside0.mk ((far2 b7 HNE.out).trans n7)
    have K8n := Aside0.mk n8
    have K3n := Aside0.mk ((far2 w.heap.size (Nat.ne_of_lt HL8.out)).trans ((far1 w.heap.size (Nat.ne_of_lt HL7.out)).trans K3.out))
    have Bn := Aside0.mk ((((B.out.setCell (p := ⟨b7, 0, none⟩) (show w.heap.size ≤ b7 from Nat.le_of_lt HL7.out) (.int .i64 qx)).setCell (p := ⟨b7, 1, none⟩) (show w.heap.size ≤ b7 from Nat.le_of_lt HL7.out) (.int .i64 qy)).setCell (p := ⟨b8, 0, none⟩) (show w.heap.size ≤ b8 from Nat.le_of_lt HL8.out) (.int .i64 px)).setCell (p := ⟨b8, 1, none⟩) (show w.heap.size ≤ b8 from Nat.le_of_lt HL8.out) (.int .i64 py))
    have hne7 : b7 ≠ b8 := HNE.out
    clear far1 far2 n7 n8 m8
    go_wp2_with fail
    generalize ((((w9.setCell ⟨b7, 0, none⟩ (.int .i64 qx)).setCell ⟨b7, 1, none⟩ (.int .i64 qy)).setCell ⟨b8, 0, none⟩ (.int .i64 px)).setCell ⟨b8, 1, none⟩ (.int .i64 py)) = wz at K7n K8n K3n Bn ⊢
    clear z0 z1 y0 y1 x0 x1 K3 K7 K8 B hne7
    have K3 := K3n
    have K7 := K7n
    have K8 := K8n
    have B := Bn
    clear K3n K7n K8n Bn
    have hb := below_drew (Below.refl wz.heap.size wz)
    have hh : wz.drew.heap[w.heap.size]? = some (.cells #[.int .i64 ax, .int .i64 ay, .int .i64 bx, .int .i64 yb] 24 (0, 0)) ∧ wz.drew.heap[b7]? = some (.cells #[.int .i64 qx, .int .i64 qy] 25 (0, 0)) ∧ wz.drew.heap[b8]? = some (.cells #[.int .i64 px, .int .i64 py] 25 (0, 0)) := ⟨bkb K3.out hb, bkb K7.out hb, bkb K8.out hb⟩
    have BD := Aside0.mk (below_step B.out hb)
    clear a0 a1 a2 a3 p0 p1 q0 q1
    clear hb K3 K7 K8 B
    refine start_ (n := 12) (S := fun W => W.heap[w.heap.size]? = some (.cells #[.int .i64 ax, .int .i64 ay, .int .i64 bx, .int .i64 yb] 24 (0, 0)) ∧ W.heap[b7]? = some (.cells #[.int .i64 qx, .int .i64 qy] 25 (0, 0)) ∧ W.heap[b8]? = some (.cells #[.int .i64 px, .int .i64 py] 25 (0, 0))) (ds := []) #[false, false, false, false, false, false, false, false, false, false, false, false] (by kernel_rfl) rfl rfl hh (fun hHeld => ?_); refine with_tabW orderMet.tab9 orderMet.bits9 (fun HT_ HW_ => ?_)
    generalize wz.drew = wy at hHeld BD
    clear hh
    refine pure_ (i := 0) (N := (some 67)) (v := ?_) (a' := ?_) #[true, false, false, false, false, false, false, false, false, false, false, false] rfl rfl (any_of HT_.out (by kernel_rfl)) (fun _ _ _ h => h) (Or.inl ⟨by rfl, ?_⟩) ?_ ?_
    rotate_left
    · intro w'
      go_simp
      with_reducible rfl
    rotate_left
    · simp only [Act.put, List.setIfInBounds_toArray, List.set_cons_zero, List.set_cons_succ, i64_w, i32_w]
      rfl
    refine take_ (i := 1) (N := (some 68)) (v := ?_) (a' := ?_) #[true, true, false, false, false, false, false, false, false, false, false, false] rfl rfl (take_ofW HT_.out HW_.out (by kernel_rfl)) (fun _ _ _ h => h) (Or.inl ⟨by rfl, ?_⟩) hHeld ?_ ?_
    rotate_left
    · rintro w' ⟨s3, s7, s8⟩
      have h0 := bkc s8 0 _ rfl
      have h1 := bkc s8 1 _ rfl
      go_simp
      with_reducible rfl
    rotate_left
    · simp only [Act.put, List.setIfInBounds_toArray, List.set_cons_zero, List.set_cons_succ, i64_w, i32_w]
      rfl
    refine pure_ (i := 2) (N := (some 69)) (v := ?_) (a' := ?_) #[true, true, true, false, false, false, false, false, false, false, false, false] rfl rfl (any_of HT_.out (by kernel_rfl)) (fun _ _ _ h => h) (Or.inl ⟨by rfl, ?_⟩) ?_ ?_
    rotate_left
    · intro w'
      go_simp
      with_reducible rfl
    rotate_left
    · simp only [Act.put, List.setIfInBounds_toArray, List.set_cons_zero, List.set_cons_succ, i64_w, i32_w]
      rfl
    refine take_ (i := 3) (N := (some 70)) (v := ?_) (a' := ?_) #[true, true, true, true, false, false, false, false, false, false, false, false] rfl rfl (take_ofW HT_.out HW_.out (by kernel_rfl)) (fun _ _ _ h => h) (Or.inl ⟨by rfl, ?_⟩) hHeld ?_ ?_
    rotate_left
    · rintro w' ⟨s3, s7, s8⟩
      have h0 := bkc s7 0 _ rfl
      have h1 := bkc s7 1 _ rfl
      go_simp
      with_reducible rfl
    rotate_left
    · simp only [Act.put, List.setIfInBounds_toArray, List.set_cons_zero, List.set_cons_succ, i64_w, i32_w]
      rfl
    refine pure_ (i := 4) (N := (some 71)) (v := ?_) (a' := ?_) #[true, true, true, true, true, false, false, false, false, false, false, false] rfl rfl (any_of HT_.out (by kernel_rfl)) (fun _ _ _ h => h) (Or.inl ⟨by rfl, ?_⟩) ?_ ?_
    rotate_left
    · intro w'
      go_simp
      simp only [i64_w, rx1, ry1]
      with_reducible rfl
    rotate_left
    · simp only [Act.put, List.setIfInBounds_toArray, List.set_cons_zero, List.set_cons_succ, i64_w, i32_w]
      rfl
    refine pure_ (i := 5) (N := (some 72)) (v := ?_) (a' := ?_) #[true, true, true, true, true, true, false, false, false, false, false, false] rfl rfl (any_of HT_.out (by kernel_rfl)) (fun _ _ _ h => h) (Or.inl ⟨by rfl, ?_⟩) ?_ ?_
    rotate_left
    · intro w'
      go_simp
      with_reducible rfl
    rotate_left
    · simp only [Act.put, List.setIfInBounds_toArray, List.set_cons_zero, List.set_cons_succ, i64_w, i32_w]
      rfl
    refine take_ (i := 6) (N := (some 73)) (v := ?_) (a' := ?_) #[true, true, true, true, true, true, true, false, false, false, false, false] rfl rfl (take_ofW HT_.out HW_.out (by kernel_rfl)) (fun _ _ _ h => h) (Or.inl ⟨by rfl, ?_⟩) hHeld ?_ ?_
    rotate_left
    · rintro w' ⟨s3, s7, s8⟩
      have h0 := bkc s8 0 _ rfl
      have h1 := bkc s8 1 _ rfl
      go_simp
      with_reducible rfl
    rotate_left
    · simp only [Act.put, List.setIfInBounds_toArray, List.set_cons_zero, List.set_cons_succ, i64_w, i32_w]
      rfl
    refine pure_ (i := 7) (N := (some 74)) (v := ?_) (a' := ?_) #[true, true, true, true, true, true, true, true, false, false, false, false] rfl rfl (any_of HT_.out (by kernel_rfl)) (fun _ _ _ h => h) (Or.inl ⟨by rfl, ?_⟩) ?_ ?_
    rotate_left
    · intro w'
      go_simp
      with_reducible rfl
    rotate_left
    · simp only [Act.put, List.setIfInBounds_toArray, List.set_cons_zero, List.set_cons_succ, i64_w, i32_w]
      rfl
    refine take_ (i := 8) (N := (some 75)) (v := ?_) (a' := ?_) #[true, true, true, true, true, true, true, true, true, false, false, false] rfl rfl (take_ofW HT_.out HW_.out (by kernel_rfl)) (fun _ _ _ h => h) (Or.inl ⟨by rfl, ?_⟩) hHeld ?_ ?_
    rotate_left
    · rintro w' ⟨s3, s7, s8⟩
      have h0 := bkc s7 0 _ rfl
      have h1 := bkc s7 1 _ rfl
      go_simp
      with_reducible rfl
    rotate_left
    · simp only [Act.put, List.setIfInBounds_toArray, List.set_cons_zero, List.set_cons_succ, i64_w, i32_w]
      rfl
    refine pure_ (i := 9) (N := (some 76)) (v := ?_) (a' := ?_) #[true, true, true, true, true, true, true, true, true, true, false, false] rfl rfl (any_of HT_.out (by kernel_rfl)) (fun _ _ _ h => h) (Or.inl ⟨by rfl, ?_⟩) ?_ ?_
    rotate_left
    · intro w'
      go_simp
      simp only [i64_w, rx1, ry1]
      with_reducible rfl
    rotate_left
    · simp only [Act.put, List.setIfInBounds_toArray, List.set_cons_zero, List.set_cons_succ, i64_w, i32_w]
      rfl
    refine pure_ (i := 10) (N := (some 10)) (v := ?_) (a' := ?_) #[true, true, true, true, true, true, true, true, true, true, true, false] rfl rfl (any_of HT_.out (by kernel_rfl)) (fun _ _ _ h => h) (Or.inl ⟨by rfl, ?_⟩) ?_ ?_
    rotate_left
    · intro w'
      go_simp
      with_reducible rfl
    rotate_left
    · simp only [Act.put, List.setIfInBounds_toArray, List.set_cons_zero, List.set_cons_succ, i64_w, i32_w]
      rfl
    refine pure_ (i := 11) (N := (some 11)) (v := ?_) (a' := ?_) #[true, true, true, true, true, true, true, true, true, true, true, true] rfl rfl (any_of HT_.out (by kernel_rfl)) (fun _ _ _ h => h) (Or.inl ⟨by rfl, ?_⟩) ?_ ?_
    rotate_left
    · intro w'
      go_simp
      with_reducible rfl
    rotate_left
    · simp only [Act.put, List.setIfInBounds_toArray, List.set_cons_zero, List.set_cons_succ, i64_w, i32_w]
      rfl
    refine done_ (done_of HT_.out (by kernel_rfl)) ?_
    clear HT_ HW_
    have a0 := bkc hHeld.1 0 _ rfl
    have a1 := bkc hHeld.1 1 _ rfl
    have a2 := bkc hHeld.1 2 _ rfl
    have a3 := bkc hHeld.1 3 _ rfl
    have B := BD
    clear hHeld BD
    by_cases hx : bx < ax
    · skip
      have dx : decide (bx < ax) = true := decide_eq_true hx
      by_cases hy : yb < ay
      · have dy : decide (yb < ay) = true := decide_eq_true hy
        have hf := HF.out
        rw [if_pos hx, if_pos hy] at hf
        have dr : decide (-(px - qx) ≥ 0) = true := decide_eq_true (by omega)
        have du : decide (-(py - qy) ≥ 0) = true := decide_eq_true (by omega)
        have dx1 : decide (px - qx ≤ 0) = true := decide_eq_true (by omega)
        have dx2 : (px - qx ≤ 0) = True := eq_true (by omega)
        have dx3 : (0 < px - qx) = False := eq_false (by omega)
        have dy1 : decide (py - qy ≤ 0) = true := decide_eq_true (by omega)
        have dy2 : (py - qy ≤ 0) = True := eq_true (by omega)
        have dy3 : (0 < py - qy) = False := eq_false (by omega)
        have HXX := Aside0.mk (show 0 ≤ -(px - qx) by omega)
        have HYY := Aside0.mk (show 0 ≤ -(py - qy) by omega)
        clear hf hx hy
        go_wp2_with (go_at_call 7; (with_reducible refine (alive_m _).mono ?_); rintro e wq ⟨rfl, hb⟩; have BQ := Aside0.mk (below_step B.out hb))
        go_ret
        exact ⟨by first | rfl | (have h1 := HXX.out; have h2 := HYY.out; simp; omega) | (have h1 := HXX.out; have h2 := HYY.out; simp at h1 h2 ⊢; omega), BQ.out⟩
      · have dy : decide (yb < ay) = false := decide_eq_false hy
        have hf := HF.out
        rw [if_pos hx, if_neg hy] at hf
        have dr : decide (-(px - qx) ≥ 0) = true := decide_eq_true (by omega)
        have du : decide (py - qy ≥ 0) = true := decide_eq_true (by omega)
        have dx1 : decide (px - qx ≤ 0) = true := decide_eq_true (by omega)
        have dx2 : (px - qx ≤ 0) = True := eq_true (by omega)
        have dx3 : (0 < px - qx) = False := eq_false (by omega)
        have dy1 : decide (qy ≤ py) = true := decide_eq_true (by omega)
        have dy2 : (qy ≤ py) = True := eq_true (by omega)
        have dy3 : (py < qy) = False := eq_false (by omega)
        have HXX := Aside0.mk (show 0 ≤ -(px - qx) by omega)
        have HYY := Aside0.mk (show 0 ≤ py - qy by omega)
        clear hf hx hy
        go_wp2_with (go_at_call 7; (with_reducible refine (alive_m _).mono ?_); rintro e wq ⟨rfl, hb⟩; have BQ := Aside0.mk (below_step B.out hb))
        go_ret
        exact ⟨by first | rfl | (have h1 := HXX.out; have h2 := HYY.out; simp; omega) | (have h1 := HXX.out; have h2 := HYY.out; simp at h1 h2 ⊢; omega), BQ.out⟩
    · skip
      have dx : decide (bx < ax) = false := decide_eq_false hx
      by_cases hy : yb < ay
      · have dy : decide (yb < ay) = true := decide_eq_true hy
        have hf := HF.out
        rw [if_neg hx, if_pos hy] at hf
        have dr : decide (px - qx ≥ 0) = true := decide_eq_true (by omega)
        have du : decide (-(py - qy) ≥ 0) = true := decide_eq_true (by omega)
        have dx1 : decide (qx ≤ px) = true := decide_eq_true (by omega)
        have dx2 : (qx ≤ px) = True := eq_true (by omega)
        have dx3 : (px < qx) = False := eq_false (by omega)
        have dy1 : decide (py - qy ≤ 0) = true := decide_eq_true (by omega)
        have dy2 : (py - qy ≤ 0) = True := eq_true (by omega)
        have dy3 : (0 < py - qy) = False := eq_false (by omega)
        have HXX := Aside0.mk (show 0 ≤ px - qx by omega)
        have HYY := Aside0.mk (show 0 ≤ -(py - qy) by omega)
        clear hf hx hy
        go_wp2_with (go_at_call 7; (with_reducible refine (alive_m _).mono ?_); rintro e wq ⟨rfl, hb⟩; have BQ := Aside0.mk (below_step B.out hb))
        go_ret
        exact ⟨by first | rfl | (have h1 := HXX.out; have h2 := HYY.out; simp; omega) | (have h1 := HXX.out; have h2 := HYY.out; simp at h1 h2 ⊢; omega), BQ.out⟩
      · have dy : decide (yb < ay) = false := decide_eq_false hy
        have hf := HF.out
        rw [if_neg hx, if_neg hy] at hf
        have dr : decide (px - qx ≥ 0) = true := decide_eq_true (by omega)
        have du : decide (py - qy ≥ 0) = true := decide_eq_true (by omega)
        have dx1 : decide (qx ≤ px) = true := decide_eq_true (by omega)
        have dx2 : (qx ≤ px) = True := eq_true (by omega)
        have dx3 : (px < qx) = False := eq_false (by omega)
        have dy1 : decide (qy ≤ py) = true := decide_eq_true (by omega)
        have dy2 : (qy ≤ py) = True := eq_true (by omega)
        have dy3 : (py < qy) = False := eq_false (by omega)
        have HXX := Aside0.mk (show 0 ≤ px - qx by omega)
        have HYY := Aside0.mk (show 0 ≤ py - qy by omega)
        clear hf hx hy
        go_wp2_with (go_at_call 7; (with_reducible refine (alive_m _).mono ?_); rintro e wq ⟨rfl, hb⟩; have BQ := Aside0.mk (below_step B.out hb))
        go_ret
        exact ⟨by first | rfl | (have h1 := HXX.out; have h2 := HYY.out; simp; omega) | (have h1 := HXX.out; have h2 := HYY.out; simp at h1 h2 ⊢; omega), BQ.out⟩
  · skip
    have HF := Aside0.mk (met_true HK0.out HK28.out HP.out HQ.out hah)
    obtain ⟨rx1, rx2⟩ := (wsub (by omega) (by omega) (by omega) (by omega) : wrap64 (qx - px) = qx - px ∧ wrap64 (-(qx - px)) = -(qx - px))
    obtain ⟨ry1, ry2⟩ := (wsub (by omega) (by omega) (by omega) (by omega) : wrap64 (qy - py) = qy - py ∧ wrap64 (-(qy - py)) = -(qy - py))
    clear hah hsp hsq
    go_wp2_with fail
    have hwz : w9 = w9 := rfl
    clear hwz
    generalize w9 = wz at K3 K7 K8 B a0 a1 a2 a3 p0 p1 q0 q1 ⊢
    have hb := below_drew (Below.refl wz.heap.size wz)
    have hh : wz.drew.heap[w.heap.size]? = some (.cells #[.int .i64 ax, .int .i64 ay, .int .i64 bx, .int .i64 yb] 24 (0, 0)) ∧ wz.drew.heap[b7]? = some (.cells #[.int .i64 px, .int .i64 py] 25 (0, 0)) ∧ wz.drew.heap[b8]? = some (.cells #[.int .i64 qx, .int .i64 qy] 25 (0, 0)) := ⟨bkb K3.out hb, bkb K7.out hb, bkb K8.out hb⟩
    have BD := Aside0.mk (below_step B.out hb)
    clear a0 a1 a2 a3 p0 p1 q0 q1
    clear hb K3 K7 K8 B
    refine start_ (n := 12) (S := fun W => W.heap[w.heap.size]? = some (.cells #[.int .i64 ax, .int .i64 ay, .int .i64 bx, .int .i64 yb] 24 (0, 0)) ∧ W.heap[b7]? = some (.cells #[.int .i64 px, .int .i64 py] 25 (0, 0)) ∧ W.heap[b8]? = some (.cells #[.int .i64 qx, .int .i64 qy] 25 (0, 0))) (ds := []) #[false, false, false, false, false, false, false, false, false, false, false, false] (by kernel_rfl) rfl rfl hh (fun hHeld => ?_); refine with_tabW orderMet.tab9 orderMet.bits9 (fun HT_ HW_ => ?_)
    generalize wz.drew = wy at hHeld BD
    clear hh
    refine pure_ (i := 0) (N := (some 67)) (v := ?_) (a' := ?_) #[true, false, false, false, false, false, false, false, false, false, false, false] rfl rfl (any_of HT_.out (by kernel_rfl)) (fun _ _ _ h => h) (Or.inl ⟨by rfl, ?_⟩) ?_ ?_
    rotate_left
    · intro w'
      go_simp
      with_reducible rfl
    rotate_left
    · simp only [Act.put, List.setIfInBounds_toArray, List.set_cons_zero, List.set_cons_succ, i64_w, i32_w]
      rfl
    refine take_ (i := 1) (N := (some 68)) (v := ?_) (a' := ?_) #[true, true, false, false, false, false, false, false, false, false, false, false] rfl rfl (take_ofW HT_.out HW_.out (by kernel_rfl)) (fun _ _ _ h => h) (Or.inl ⟨by rfl, ?_⟩) hHeld ?_ ?_
    rotate_left
    · rintro w' ⟨s3, s7, s8⟩
      have h0 := bkc s8 0 _ rfl
      have h1 := bkc s8 1 _ rfl
      go_simp
      with_reducible rfl
    rotate_left
    · simp only [Act.put, List.setIfInBounds_toArray, List.set_cons_zero, List.set_cons_succ, i64_w, i32_w]
      rfl
    refine pure_ (i := 2) (N := (some 69)) (v := ?_) (a' := ?_) #[true, true, true, false, false, false, false, false, false, false, false, false] rfl rfl (any_of HT_.out (by kernel_rfl)) (fun _ _ _ h => h) (Or.inl ⟨by rfl, ?_⟩) ?_ ?_
    rotate_left
    · intro w'
      go_simp
      with_reducible rfl
    rotate_left
    · simp only [Act.put, List.setIfInBounds_toArray, List.set_cons_zero, List.set_cons_succ, i64_w, i32_w]
      rfl
    refine take_ (i := 3) (N := (some 70)) (v := ?_) (a' := ?_) #[true, true, true, true, false, false, false, false, false, false, false, false] rfl rfl (take_ofW HT_.out HW_.out (by kernel_rfl)) (fun _ _ _ h => h) (Or.inl ⟨by rfl, ?_⟩) hHeld ?_ ?_
    rotate_left
    · rintro w' ⟨s3, s7, s8⟩
      have h0 := bkc s7 0 _ rfl
      have h1 := bkc s7 1 _ rfl
      go_simp
      with_reducible rfl
    rotate_left
    · simp only [Act.put, List.setIfInBounds_toArray, List.set_cons_zero, List.set_cons_succ, i64_w, i32_w]
      rfl
    refine pure_ (i := 4) (N := (some 71)) (v := ?_) (a' := ?_) #[true, true, true, true, true, false, false, false, false, false, false, false] rfl rfl (any_of HT_.out (by kernel_rfl)) (fun _ _ _ h => h) (Or.inl ⟨by rfl, ?_⟩) ?_ ?_
    rotate_left
    · intro w'
      go_simp
      simp only [i64_w, rx1, ry1]
      with_reducible rfl
    rotate_left
    · simp only [Act.put, List.setIfInBounds_toArray, List.set_cons_zero, List.set_cons_succ, i64_w, i32_w]
      rfl
    refine pure_ (i := 5) (N := (some 72)) (v := ?_) (a' := ?_) #[true, true, true, true, true, true, false, false, false, false, false, false] rfl rfl (any_of HT_.out (by kernel_rfl)) (fun _ _ _ h => h) (Or.inl ⟨by rfl, ?_⟩) ?_ ?_
    rotate_left
    · intro w'
      go_simp
      with_reducible rfl
    rotate_left
    · simp only [Act.put, List.setIfInBounds_toArray, List.set_cons_zero, List.set_cons_succ, i64_w, i32_w]
      rfl
    refine take_ (i := 6) (N := (some 73)) (v := ?_) (a' := ?_) #[true, true, true, true, true, true, true, false, false, false, false, false] rfl rfl (take_ofW HT_.out HW_.out (by kernel_rfl)) (fun _ _ _ h => h) (Or.inl ⟨by rfl, ?_⟩) hHeld ?_ ?_
    rotate_left
    · rintro w' ⟨s3, s7, s8⟩
      have h0 := bkc s8 0 _ rfl
      have h1 := bkc s8 1 _ rfl
      go_simp
      with_reducible rfl
    rotate_left
    · simp only [Act.put, List.setIfInBounds_toArray, List.set_cons_zero, List.set_cons_succ, i64_w, i32_w]
      rfl
    refine pure_ (i := 7) (N := (some 74)) (v := ?_) (a' := ?_) #[true, true, true, true, true, true, true, true, false, false, false, false] rfl rfl (any_of HT_.out (by kernel_rfl)) (fun _ _ _ h => h) (Or.inl ⟨by rfl, ?_⟩) ?_ ?_
    rotate_left
    · intro w'
      go_simp
      with_reducible rfl
    rotate_left
    · simp only [Act.put, List.setIfInBounds_toArray, List.set_cons_zero, List.set_cons_succ, i64_w, i32_w]
      rfl
    refine take_ (i := 8) (N := (some 75)) (v := ?_) (a' := ?_) #[true, true, true, true, true, true, true, true, true, false, false, false] rfl rfl (take_ofW HT_.out HW_.out (by kernel_rfl)) (fun _ _ _ h => h) (Or.inl ⟨by rfl, ?_⟩) hHeld ?_ ?_
    rotate_left
    · rintro w' ⟨s3, s7, s8⟩
      have h0 := bkc s7 0 _ rfl
      have h1 := bkc s7 1 _ rfl
      go_simp
      with_reducible rfl
    rotate_left
    · simp only [Act.put, List.setIfInBounds_toArray, List.set_cons_zero, List.set_cons_succ, i64_w, i32_w]
      rfl
    refine pure_ (i := 9) (N := (some 76)) (v := ?_) (a' := ?_) #[true, true, true, true, true, true, true, true, true, true, false, false] rfl rfl (any_of HT_.out (by kernel_rfl)) (fun _ _ _ h => h) (Or.inl ⟨by rfl, ?_⟩) ?_ ?_
    rotate_left
    · intro w'
      go_simp
      simp only [i64_w, rx1, ry1]
      with_reducible rfl
    rotate_left
    · simp only [Act.put, List.setIfInBounds_toArray, List.set_cons_zero, List.set_cons_succ, i64_w, i32_w]
      rfl
    refine pure_ (i := 10) (N := (some 10)) (v := ?_) (a' := ?_) #[true, true, true, true, true, true, true, true, true, true, true, false] rfl rfl (any_of HT_.out (by kernel_rfl)) (fun _ _ _ h => h) (Or.inl ⟨by rfl, ?_⟩) ?_ ?_
    rotate_left
    · intro w'
      go_simp
      with_reducible rfl
    rotate_left
    · simp only [Act.put, List.setIfInBounds_toArray, List.set_cons_zero, List.set_cons_succ, i64_w, i32_w]
      rfl
    refine pure_ (i := 11) (N := (some 11)) (v := ?_) (a' := ?_) #[true, true, true, true, true, true, true, true, true, true, true, true] rfl rfl (any_of HT_.out (by kernel_rfl)) (fun _ _ _ h => h) (Or.inl ⟨by rfl, ?_⟩) ?_ ?_
    rotate_left
    · intro w'
      go_simp
      with_reducible rfl
    rotate_left
    · simp only [Act.put, List.setIfInBounds_toArray, List.set_cons_zero, List.set_cons_succ, i64_w, i32_w]
      rfl
    refine done_ (done_of HT_.out (by kernel_rfl)) ?_
    clear HT_ HW_
    have a0 := bkc hHeld.1 0 _ rfl
    have a1 := bkc hHeld.1 1 _ rfl
    have a2 := bkc hHeld.1 2 _ rfl
    have a3 := bkc hHeld.1 3 _ rfl
    have B := BD
    clear hHeld BD
    by_cases hx : bx < ax
    · skip
      have dx : decide (bx < ax) = true := decide_eq_true hx
      by_cases hy : yb < ay
      · have dy : decide (yb < ay) = true := decide_eq_true hy
        have hf := HF.out
        rw [if_pos hx, if_pos hy] at hf
        have dr : decide (-(qx - px) ≥ 0) = true := decide_eq_true (by omega)
        have du : decide (-(qy - py) ≥ 0) = true := decide_eq_true (by omega)
        have dx1 : decide (qx - px ≤ 0) = true := decide_eq_true (by omega)
        have dx2 : (qx - px ≤ 0) = True := eq_true (by omega)
        have dx3 : (0 < qx - px) = False := eq_false (by omega)
        have dy1 : decide (qy - py ≤ 0) = true := decide_eq_true (by omega)
        have dy2 : (qy - py ≤ 0) = True := eq_true (by omega)
        have dy3 : (0 < qy - py) = False := eq_false (by omega)
        have HXX := Aside0.mk (show 0 ≤ -(qx - px) by omega)
        have HYY := Aside0.mk (show 0 ≤ -(qy - py) by omega)
        clear hf hx hy
        go_wp2_with (go_at_call 7; (with_reducible refine (alive_m _).mono ?_); rintro e wq ⟨rfl, hb⟩; have BQ := Aside0.mk (below_step B.out hb))
        go_ret
        exact ⟨by first | rfl | (have h1 := HXX.out; have h2 := HYY.out; simp; omega) | (have h1 := HXX.out; have h2 := HYY.out; simp at h1 h2 ⊢; omega), BQ.out⟩
      · have dy : decide (yb < ay) = false := decide_eq_false hy
        have hf := HF.out
        rw [if_pos hx, if_neg hy] at hf
        have dr : decide (-(qx - px) ≥ 0) = true := decide_eq_true (by omega)
        have du : decide (qy - py ≥ 0) = true := decide_eq_true (by omega)
        have dx1 : decide (qx - px ≤ 0) = true := decide_eq_true (by omega)
        have dx2 : (qx - px ≤ 0) = True := eq_true (by omega)
        have dx3 : (0 < qx - px) = False := eq_false (by omega)
        have dy1 : decide (py ≤ qy) = true := decide_eq_true (by omega)
        have dy2 : (py ≤ qy) = True := eq_true (by omega)
        have dy3 : (qy < py) = False := eq_false (by omega)
        have HXX := Aside0.mk (show 0 ≤ -(qx - px) by omega)
        have HYY := Aside0.mk (show 0 ≤ qy - py by omega)
        clear hf hx hy
        go_wp2_with (go_at_call 7; (with_reducible refine (alive_m _).mono ?_); rintro e wq ⟨rfl, hb⟩; have BQ := Aside0.mk (below_step B.out hb))
        go_ret
        exact ⟨by first | rfl | (have h1 := HXX.out; have h2 := HYY.out; simp; omega) | (have h1 := HXX.out; have h2 := HYY.out; simp at h1 h2 ⊢; omega), BQ.out⟩
    · skip
      have dx : decide (bx < ax) = false := decide_eq_false hx
      by_cases hy : yb < ay
      · have dy : decide (yb < ay) = true := decide_eq_true hy
        have hf := HF.out
        rw [if_neg hx, if_pos hy] at hf
        have dr : decide (qx - px ≥ 0) = true := decide_eq_true (by omega)
        have du : decide (-(qy - py) ≥ 0) = true := decide_eq_true (by omega)
        have dx1 : decide (px ≤ qx) = true := decide_eq_true (by omega)
        have dx2 : (px ≤ qx) = True := eq_true (by omega)
        have dx3 : (qx < px) = False := eq_false (by omega)
        have dy1 : decide (qy - py ≤ 0) = true := decide_eq_true (by omega)
        have dy2 : (qy - py ≤ 0) = True := eq_true (by omega)
        have dy3 : (0 < qy - py) = False := eq_false (by omega)
        have HXX := Aside0.mk (show 0 ≤ qx - px by omega)
        have HYY := Aside0.mk (show 0 ≤ -(qy - py) by omega)
        clear hf hx hy
        go_wp2_with (go_at_call 7; (with_reducible refine (alive_m _).mono ?_); rintro e wq ⟨rfl, hb⟩; have BQ := Aside0.mk (below_step B.out hb))
        go_ret
        exact ⟨by first | rfl | (have h1 := HXX.out; have h2 := HYY.out; simp; omega) | (have h1 := HXX.out; have h2 := HYY.out; simp at h1 h2 ⊢; omega), BQ.out⟩
      · have dy : decide (yb < ay) = false := decide_eq_false hy
        have hf := HF.out
        rw [if_neg hx, if_neg hy] at hf
        have dr : decide (qx - px ≥ 0) = true := decide_eq_true (by omega)
        have du : decide (qy - py ≥ 0) = true := decide_eq_true (by omega)
        have dx1 : decide (px ≤ qx) = true := decide_eq_true (by omega)
        have dx2 : (px ≤ qx) = True := eq_true (by omega)
        have dx3 : (qx < px) = False := eq_false (by omega)
        have dy1 : decide (py ≤ qy) = true := decide_eq_true (by omega)
        have dy2 : (py ≤ qy) = True := eq_true (by omega)
        have dy3 : (qy < py) = False := eq_false (by omega)
        have HXX := Aside0.mk (show 0 ≤ qx - px by omega)
        have HYY := Aside0.mk (show 0 ≤ qy - py by omega)
        clear hf hx hy
        go_wp2_with (go_at_call 7; (with_reducible refine (alive_m _).mono ?_); rintro e wq ⟨rfl, hb⟩; have BQ := Aside0.mk (below_step B.out hb))
        go_ret
        exact ⟨by first | rfl | (have h1 := HXX.out; have h2 := HYY.out; simp; omega) | (have h1 := HXX.out; have h2 := HYY.out; simp at h1 h2 ⊢; omega), BQ.out⟩
end Go.Proofs.Ytcfnheoppaelbaa.F
