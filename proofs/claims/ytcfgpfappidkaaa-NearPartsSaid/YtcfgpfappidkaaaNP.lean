/- NearParts, walked by hand. Conditions: the entries' numbers are those of 64 bits. -/
import Derived.Test.YtcfgpfappidkaaaN8
namespace Go.Proofs.Ytcfgpfappidkaaa.F
open Go.RowKit Go.Proofs.YtcfgpfappidkaaaW.PrintWords Go.Proofs.YtcfgpfappidkaaaW.PrintLast Go.Proofs.YtcfgpfappidkaaaW.PrintMore
set_option linter.unusedVariables false
set_option linter.unusedSimpArgs false
def nearParts.T1 : Bool × List (List Nat × List Nat) := (true, [([], []), ([0], [0]), ([], []), ([2], [2]), ([], []), ([], []), ([4, 1, 0, 1, 4, 5], [1, 4]), ([5, 3, 6, 0, 1, 2, 3, 4, 5, 6], [3, 5])])
def nearParts.B1 : List Nat := [0, 1, 0, 4, 0, 0, 51, 127]
theorem nearParts.tab1 : rtab .any (opsOf Try.f7 1) = nearParts.T1 := by kernel_rfl
theorem nearParts.bits1 : waitsOk nearParts.T1.2 nearParts.B1 = true := by kernel_rfl
def nearParts.T6 : Bool × List (List Nat × List Nat) := (true, [([], []), ([], []), ([], []), ([2], [2]), ([], []), ([4], [4]), ([3, 5], [3, 5]), ([0, 1, 6], [0, 1, 6]), ([], []), ([], []), ([], []), ([10], [10]), ([9, 11], [9, 11]), ([], []), ([8, 12, 13, 7], [8, 12, 13]), ([7, 14, 0, 1, 2, 3, 4, 5, 6, 7], [7]), ([14, 15, 0, 1, 2, 3, 4, 5, 6, 7, 8, 9, 10, 11, 12, 13, 14, 15], [14])])
def nearParts.B6 : List Nat := [0, 0, 0, 4, 0, 16, 60, 127, 0, 0, 0, 1024, 3584, 0, 16383, 32767, 65535]
theorem nearParts.tab6 : rtab .any (opsOf Try.f7 6) = nearParts.T6 := by kernel_rfl
theorem nearParts.bits6 : waitsOk nearParts.T6.2 nearParts.B6 = true := by kernel_rfl
def nearParts.T13 : Bool × List (List Nat × List Nat) := (true, [([], []), ([], []), ([], []), ([1, 2], [1, 2]), ([3], [3]), ([0, 4], [0, 4]), ([5], [5]), ([6], [6]), ([7, 6], [6, 7]), ([6, 8], [6, 8]), ([9, 6], [9]), ([10], [10]), ([10], [10]), ([12, 10], [10, 12]), ([11, 13, 10], [10, 11, 13]), ([10, 14], [10, 14])])
def nearParts.B13 : List Nat := [0, 0, 0, 6, 14, 31, 63, 127, 255, 511, 1023, 2047, 2047, 6143, 16383, 32767]
theorem nearParts.tab13 : rtab .any (opsOf Try.f7 13) = nearParts.T13 := by kernel_rfl
theorem nearParts.bits13 : waitsOk nearParts.T13.2 nearParts.B13 = true := by kernel_rfl
theorem eqA35 (d : Nat) (w : World) (x0 y0 : Int) (x1 y1 : Int) :
    (Op.equalIn (d + 2) 35 (.agg #[.int .i64 x0, .int .i64 x1]) (.agg #[.int .i64 y0, .int .i64 y1])).run Try.prog w = .ok (x0 == y0 && (x1 == y1)) w := by
  refine eqA_of Try.underlying35 (by kernel_rfl) ?_
  refine eqf_cons (by rfl) (by go_simp; rfl) (by go_simp; rfl) (by go_simp) ?_
  exact eqf_last (by rfl) (by go_simp; rfl) (by go_simp; rfl) (by go_simp)
theorem eqA52 (d : Nat) (w : World) (x0 y0 : Int) (x1 y1 : Int) (x2 y2 : Int) :
    (Op.equalIn (d + 3) 52 (.agg #[.int .i64 x0, .int .i64 x1, .int .i64 x2]) (.agg #[.int .i64 y0, .int .i64 y1, .int .i64 y2])).run Try.prog w = .ok ((x0 == y0 && (x1 == y1)) && (x2 == y2)) w := by
  refine eqA_of Try.underlying52 (by kernel_rfl) ?_
  refine eqf_cons (by rfl) (by first | (go_simp; done) | (go_simp; rfl)) (by first | (go_simp; done) | (go_simp; rfl)) (eqA35 d w x0 y0 x1 y1) ?_
  exact eqf_last (by rfl) (by go_simp; rfl) (by go_simp; rfl) (by go_simp)
theorem parts_filter (lx ly hx hy a : Int) (h1 : lx < a) (h2 : a ≤ hx) : ∀ l : List S52, Rising l → l.filter (box52 lx ly (a - 1) hy) ++ l.filter (box52 a ly hx hy) = l.filter (box52 lx ly hx hy)
  | [], _ => rfl
  | e :: t, hs => by
    have ih := parts_filter lx ly hx hy a h1 h2 t (rising_tail hs)
    by_cases h : e.f0.f0 < a
    · have e1 : box52 a ly hx hy e = false := by unfold box52; rw [decide_eq_false (show ¬ e.f0.f0 ≥ a by omega)]; rfl
      have e2 : box52 lx ly (a - 1) hy e = box52 lx ly hx hy e := by
        unfold box52
        rw [decide_eq_true (show e.f0.f0 ≤ a - 1 by omega), decide_eq_true (show e.f0.f0 ≤ hx by omega)]
      rw [List.filter_cons_of_neg (p := box52 a ly hx hy) (by rw [e1]; decide), List.filter_cons, List.filter_cons, e2, ← ih]
      split <;> rfl
    · have hge : ∀ f ∈ e :: t, a ≤ f.f0.f0 := by
        intro f hf
        rcases List.mem_cons.1 hf with rfl | hf
        · omega
        · have := rising_head hs f hf
          unfold lessQ at this
          simp at this
          omega
      have e1 : (e :: t).filter (box52 lx ly (a - 1) hy) = [] := by
        rw [List.filter_eq_nil_iff]
        intro f hf hb
        have := hge f hf
        unfold box52 at hb
        simp at hb
        omega
      rw [e1, List.nil_append]
      refine List.filter_congr (fun f hf => ?_)
      have := hge f hf
      unfold box52
      rw [decide_eq_true (show f.f0.f0 ≥ a from this), decide_eq_true (show f.f0.f0 ≥ lx by omega)]
theorem mem_get : ∀ (l : List S52), Rising l → ∀ e ∈ l, has l e.f0.f0 e.f0.f1 = true ∧ valOf l e.f0.f0 e.f0.f1 = e.f1
  | [], _, e, he => by cases he
  | a :: t, hs, e, he => by
    rcases List.mem_cons.1 he with rfl | he
    · have h0 := lessQ_irr e.f0.f0 e.f0.f1
      have h1 : has (e :: t) e.f0.f0 e.f0.f1 = true := by rw [has_zero hs _ _ h0]; simp
      refine ⟨h1, ?_⟩
      unfold valOf
      rw [if_pos h1, rank_zero hs _ _ h0, rd_zero]
    · obtain ⟨i1, i2⟩ := mem_get t (rising_tail hs) e he
      have h0 := rising_head hs e he
      have h1 : has (a :: t) e.f0.f0 e.f0.f1 = true := by rw [has_cons a t _ _ h0]; exact i1
      refine ⟨h1, ?_⟩
      unfold valOf at i2 ⊢
      rw [if_pos h1, rank_cons a t _ _ h0, rd_cons]
      rw [if_pos i1] at i2
      exact i2
theorem idx_grown {w w' : World} {bx base : Nat} {s u : Value} {l L : List S52} (hI : IdxAt w bx s l) (hR : Kd.R k52 52 w base (fun _ => True) u L) (hap : ∀ k, u.ownBlock = some k → some k ≠ s.ownBlock) (hg : w.grownBy w' u.ownBlock) : IdxAt w' bx s l :=
  ⟨(hg.block bx hI.lt (Kd.R_ne hR hI.blk (by decide))).trans hI.blk, R_same rfl hI.row (fun k hk => hg.block k (Kd.R_lt hI.row k hk) (fun e => hap k e.symm hk.symm)), hI.ne⟩
theorem apart_in {w w' : World} {bx : Nat} {s u : Value} {l L : List S52} (hI : IdxAt w bx s l) (h : Kd.R k52 52 w' w.heap.size (fun _ => True) u L) : ∀ k, u.ownBlock = some k → some k ≠ s.ownBlock := fun k hv e => by
  have h1 := Kd.R_base h k hv
  have h2 := Kd.R_lt hI.row k e.symm
  omega
theorem apart_row {w w' : World} {base : Nat} {s u : Value} {l L : List S52} (hX : Kd.R k52 52 w base (fun _ => True) s l) (h : Kd.R k52 52 w' w.heap.size (fun _ => True) u L) : ∀ k, s.ownBlock = some k → some k ≠ u.ownBlock := fun k hv e => by
  have h1 := Kd.R_base h k e.symm
  have h2 := Kd.R_lt hX k hv
  omega
section
attribute [local go_sem high] eqA35 eqA52
set_option maxHeartbeats 16000000 in
set_option maxRecDepth 100000 in
theorem nearParts.walk (A : Option Addr) (c : Nat) (l : List S31) (lx ly hx hy at_ : Int) (w : World) (hr : Kd.C k31 w A l.length l) (hc : l.length ≤ c) (hmin : ∀ e ∈ l, -9223372036854775808 ≤ e.f0.f1) (hlx : -9223372036854775808 ≤ lx) (hat : at_ ≤ 9223372036854775807) :
    Calls Try.prog 7 #[.slice A l.length c, .agg #[.int .i64 lx, .int .i64 ly, .int .i64 hx, .int .i64 hy], .int .i64 at_] w fun e w' => e = .returned (.bool true) ∧ Below w.heap.size w w' := by
  have hb1 := below_alloc (Below.refl _ w) (.cells #[.int .i64 lx, .int .i64 ly, .int .i64 hx, .int .i64 hy] 50)
  have hb2 := below_drew hb1
  have hbk : (w.alloc (.cells #[.int .i64 lx, .int .i64 ly, .int .i64 hx, .int .i64 hy] 50)).drew.heap[w.heap.size]? = some (.cells #[.int .i64 lx, .int .i64 ly, .int .i64 hx, .int .i64 hy] 50 (0, 0)) := heap_alloc_new w _
  have HLT0 : Aside0 (w.heap.size < (w.alloc (.cells #[.int .i64 lx, .int .i64 ly, .int .i64 hx, .int .i64 hy] 50)).drew.heap.size) := ⟨blk_lt hbk⟩
  have HB2 := Aside0.mk hb2
  have HC := Aside0.mk hr
  have Hc := Aside0.mk hc
  have HMIN := Aside0.mk hmin
  have HLX := Aside0.mk hlx
  have HAT := Aside0.mk hat
  clear hr hc hmin hlx hat hb1 hb2
  go_enter Try.func7, Try.ntmps7
  go_wp2_with fail
  refine start_ (n := 8) (S := fun W => W.heap[w.heap.size]? = some (.cells #[.int .i64 lx, .int .i64 ly, .int .i64 hx, .int .i64 hy] 50 (0, 0))) (ds := []) #[false, false, false, false, false, false, false, false] (by kernel_rfl) rfl rfl hbk (fun hHeld => ?_); refine with_tabW nearParts.tab1 nearParts.bits1 (fun HT_ HW_ => ?_)
  generalize (w.alloc (.cells #[.int .i64 lx, .int .i64 ly, .int .i64 hx, .int .i64 hy] 50)).drew = w1 at hHeld HB2 HLT0
  clear hbk
  refine pure_ (i := 0) (N := (some 18)) (v := ?_) (a' := ?_) #[true, false, false, false, false, false, false, false] rfl rfl (any_of HT_.out (by kernel_rfl)) (fun _ _ _ h => h) (Or.inl ⟨by rfl, ?_⟩) ?_ ?_
  rotate_left
  · intro w'
    go_simp
    with_reducible rfl
  rotate_left
  · simp only [Act.put, List.setIfInBounds_toArray, List.set_cons_zero, List.set_cons_succ, i64_w, i32_w]
    rfl
  refine take_ (i := 1) (N := (some 19)) (v := ?_) (a' := ?_) #[true, true, false, false, false, false, false, false] rfl rfl (take_ofW HT_.out HW_.out (by kernel_rfl)) (fun _ _ _ h => h) (Or.inl ⟨by rfl, ?_⟩) hHeld ?_ ?_
  rotate_left
  · rintro w' s1
    have h0 := blk_cell s1 0
    have h1 := blk_cell s1 1
    have h2 := blk_cell s1 2
    have h3 := blk_cell s1 3
    go_simp
    with_reducible rfl
  rotate_left
  · simp only [Act.put, List.setIfInBounds_toArray, List.set_cons_zero, List.set_cons_succ, i64_w, i32_w]
    rfl
  refine pure_ (i := 2) (N := (some 20)) (v := ?_) (a' := ?_) #[true, true, true, false, false, false, false, false] rfl rfl (any_of HT_.out (by kernel_rfl)) (fun _ _ _ h => h) (Or.inl ⟨by rfl, ?_⟩) ?_ ?_
  rotate_left
  · intro w'
    go_simp
    with_reducible rfl
  rotate_left
  · simp only [Act.put, List.setIfInBounds_toArray, List.set_cons_zero, List.set_cons_succ, i64_w, i32_w]
    rfl
  refine take_ (i := 3) (N := (some 21)) (v := ?_) (a' := ?_) #[true, true, true, true, false, false, false, false] rfl rfl (take_ofW HT_.out HW_.out (by kernel_rfl)) (fun _ _ _ h => h) (Or.inl ⟨by rfl, ?_⟩) hHeld ?_ ?_
  rotate_left
  · rintro w' s1
    have h0 := blk_cell s1 0
    have h1 := blk_cell s1 1
    have h2 := blk_cell s1 2
    have h3 := blk_cell s1 3
    go_simp
    with_reducible rfl
  rotate_left
  · simp only [Act.put, List.setIfInBounds_toArray, List.set_cons_zero, List.set_cons_succ, i64_w, i32_w]
    rfl
  refine join_ (σ := Nat × Nat) 0 #[true, true, true, true, true, true, true, true] (fun s => [(7, .pointer (some ⟨s.1, 0, none⟩)), (8, .pointer (some ⟨s.2, 0, none⟩))]) (fun s W => TgtB W s.1 lx ly ∧ TgtB W s.2 hx hy ∧ Below w.heap.size w W) ?_ ?_
  rotate_left
  · intro hc
    refine two_ (i := 4) (j := 5) (Ni := some 7) (Nj := some 8) #[true, true, true, true, true, false, false, false] #[true, true, true, true, false, true, false, false] rfl rfl rfl rfl (by kernel_rfl) (by decide) (by decide) (fun K hK => ?_) (fun K hK => ?_)
    · skip
      refine value_ (w1 := w1.alloc (.cells #[.int .i64 0, .int .i64 0] 35)) (v := .pointer (some ⟨w1.heap.size, 0, none⟩)) (by rfl) rfl (by first | (go_simp; done) | (go_simp; rfl) | (go_simp; constructor <;> rfl)) ?_
      have hb := below_alloc (Below.refl w1.heap.size w1) (.cells #[.int .i64 0, .int .i64 0] 35)
      have hS := (hb.block _ (blk_lt hHeld)).trans hHeld
      have Nb7 := heap_alloc_new w1 (.cells #[.int .i64 0, .int .i64 0] 35)
      have BA := Aside0.mk (below_step HB2.out hb)
      have LT1 := Aside0.mk (blk_lt hHeld)
      clear hHeld hb
      refine hK.out _ _ hS (fun hHeld => ?_)
      clear hK K hS
      refine norm_ (a' := ?_) ?_ ?_
      rotate_left
      · show Act.put _ (some 7) _ = _
        simp only [Act.put, List.setIfInBounds_toArray, List.set_cons_zero, List.set_cons_succ, i64_w, i32_w]
        rfl
      generalize hwa : w1.alloc (.cells #[.int .i64 0, .int .i64 0] 35) = wa at hHeld Nb7 BA ⊢
      clear hwa
      generalize w1.heap.size = b7 at Nb7 LT1 ⊢
      refine one_ (i := 5) (N := some 8) #[true, true, true, true, true, true, false, false] rfl rfl (by kernel_rfl) (by decide) (fun K hK => ?_)
      refine value_ (w1 := wa.alloc (.cells #[.int .i64 0, .int .i64 0] 35)) (v := .pointer (some ⟨wa.heap.size, 0, none⟩)) (by rfl) rfl (by first | (go_simp; done) | (go_simp; rfl) | (go_simp; constructor <;> rfl)) ?_
      have hb := below_alloc (Below.refl wa.heap.size wa) (.cells #[.int .i64 0, .int .i64 0] 35)
      have hS := (hb.block _ (blk_lt hHeld)).trans hHeld
      have Nb8 := heap_alloc_new wa (.cells #[.int .i64 0, .int .i64 0] 35)
      have Mb7 := (hb.block _ (blk_lt Nb7)).trans Nb7
      have BB := Aside0.mk (below_step BA.out hb)
      have LT2 := Aside0.mk (blk_lt Nb7)
      have LT3 := Aside0.mk (blk_lt hHeld)
      clear hHeld hb Nb7
      refine hK.out _ _ hS (fun hHeld => ?_)
      clear hK K hS
      refine norm_ (a' := ?_) ?_ ?_
      rotate_left
      · show Act.put _ (some 8) _ = _
        simp only [Act.put, List.setIfInBounds_toArray, List.set_cons_zero, List.set_cons_succ, i64_w, i32_w]
        rfl
      generalize hwb : wa.alloc (.cells #[.int .i64 0, .int .i64 0] 35) = wb at hHeld Nb8 Mb7 BB ⊢
      clear hwb
      generalize wa.heap.size = b8 at Nb8 LT2 LT3 ⊢
      have Mb8 := Nb8
      clear Nb8
      have hne : b7 ≠ b8 := by have := LT2.out; omega
      refine one_ (i := 6) (N := none) #[true, true, true, true, true, true, true, false] rfl rfl (by kernel_rfl) (by decide) (fun K hK => ?_)
      have g0 := (blk_cell Mb7 0).trans (show _ = some (.int .i64 0) from rfl)
      have g1 := (blk_cell Mb7 1).trans (show _ = some (.int .i64 0) from rfl)
      have z0 := blk_frozen Mb7 0
      have z1 := blk_frozen Mb7 1
      refine skipS_ (w1 := ((wb.setCell ⟨b7, 0, none⟩ (.int .i64 lx)).setCell ⟨b7, 1, none⟩ (.int .i64 ly))) (by rfl) rfl rfl (by first | (go_simp; done) | (go_simp; rfl)) ?_
      have Pb7 := blk_put (cs' := #[.int .i64 lx, .int .i64 ly]) (blk_put (cs' := #[.int .i64 lx, .int .i64 0]) Mb7 0 (.int .i64 lx) rfl) 1 (.int .i64 ly) rfl
      have far : ∀ k, k ≠ b7 → ((wb.setCell ⟨b7, 0, none⟩ (.int .i64 lx)).setCell ⟨b7, 1, none⟩ (.int .i64 ly)).heap[k]? = wb.heap[k]? := fun k hk => (Below.heap_setCell _ ⟨b7, 1, none⟩ _ k hk).trans (Below.heap_setCell _ ⟨b7, 0, none⟩ _ k hk)
      have hS := (far w.heap.size (by have := LT1.out; have := LT2.out; have := LT3.out; omega)).trans hHeld
      have Qb8 := (far b8 (by omega)).trans Mb8
      have BC := Aside0.mk ((BB.out.setCell (p := ⟨b7, 0, none⟩) (by have := LT1.out; have := LT2.out; have := LT3.out; show w.heap.size ≤ b7; omega) (.int .i64 lx)).setCell (p := ⟨b7, 1, none⟩) (by have := LT1.out; have := LT2.out; have := LT3.out; show w.heap.size ≤ b7; omega) (.int .i64 ly))
      clear hHeld far Mb7 Mb8 BB g0 g1 z0 z1
      refine hK.out _ _ hS (fun hHeld => ?_)
      clear hK K hS
      refine norm_ (a' := ?_) ?_ ?_
      rotate_left
      · show Act.put _ none _ = _
        simp only [Act.put]
        rfl
      generalize hwq : ((wb.setCell ⟨b7, 0, none⟩ (.int .i64 lx)).setCell ⟨b7, 1, none⟩ (.int .i64 ly)) = wc at hHeld Pb7 Qb8 BC ⊢
      clear hwq
      have BB := BC
      clear BC
      have Mb8 := Qb8
      clear Qb8
      refine one_ (i := 7) (N := none) #[true, true, true, true, true, true, true, true] rfl rfl (by kernel_rfl) (by decide) (fun K hK => ?_)
      have g0 := (blk_cell Mb8 0).trans (show _ = some (.int .i64 0) from rfl)
      have g1 := (blk_cell Mb8 1).trans (show _ = some (.int .i64 0) from rfl)
      have z0 := blk_frozen Mb8 0
      have z1 := blk_frozen Mb8 1
      refine skipS_ (w1 := ((wc.setCell ⟨b8, 0, none⟩ (.int .i64 hx)).setCell ⟨b8, 1, none⟩ (.int .i64 hy))) (by rfl) rfl rfl (by first | (go_simp; done) | (go_simp; rfl)) ?_
      have Pb8 := blk_put (cs' := #[.int .i64 hx, .int .i64 hy]) (blk_put (cs' := #[.int .i64 hx, .int .i64 0]) Mb8 0 (.int .i64 hx) rfl) 1 (.int .i64 hy) rfl
      have far : ∀ k, k ≠ b8 → ((wc.setCell ⟨b8, 0, none⟩ (.int .i64 hx)).setCell ⟨b8, 1, none⟩ (.int .i64 hy)).heap[k]? = wc.heap[k]? := fun k hk => (Below.heap_setCell _ ⟨b8, 1, none⟩ _ k hk).trans (Below.heap_setCell _ ⟨b8, 0, none⟩ _ k hk)
      have hS := (far w.heap.size (by have := LT1.out; have := LT2.out; have := LT3.out; omega)).trans hHeld
      have Qb7 := (far b7 (by omega)).trans Pb7
      have BC := Aside0.mk ((BB.out.setCell (p := ⟨b8, 0, none⟩) (by have := LT1.out; have := LT2.out; have := LT3.out; show w.heap.size ≤ b8; omega) (.int .i64 hx)).setCell (p := ⟨b8, 1, none⟩) (by have := LT1.out; have := LT2.out; have := LT3.out; show w.heap.size ≤ b8; omega) (.int .i64 hy))
      clear hHeld far Mb8 Pb7 BB g0 g1 z0 z1
      refine hK.out _ _ hS (fun hHeld => ?_)
      clear hK K hS
      refine norm_ (a' := ?_) ?_ ?_
      rotate_left
      · show Act.put _ none _ = _
        simp only [Act.put]
        rfl
      generalize hwq : ((wc.setCell ⟨b8, 0, none⟩ (.int .i64 hx)).setCell ⟨b8, 1, none⟩ (.int .i64 hy)) = wd at hHeld Pb8 Qb7 BC ⊢
      clear hwq
      have BB := BC
      clear BC
      exact norm_ (by first | (simp only [putAll, Act.put, List.setIfInBounds_toArray, List.set_cons_zero, List.set_cons_succ]; done) | (simp only [putAll, Act.put, List.setIfInBounds_toArray, List.set_cons_zero, List.set_cons_succ]; rfl)) (hc (b7, b8) _ ⟨Qb7, Pb8, BB.out⟩)
    · skip
      refine value_ (w1 := w1.alloc (.cells #[.int .i64 0, .int .i64 0] 35)) (v := .pointer (some ⟨w1.heap.size, 0, none⟩)) (by rfl) rfl (by first | (go_simp; done) | (go_simp; rfl) | (go_simp; constructor <;> rfl)) ?_
      have hb := below_alloc (Below.refl w1.heap.size w1) (.cells #[.int .i64 0, .int .i64 0] 35)
      have hS := (hb.block _ (blk_lt hHeld)).trans hHeld
      have Nb8 := heap_alloc_new w1 (.cells #[.int .i64 0, .int .i64 0] 35)
      have BA := Aside0.mk (below_step HB2.out hb)
      have LT1 := Aside0.mk (blk_lt hHeld)
      clear hHeld hb
      refine hK.out _ _ hS (fun hHeld => ?_)
      clear hK K hS
      refine norm_ (a' := ?_) ?_ ?_
      rotate_left
      · show Act.put _ (some 8) _ = _
        simp only [Act.put, List.setIfInBounds_toArray, List.set_cons_zero, List.set_cons_succ, i64_w, i32_w]
        rfl
      generalize hwa : w1.alloc (.cells #[.int .i64 0, .int .i64 0] 35) = wa at hHeld Nb8 BA ⊢
      clear hwa
      generalize w1.heap.size = b8 at Nb8 LT1 ⊢
      refine one_ (i := 4) (N := some 7) #[true, true, true, true, true, true, false, false] rfl rfl (by kernel_rfl) (by decide) (fun K hK => ?_)
      refine value_ (w1 := wa.alloc (.cells #[.int .i64 0, .int .i64 0] 35)) (v := .pointer (some ⟨wa.heap.size, 0, none⟩)) (by rfl) rfl (by first | (go_simp; done) | (go_simp; rfl) | (go_simp; constructor <;> rfl)) ?_
      have hb := below_alloc (Below.refl wa.heap.size wa) (.cells #[.int .i64 0, .int .i64 0] 35)
      have hS := (hb.block _ (blk_lt hHeld)).trans hHeld
      have Nb7 := heap_alloc_new wa (.cells #[.int .i64 0, .int .i64 0] 35)
      have Mb8 := (hb.block _ (blk_lt Nb8)).trans Nb8
      have BB := Aside0.mk (below_step BA.out hb)
      have LT2 := Aside0.mk (blk_lt Nb8)
      have LT3 := Aside0.mk (blk_lt hHeld)
      clear hHeld hb Nb8
      refine hK.out _ _ hS (fun hHeld => ?_)
      clear hK K hS
      refine norm_ (a' := ?_) ?_ ?_
      rotate_left
      · show Act.put _ (some 7) _ = _
        simp only [Act.put, List.setIfInBounds_toArray, List.set_cons_zero, List.set_cons_succ, i64_w, i32_w]
        rfl
      generalize hwb : wa.alloc (.cells #[.int .i64 0, .int .i64 0] 35) = wb at hHeld Nb7 Mb8 BB ⊢
      clear hwb
      generalize wa.heap.size = b7 at Nb7 LT2 LT3 ⊢
      have Mb7 := Nb7
      clear Nb7
      have hne : b7 ≠ b8 := by have := LT2.out; omega
      refine one_ (i := 6) (N := none) #[true, true, true, true, true, true, true, false] rfl rfl (by kernel_rfl) (by decide) (fun K hK => ?_)
      have g0 := (blk_cell Mb7 0).trans (show _ = some (.int .i64 0) from rfl)
      have g1 := (blk_cell Mb7 1).trans (show _ = some (.int .i64 0) from rfl)
      have z0 := blk_frozen Mb7 0
      have z1 := blk_frozen Mb7 1
      refine skipS_ (w1 := ((wb.setCell ⟨b7, 0, none⟩ (.int .i64 lx)).setCell ⟨b7, 1, none⟩ (.int .i64 ly))) (by rfl) rfl rfl (by first | (go_simp; done) | (go_simp; rfl)) ?_
      have Pb7 := blk_put (cs' := #[.int .i64 lx, .int .i64 ly]) (blk_put (cs' := #[.int .i64 lx, .int .i64 0]) Mb7 0 (.int .i64 lx) rfl) 1 (.int .i64 ly) rfl
      have far : ∀ k, k ≠ b7 → ((wb.setCell ⟨b7, 0, none⟩ (.int .i64 lx)).setCell ⟨b7, 1, none⟩ (.int .i64 ly)).heap[k]? = wb.heap[k]? := fun k hk => (Below.heap_setCell _ ⟨b7, 1, none⟩ _ k hk).trans (Below.heap_setCell _ ⟨b7, 0, none⟩ _ k hk)
      have hS := (far w.heap.size (by have := LT1.out; have := LT2.out; have := LT3.out; omega)).trans hHeld
      have Qb8 := (far b8 (by omega)).trans Mb8
      have BC := Aside0.mk ((BB.out.setCell (p := ⟨b7, 0, none⟩) (by have := LT1.out; have := LT2.out; have := LT3.out; show w.heap.size ≤ b7; omega) (.int .i64 lx)).setCell (p := ⟨b7, 1, none⟩) (by have := LT1.out; have := LT2.out; have := LT3.out; show w.heap.size ≤ b7; omega) (.int .i64 ly))
      clear hHeld far Mb7 Mb8 BB g0 g1 z0 z1
      refine hK.out _ _ hS (fun hHeld => ?_)
      clear hK K hS
      refine norm_ (a' := ?_) ?_ ?_
      rotate_left
      · show Act.put _ none _ = _
        simp only [Act.put]
        rfl
      generalize hwq : ((wb.setCell ⟨b7, 0, none⟩ (.int .i64 lx)).setCell ⟨b7, 1, none⟩ (.int .i64 ly)) = wc at hHeld Pb7 Qb8 BC ⊢
      clear hwq
      have BB := BC
      clear BC
      have Mb8 := Qb8
      clear Qb8
      refine one_ (i := 7) (N := none) #[true, true, true, true, true, true, true, true] rfl rfl (by kernel_rfl) (by decide) (fun K hK => ?_)
      have g0 := (blk_cell Mb8 0).trans (show _ = some (.int .i64 0) from rfl)
      have g1 := (blk_cell Mb8 1).trans (show _ = some (.int .i64 0) from rfl)
      have z0 := blk_frozen Mb8 0
      have z1 := blk_frozen Mb8 1
      refine skipS_ (w1 := ((wc.setCell ⟨b8, 0, none⟩ (.int .i64 hx)).setCell ⟨b8, 1, none⟩ (.int .i64 hy))) (by rfl) rfl rfl (by first | (go_simp; done) | (go_simp; rfl)) ?_
      have Pb8 := blk_put (cs' := #[.int .i64 hx, .int .i64 hy]) (blk_put (cs' := #[.int .i64 hx, .int .i64 0]) Mb8 0 (.int .i64 hx) rfl) 1 (.int .i64 hy) rfl
      have far : ∀ k, k ≠ b8 → ((wc.setCell ⟨b8, 0, none⟩ (.int .i64 hx)).setCell ⟨b8, 1, none⟩ (.int .i64 hy)).heap[k]? = wc.heap[k]? := fun k hk => (Below.heap_setCell _ ⟨b8, 1, none⟩ _ k hk).trans (Below.heap_setCell _ ⟨b8, 0, none⟩ _ k hk)
      have hS := (far w.heap.size (by have := LT1.out; have := LT2.out; have := LT3.out; omega)).trans hHeld
      have Qb7 := (far b7 (by omega)).trans Pb7
      have BC := Aside0.mk ((BB.out.setCell (p := ⟨b8, 0, none⟩) (by have := LT1.out; have := LT2.out; have := LT3.out; show w.heap.size ≤ b8; omega) (.int .i64 hx)).setCell (p := ⟨b8, 1, none⟩) (by have := LT1.out; have := LT2.out; have := LT3.out; show w.heap.size ≤ b8; omega) (.int .i64 hy))
      clear hHeld far Mb8 Pb7 BB g0 g1 z0 z1
      refine hK.out _ _ hS (fun hHeld => ?_)
      clear hK K hS
      refine norm_ (a' := ?_) ?_ ?_
      rotate_left
      · show Act.put _ none _ = _
        simp only [Act.put]
        rfl
      generalize hwq : ((wc.setCell ⟨b8, 0, none⟩ (.int .i64 hx)).setCell ⟨b8, 1, none⟩ (.int .i64 hy)) = wd at hHeld Pb8 Qb7 BC ⊢
      clear hwq
      have BB := BC
      clear BC
      exact norm_ (by first | (simp only [putAll, Act.put, List.setIfInBounds_toArray, List.set_cons_zero, List.set_cons_succ]; done) | (simp only [putAll, Act.put, List.setIfInBounds_toArray, List.set_cons_zero, List.set_cons_succ]; rfl)) (hc (b7, b8) _ ⟨Qb7, Pb8, BB.out⟩)
  rintro ⟨b7, b8⟩ w2 ⟨f7, f8, fb⟩
  have T2 := Aside0.mk (show TgtB w2 b7 lx ly from f7)
  have U2 := Aside0.mk (show TgtB w2 b8 hx hy from f8)
  have B2 := Aside0.mk (show Below w.heap.size w w2 from fb)
  clear f7 f8 fb HB2 HLT0 hHeld
  refine norm_ (a' := ?_) ?_ ?_
  rotate_left
  · simp only [putAll, Act.put, List.setIfInBounds_toArray, List.set_cons_zero, List.set_cons_succ]
    rfl
  refine done_ (by kernel_rfl) ?_
  have t0 := T2.out.c0
  have t1 := T2.out.c1
  have u0 := U2.out.c0
  have u1 := U2.out.c1
  clear HT_ HW_
  by_cases hl : l.length > 120
  · have hd : decide ((l.length : Int) > 120) = true := decide_eq_true (by omega)
    have hd2 : decide (120 < l.length) = true := decide_eq_true hl
    have hd3 : decide (l.length > 120) = true := decide_eq_true hl
    clear hl
    go_wp2_with (go_at_call 8; (with_reducible refine (alive_b _).mono ?_); rintro e w3 ⟨rfl, hb⟩; have B3 := Aside0.mk (below_step B2.out hb))
    go_ret
    exact ⟨rfl, B3.out⟩
  have hd : decide ((l.length : Int) > 120) = false := decide_eq_false (by omega)
  have hd2 : decide (120 < l.length) = false := decide_eq_false hl
  have hd3 : decide (l.length > 120) = false := decide_eq_false hl
  by_cases h2 : at_ ≤ lx
  · have hd4 : decide (at_ ≤ lx) = true := decide_eq_true h2
    clear hl h2
    go_wp2_with (go_at_call 8; (with_reducible refine (alive_b _).mono ?_); rintro e w3 ⟨rfl, hb⟩; have B3 := Aside0.mk (below_step B2.out hb))
    go_ret
    exact ⟨rfl, B3.out⟩
  have hd4 : decide (at_ ≤ lx) = false := decide_eq_false h2
  by_cases h3 : at_ > hx
  · have hd5 : decide (at_ > hx) = true := decide_eq_true h3
    clear hl h2 h3
    go_wp2_with (go_at_call 8; (with_reducible refine (alive_b _).mono ?_); rintro e w3 ⟨rfl, hb⟩; have B3 := Aside0.mk (below_step B2.out hb))
    go_ret
    exact ⟨rfl, B3.out⟩
  have hd5 : decide (at_ > hx) = false := decide_eq_false h3
  have HL := Aside0.mk (Nat.le_of_not_lt hl)
  have HC2 := Aside0.mk (Kd.C_below HC.out B2.out)
  obtain ⟨L, hL⟩ : ∃ L, L = putsR l := ⟨_, rfl⟩
  have HLE := Aside0.mk hL
  have HS := Aside0.mk (show Rising (rows L) by rw [hL]; exact puts_rising l)
  have HLN := Aside0.mk (show L.length ≤ 120 by rw [hL]; exact Nat.le_trans (puts_len l) (Nat.le_of_not_lt hl))
  have hmn : ∀ e ∈ rows L, -9223372036854775808 ≤ e.f0.f1 := fun e he => by
    obtain ⟨x, hx2, rfl⟩ := List.mem_map.1 he
    rw [hL] at hx2
    exact puts_min l HMIN.out x hx2
  obtain ⟨AL, hAL⟩ : ∃ X, X = inL (rows L) lx ly hx hy := ⟨_, rfl⟩
  obtain ⟨PA, hPA⟩ : ∃ X, X = inL (rows L) lx ly (at_ - 1) hy := ⟨_, rfl⟩
  obtain ⟨PB, hPB⟩ : ∃ X, X = inL (rows L) at_ ly hx hy := ⟨_, rfl⟩
  have HCAT := Aside0.mk (show PA ++ PB = AL by rw [hAL, hPA, hPB, inL_eq _ _ _ _ _ HS.out hmn, inL_eq _ _ _ _ _ HS.out hmn, inL_eq _ _ _ _ _ HS.out hmn]; exact parts_filter lx ly hx hy at_ (Int.not_le.1 h2) (Int.not_lt.1 h3) _ HS.out)
  have HMEM := Aside0.mk (show ∀ e ∈ AL, has (rows L) e.f0.f0 e.f0.f1 = true ∧ valOf (rows L) e.f0.f0 e.f0.f1 = e.f1 from fun e he => mem_get _ HS.out e (by rw [hAL, inL_eq _ _ _ _ _ HS.out hmn] at he; exact (List.mem_filter.1 he).1))
  have HALN := Aside0.mk (show AL.length ≤ 120 by rw [hAL, inL_eq _ _ _ _ _ HS.out hmn]; exact Nat.le_trans (List.length_filter_le _ _) (by rw [rows_len]; exact HLN.out))
  have hcl := congrArg List.length HCAT.out
  rw [List.length_append] at hcl
  have HCL := Aside0.mk hcl
  have HFL := Aside0.mk (show Fits (rows L) from fits_rows (by have := HLN.out; omega))
  have hw1 : wrap64 (at_ - 1) = at_ - 1 := w64_id (by have := HLX.out; have := Int.not_le.1 h2; omega) (by have := HAT.out; omega)
  have HIA := Aside0.mk hPA.symm
  have HIB := Aside0.mk hPB.symm
  have HIL := Aside0.mk hAL.symm
  clear hl h2 h3 hL hmn hAL hPA hPB hcl
  go_wp2_with fail
  refine (made.calls A c l w2 HC2.out Hc.out HL.out).mono ?_
  rw [← HLE.out]
  rintro e w3 ⟨bx, s, v3, rfl, hi, ho⟩
  obtain ⟨A3, c3, rfl⟩ := Kd.R_slice ho
  have I3 := Aside0.mk hi
  have T3 := Aside0.mk (T2.out.below hi.bel)
  have U3 := Aside0.mk (U2.out.below hi.bel)
  have B3 := Aside0.mk (below_step B2.out hi.bel)
  have LW := Aside0.mk (show w.heap.size ≤ w2.heap.size from B2.out.size)
  clear t0 t1 u0 u1 hi ho HC2 T2 U2 B2
  have t0 := T3.out.c0
  have t1 := T3.out.c1
  have u0 := U3.out.c0
  have u1 := U3.out.c1
  go_wp2_with fail
  refine (near_In.calls bx s (rows L) lx ly hx hy w3 I3.out.ix HS.out HFL.out).mono ?_
  rw [HIL.out]
  rintro e w4 ⟨v4, rfl, ho, hb⟩
  obtain ⟨A4, c4, rfl⟩ := Kd.R_slice ho
  have X4 := Aside0.mk ho
  have XP := Aside0.mk (apart_in I3.out.ix ho)
  have I4 := Aside0.mk (I3.out.below hb)
  have T4 := Aside0.mk (T3.out.below hb)
  have U4 := Aside0.mk (U3.out.below hb)
  have B4 := Aside0.mk (below_step B3.out hb)
  clear t0 t1 u0 u1 ho hb T3 U3 B3 I3
  go_wp2_with fail
  have hb := below_drew (Below.refl w4.heap.size w4)
  have B5 := Aside0.mk (below_step B4.out hb)
  have I5 := Aside0.mk (I4.out.below hb)
  have X5 := Aside0.mk (Kd.R_below X4.out hb)
  have hh : TgtB w4.drew b7 lx ly ∧ TgtB w4.drew b8 hx hy := ⟨T4.out.below hb, U4.out.below hb⟩
  refine start_ (n := 17) (S := fun W => TgtB W b7 lx ly ∧ TgtB W b8 hx hy) (ds := []) #[false, false, false, false, false, false, false, false, false, false, false, false, false, false, false, false, false] (by kernel_rfl) rfl rfl hh (fun hHeld => ?_); refine with_tabW nearParts.tab6 nearParts.bits6 (fun HT_ HW_ => ?_)
  generalize w4.drew = w5 at hHeld B5 I5 X5
  clear hh hb I4 X4 T4 U4 B4
  refine pure_ (i := 0) (N := (some 47)) (v := ?_) (a' := ?_) #[true, false, false, false, false, false, false, false, false, false, false, false, false, false, false, false, false] rfl rfl (any_of HT_.out (by kernel_rfl)) (fun _ _ _ h => h) (Or.inl ⟨by rfl, ?_⟩) ?_ ?_
  rotate_left
  · intro w'
    go_simp
    with_reducible rfl
  rotate_left
  · simp only [Act.put, List.setIfInBounds_toArray, List.set_cons_zero, List.set_cons_succ, i64_w, i32_w]
    rfl
  refine take_ (i := 1) (N := (some 48)) (v := ?_) (a' := ?_) #[true, true, false, false, false, false, false, false, false, false, false, false, false, false, false, false, false] rfl rfl (take_ofW HT_.out HW_.out (by kernel_rfl)) (fun _ _ _ h => h) (Or.inl ⟨by rfl, ?_⟩) hHeld ?_ ?_
  rotate_left
  · rintro w' ⟨s1, t1⟩
    have h0 := s1.c0
    have h1 := s1.c1
    have h2 := t1.c0
    have h3 := t1.c1
    go_simp
    with_reducible rfl
  rotate_left
  · simp only [Act.put, List.setIfInBounds_toArray, List.set_cons_zero, List.set_cons_succ, i64_w, i32_w]
    rfl
  refine pure_ (i := 2) (N := (some 49)) (v := ?_) (a' := ?_) #[true, true, true, false, false, false, false, false, false, false, false, false, false, false, false, false, false] rfl rfl (any_of HT_.out (by kernel_rfl)) (fun _ _ _ h => h) (Or.inl ⟨by rfl, ?_⟩) ?_ ?_
  rotate_left
  · intro w'
    go_simp
    with_reducible rfl
  rotate_left
  · simp only [Act.put, List.setIfInBounds_toArray, List.set_cons_zero, List.set_cons_succ, i64_w, i32_w]
    rfl
  refine pure_ (i := 3) (N := (some 50)) (v := ?_) (a' := ?_) #[true, true, true, true, false, false, false, false, false, false, false, false, false, false, false, false, false] rfl rfl (any_of HT_.out (by kernel_rfl)) (fun _ _ _ h => h) (Or.inl ⟨by rfl, ?_⟩) ?_ ?_
  rotate_left
  · intro w'
    go_simp
    simp only [i64_w, hw1]
    with_reducible rfl
  rotate_left
  · simp only [Act.put, List.setIfInBounds_toArray, List.set_cons_zero, List.set_cons_succ, i64_w, i32_w]
    rfl
  refine pure_ (i := 4) (N := (some 51)) (v := ?_) (a' := ?_) #[true, true, true, true, true, false, false, false, false, false, false, false, false, false, false, false, false] rfl rfl (any_of HT_.out (by kernel_rfl)) (fun _ _ _ h => h) (Or.inl ⟨by rfl, ?_⟩) ?_ ?_
  rotate_left
  · intro w'
    go_simp
    with_reducible rfl
  rotate_left
  · simp only [Act.put, List.setIfInBounds_toArray, List.set_cons_zero, List.set_cons_succ, i64_w, i32_w]
    rfl
  refine take_ (i := 5) (N := (some 52)) (v := ?_) (a' := ?_) #[true, true, true, true, true, true, false, false, false, false, false, false, false, false, false, false, false] rfl rfl (take_ofW HT_.out HW_.out (by kernel_rfl)) (fun _ _ _ h => h) (Or.inl ⟨by rfl, ?_⟩) hHeld ?_ ?_
  rotate_left
  · rintro w' ⟨s1, t1⟩
    have h0 := s1.c0
    have h1 := s1.c1
    have h2 := t1.c0
    have h3 := t1.c1
    go_simp
    with_reducible rfl
  rotate_left
  · simp only [Act.put, List.setIfInBounds_toArray, List.set_cons_zero, List.set_cons_succ, i64_w, i32_w]
    rfl
  refine pure_ (i := 6) (N := (some 53)) (v := ?_) (a' := ?_) #[true, true, true, true, true, true, true, false, false, false, false, false, false, false, false, false, false] rfl rfl (any_of HT_.out (by kernel_rfl)) (fun _ _ _ h => h) (Or.inl ⟨by rfl, ?_⟩) ?_ ?_
  rotate_left
  · intro w'
    go_simp
    with_reducible rfl
  rotate_left
  · simp only [Act.put, List.setIfInBounds_toArray, List.set_cons_zero, List.set_cons_succ, i64_w, i32_w]
    rfl
  refine pure_ (i := 8) (N := (some 55)) (v := ?_) (a' := ?_) #[true, true, true, true, true, true, true, false, true, false, false, false, false, false, false, false, false] rfl rfl (any_of HT_.out (by kernel_rfl)) (fun _ _ _ h => h) (Or.inl ⟨by rfl, ?_⟩) ?_ ?_
  rotate_left
  · intro w'
    go_simp
    with_reducible rfl
  rotate_left
  · simp only [Act.put, List.setIfInBounds_toArray, List.set_cons_zero, List.set_cons_succ, i64_w, i32_w]
    rfl
  refine pure_ (i := 9) (N := (some 56)) (v := ?_) (a' := ?_) #[true, true, true, true, true, true, true, false, true, true, false, false, false, false, false, false, false] rfl rfl (any_of HT_.out (by kernel_rfl)) (fun _ _ _ h => h) (Or.inl ⟨by rfl, ?_⟩) ?_ ?_
  rotate_left
  · intro w'
    go_simp
    with_reducible rfl
  rotate_left
  · simp only [Act.put, List.setIfInBounds_toArray, List.set_cons_zero, List.set_cons_succ, i64_w, i32_w]
    rfl
  refine pure_ (i := 10) (N := (some 57)) (v := ?_) (a' := ?_) #[true, true, true, true, true, true, true, false, true, true, true, false, false, false, false, false, false] rfl rfl (any_of HT_.out (by kernel_rfl)) (fun _ _ _ h => h) (Or.inl ⟨by rfl, ?_⟩) ?_ ?_
  rotate_left
  · intro w'
    go_simp
    with_reducible rfl
  rotate_left
  · simp only [Act.put, List.setIfInBounds_toArray, List.set_cons_zero, List.set_cons_succ, i64_w, i32_w]
    rfl
  refine take_ (i := 11) (N := (some 58)) (v := ?_) (a' := ?_) #[true, true, true, true, true, true, true, false, true, true, true, true, false, false, false, false, false] rfl rfl (take_ofW HT_.out HW_.out (by kernel_rfl)) (fun _ _ _ h => h) (Or.inl ⟨by rfl, ?_⟩) hHeld ?_ ?_
  rotate_left
  · rintro w' ⟨s1, t1⟩
    have h0 := s1.c0
    have h1 := s1.c1
    have h2 := t1.c0
    have h3 := t1.c1
    go_simp
    with_reducible rfl
  rotate_left
  · simp only [Act.put, List.setIfInBounds_toArray, List.set_cons_zero, List.set_cons_succ, i64_w, i32_w]
    rfl
  refine pure_ (i := 12) (N := (some 59)) (v := ?_) (a' := ?_) #[true, true, true, true, true, true, true, false, true, true, true, true, true, false, false, false, false] rfl rfl (any_of HT_.out (by kernel_rfl)) (fun _ _ _ h => h) (Or.inl ⟨by rfl, ?_⟩) ?_ ?_
  rotate_left
  · intro w'
    go_simp
    with_reducible rfl
  rotate_left
  · simp only [Act.put, List.setIfInBounds_toArray, List.set_cons_zero, List.set_cons_succ, i64_w, i32_w]
    rfl
  refine take_ (i := 13) (N := (some 60)) (v := ?_) (a' := ?_) #[true, true, true, true, true, true, true, false, true, true, true, true, true, true, false, false, false] rfl rfl (take_ofW HT_.out HW_.out (by kernel_rfl)) (fun _ _ _ h => h) (Or.inl ⟨by rfl, ?_⟩) hHeld ?_ ?_
  rotate_left
  · rintro w' ⟨s1, t1⟩
    have h0 := s1.c0
    have h1 := s1.c1
    have h2 := t1.c0
    have h3 := t1.c1
    go_simp
    with_reducible rfl
  rotate_left
  · simp only [Act.put, List.setIfInBounds_toArray, List.set_cons_zero, List.set_cons_succ, i64_w, i32_w]
    rfl
  refine one_ (i := 7) (N := (some 54)) #[true, true, true, true, true, true, true, true, true, true, true, true, true, true, false, false, false] rfl rfl (one_of HT_.out (by kernel_rfl)) (by decide) (fun K hK => ?_)
  refine goes_ Try.func17 (by kernel_rfl) rfl #[.pointer (some ⟨bx, 0, none⟩), .agg #[.int .i64 lx, .int .i64 ly], .agg #[.int .i64 (at_ - 1), .int .i64 hy]] (by rfl) rfl rfl (by (try simp only [List.map_toArray, List.map_cons, List.map_nil]); first | done | rfl) ?_
  with_reducible refine (near_In.calls bx s (rows L) lx ly (at_ - 1) hy _ I5.out.ix HS.out HFL.out).mono ?_
  rintro e w6 ⟨v6, rfl, ho, hb⟩
  refine ⟨_, rfl, ?_⟩
  rw [HIA.out] at ho
  obtain ⟨AA, ca, rfl⟩ := Kd.R_slice ho
  have HW6 := Aside0.mk (show w.heap.size ≤ w5.heap.size from B5.out.size)
  have RA6 := Aside0.mk ho
  have PA6 := Aside0.mk (apart_in I5.out.ix ho)
  have XA6 := Aside0.mk (apart_row X5.out ho)
  have X6 := Aside0.mk (Kd.R_below X5.out hb)
  have I6 := Aside0.mk (I5.out.below hb)
  have B6 := Aside0.mk (below_step B5.out hb)
  have hHeld2 : _ ∧ _ := ⟨hHeld.1.below hb, hHeld.2.below hb⟩
  clear hHeld
  clear hb ho I5 B5 X5
  refine hK.out _ _ hHeld2 (fun hHeld => ?_)
  clear hK K hHeld2
  refine norm_ (a' := ?_) ?_ ?_
  rotate_left
  · show Act.put _ (some 54) _ = _
    simp only [Act.put, List.setIfInBounds_toArray, List.set_cons_zero, List.set_cons_succ, i64_w, i32_w]
    rfl
  refine one_ (i := 14) (N := (some 61)) #[true, true, true, true, true, true, true, true, true, true, true, true, true, true, true, false, false] rfl rfl (one_of HT_.out (by kernel_rfl)) (by decide) (fun K hK => ?_)
  refine goes_ Try.func17 (by kernel_rfl) rfl #[.pointer (some ⟨bx, 0, none⟩), .agg #[.int .i64 at_, .int .i64 ly], .agg #[.int .i64 hx, .int .i64 hy]] (by rfl) rfl rfl (by (try simp only [List.map_toArray, List.map_cons, List.map_nil]); first | done | rfl) ?_
  with_reducible refine (near_In.calls bx s (rows L) at_ ly hx hy _ I6.out.ix HS.out HFL.out).mono ?_
  rintro e w7 ⟨v7, rfl, ho, hb⟩
  refine ⟨_, rfl, ?_⟩
  rw [HIB.out] at ho
  obtain ⟨AB, cb, rfl⟩ := Kd.R_slice ho
  have RB7 := Aside0.mk ho
  have RA7 := Aside0.mk (Kd.R_below RA6.out hb)
  have X7 := Aside0.mk (Kd.R_below X6.out hb)
  have I7 := Aside0.mk (I6.out.below hb)
  have B7 := Aside0.mk (below_step B6.out hb)
  have hHeld2 : _ ∧ _ := ⟨hHeld.1.below hb, hHeld.2.below hb⟩
  clear hHeld
  clear hb ho I6 B6 X6 RA6
  refine hK.out _ _ hHeld2 (fun hHeld => ?_)
  clear hK K hHeld2
  refine norm_ (a' := ?_) ?_ ?_
  rotate_left
  · show Act.put _ (some 61) _ = _
    simp only [Act.put, List.setIfInBounds_toArray, List.set_cons_zero, List.set_cons_succ, i64_w, i32_w]
    rfl
  refine pure_ (i := 15) (N := (some 12)) (v := ?_) (a' := ?_) #[true, true, true, true, true, true, true, true, true, true, true, true, true, true, true, true, false] rfl rfl (any_of HT_.out (by kernel_rfl)) (fun _ _ _ h => h) (Or.inl ⟨by rfl, ?_⟩) ?_ ?_
  rotate_left
  · intro w'
    go_simp
    with_reducible rfl
  rotate_left
  · simp only [Act.put, List.setIfInBounds_toArray, List.set_cons_zero, List.set_cons_succ, i64_w, i32_w]
    rfl
  refine pure_ (i := 16) (N := (some 13)) (v := ?_) (a' := ?_) #[true, true, true, true, true, true, true, true, true, true, true, true, true, true, true, true, true] rfl rfl (any_of HT_.out (by kernel_rfl)) (fun _ _ _ h => h) (Or.inl ⟨by rfl, ?_⟩) ?_ ?_
  rotate_left
  · intro w'
    go_simp
    with_reducible rfl
  rotate_left
  · simp only [Act.put, List.setIfInBounds_toArray, List.set_cons_zero, List.set_cons_succ, i64_w, i32_w]
    rfl
  refine done_ (done_of HT_.out (by kernel_rfl)) ?_
  clear HT_ HW_
  have hwr : wrap64 ((PA.length : Int) + (PB.length : Int)) = (AL.length : Int) := by rw [← HCL.out]; exact w64_id (by omega) (by have h := HCL.out; have h2 := HALN.out; omega)
  have hwr2 : wrap64 (AL.length : Int) = (AL.length : Int) := w64_id (by omega) (by have h2 := HALN.out; omega)
  have hli : (PA.length : Int) + (PB.length : Int) = (AL.length : Int) := by rw [← HCL.out]; rfl
  have HBASE := Aside0.mk (show w.heap.size ≤ w7.heap.size from B7.out.size)
  clear hHeld
  have ho72 := Kd.R_lower RA7.out HW6.out
  have HO7 := Aside0.mk ho72
  clear ho72
  go_wp2_with ((with_reducible refine gate_builtin (b := .append) (xs := #[.tmp 70, .tmp 71]) rfl ?_); at_builtin; refine Kd.R_append_rows k52 (w0 := w) w.heap.size rfl (.tmp 70) (.tmp 71) 25 52 (.agg #[.int .i64 0, .int .i64 0, .int .i64 0]) 24 rfl Try.underlying25 info52 rfl (by decide) (by omega) (.slice AA PA.length ca) PA PB _ _ _ (fun _ => True) (fun _ => False) rfl rfl HO7.out ?aR (fun _ _ h => h) (fun _ h => h.elim) (fun _ _ => trivial) B7.out HBASE.out ?aL ?_; (case aR => exact (Kd.R_reads' RB7.out).2.2); (case aL => have h := HCL.out; have h2 := HALN.out; omega); intro v8 w8 ho8 hb8 hg8 hat8; rw [HCAT.out] at ho8; have R8 := Aside0.mk (Kd.R_lower ho8 (Nat.zero_le _)); have B8 := Aside0.mk hb8; have I8 := Aside0.mk (idx_grown I7.out.ix RA7.out PA6.out hg8); have X8 := Aside0.mk (Kd.R_lower (R_same rfl X7.out (fun k hk => hg8.block k (Kd.R_lt X7.out k hk) (XA6.out k hk))) (Nat.zero_le _)); obtain ⟨A8, c8, e8⟩ := Kd.R_slice ho8; subst e8; clear ho8 hb8 hg8 hat8)
  clear I7 X7 RA7 RB7 B7 HO7 PA6 XA6 hwr hwr2 hli
  obtain ⟨n, hn⟩ : ∃ n, n = AL.length := ⟨_, rfl⟩
  have HN := Aside0.mk hn
  rw [← hn]
  clear hn
  try go_wp2_with fail
  go_loopg [74] n (fun kx s74 wr => ∃ (k : Nat), s74 = .int .i64 k ∧ k ≤ n ∧ n - k ≤ kx ∧ Aside0 (Below w.heap.size w wr) ∧ Aside0 (IdxAt wr bx s (rows L)) ∧ Aside0 (Kd.R k52 52 wr 0 (fun _ => True) (.slice A8 n c8) AL) ∧ Aside0 (Kd.R k52 52 wr 0 (fun _ => True) (.slice A4 n c4) AL))
  case atStart => exact ⟨0, rfl, Nat.zero_le _, by omega, B8, I8, ⟨by rw [HN.out]; exact R8.out⟩, ⟨by rw [HN.out]; exact X8.out⟩⟩
  case round =>
    clear B8 I8 R8 X8 hd hd2 hd3 hd4 hd5
    obtain ⟨k, rfl, hkm, hkx, HB, HI, HR, HX⟩ := hrel
    by_cases hk : k < n
    · have hkl : k < AL.length := by rw [← HN.out]; exact hk
      have hdk : decide ((k : Int) < (n : Int)) = true := decide_eq_true (Int.ofNat_lt.2 hk)
      have q1 : (0 ≤ (k : Int)) = True := eq_true (Int.natCast_nonneg k)
      have q2 : ((k : Int) < (n : Int)) = True := eq_true (Int.ofNat_lt.2 hk)
      have hr8 := HR.out
      have hr4 := HX.out
      rw [HN.out] at hr8 hr4
      obtain ⟨ad8, e8, ee8⟩ := ent_of (Kd.R_reads' hr8).2.2 (k : Int) (Int.natCast_nonneg k) (Int.ofNat_lt.2 hkl)
      obtain ⟨ad4, e4, ee4⟩ := ent_of (Kd.R_reads' hr4).2.2 (k : Int) (Int.natCast_nonneg k) (Int.ofNat_lt.2 hkl)
      rw [Int.toNat_natCast] at ee8 ee4
      have hmem := HMEM.out (rd_T52 AL (k : Int)) (by rw [rd_get AL k hkl]; exact List.getElem_mem hkl)
      generalize rd_T52 AL (k : Int) = y at ee8 ee4 hmem
      have HG : Aside0 (∀ W, IdxAt W bx s (rows L) → Calls Try.prog 16 #[.pointer (some ⟨bx, 0, none⟩), .agg #[.int .i64 y.f0.f0, .int .i64 y.f0.f1]] W fun e w' => e = .returned (.tuple #[.int .i64 y.f1, .bool true]) ∧ Below W.heap.size W w') :=
        ⟨fun W h => by have := near_Get.calls bx s (rows L) y.f0.f0 y.f0.f1 W h HS.out HFL.out; rw [hmem.1, hmem.2] at this; exact this⟩
      have c0 := ee8.c0
      have c1 := ee8.c1
      have c2 := ee8.c2
      have hw : IntKind.i64.wrap ((k : Int) + 1) = (k : Int) + 1 := by rw [i64_w]; exact w64_succ k (Nat.lt_of_lt_of_le hk (by rw [HN.out]; exact Nat.le_trans HALN.out (by decide)))
      have HKK := Aside0.mk hk
      have hb1 := below_alloc (Below.refl wr.heap.size wr) (.cells #[.int .i64 y.f0.f0, .int .i64 y.f0.f1, .int .i64 y.f1] 52)
      have Y1 := Aside0.mk (heap_alloc_new wr (.cells #[.int .i64 y.f0.f0, .int .i64 y.f0.f1, .int .i64 y.f1] 52))
      have I1 := Aside0.mk (HI.out.below hb1)
      have R1 := Aside0.mk (Kd.R_below HR.out hb1)
      have X1 := Aside0.mk (Kd.R_below HX.out hb1)
      have E1 := Aside0.mk (ee4.below (b := wr.heap.size) hb1 ee4.lt)
      have BB1 := Aside0.mk (below_step HB.out hb1)
      have b0 := blk_cell Y1.out 0
      have b1 := blk_cell Y1.out 1
      have b2 := blk_cell Y1.out 2
      cases e8
      cases e4
      clear ee8 ee4 hmem hk hkl hb1 HI HR HX HB hr8 hr4
      go_wp2_with fail
      generalize wr.alloc (.cells #[.int .i64 y.f0.f0, .int .i64 y.f0.f1, .int .i64 y.f1] 52) = w1 at Y1 I1 R1 X1 E1 BB1 b0 b1 b2 ⊢
      generalize wr.heap.size = gE at Y1 b0 b1 b2 ⊢
      clear c0 c1 c2 b0 b1 b2
      refine (HG.out w1 I1.out).mono ?_
      rintro e w2 ⟨rfl, hb⟩
      have Y2 := (hb.block gE (blk_lt Y1.out)).trans Y1.out
      have I2 := Aside0.mk (I1.out.below hb)
      have R2 := Aside0.mk (Kd.R_below R1.out hb)
      have X2 := Aside0.mk (Kd.R_below X1.out hb)
      have E2 := E1.out.below hb E1.out.lt
      have B2 := Aside0.mk (below_step BB1.out hb)
      clear hb Y1 I1 R1 X1 E1 BB1
      go_wp2_with fail
      have hb := below_drew (Below.refl w2.heap.size w2)
      have I3 := Aside0.mk (I2.out.below hb)
      have R3 := Aside0.mk (Kd.R_below R2.out hb)
      have X3 := Aside0.mk (Kd.R_below X2.out hb)
      have B3 := Aside0.mk (below_step B2.out hb)
      have hh : w2.drew.heap[gE]? = some (.cells #[.int .i64 y.f0.f0, .int .i64 y.f0.f1, .int .i64 y.f1] 52 (0, 0)) ∧ EntAt w2.drew (ad4.add (k * 3)) y := ⟨Y2, E2.below hb E2.lt⟩
      refine start_ (n := 16) (S := fun W => W.heap[gE]? = some (.cells #[.int .i64 y.f0.f0, .int .i64 y.f0.f1, .int .i64 y.f1] 52 (0, 0)) ∧ EntAt W (ad4.add (k * 3)) y) (ds := []) #[false, false, false, false, false, false, false, false, false, false, false, false, false, false, false, false] (by kernel_rfl) rfl rfl hh (fun hHeld => ?_); refine with_tabW nearParts.tab13 nearParts.bits13 (fun HT_ HW_ => ?_)
      generalize w2.drew = w3 at hHeld I3 R3 X3 B3
      clear hh hb I2 R2 X2 B2 Y2 E2
      refine take_ (i := 0) (N := (some 86)) (v := ?_) (a' := ?_) #[true, false, false, false, false, false, false, false, false, false, false, false, false, false, false, false] rfl rfl (take_ofW HT_.out HW_.out (by kernel_rfl)) (fun _ _ _ h => h) (Or.inl ⟨by rfl, ?_⟩) hHeld ?_ ?_
      rotate_left
      · rintro w' ⟨s1, t1⟩
        have h0 := blk_cell s1 0
        have h1 := blk_cell s1 1
        have h2 := blk_cell s1 2
        go_simp
        with_reducible rfl
      rotate_left
      · simp only [Act.put, List.setIfInBounds_toArray, List.set_cons_zero, List.set_cons_succ, i64_w, i32_w]
        rfl
      refine pure_ (i := 1) (N := (some 87)) (v := ?_) (a' := ?_) #[true, true, false, false, false, false, false, false, false, false, false, false, false, false, false, false] rfl rfl (any_of HT_.out (by kernel_rfl)) (fun _ _ _ h => h) (Or.inl ⟨by rfl, ?_⟩) ?_ ?_
      rotate_left
      · intro w'
        go_simp
        with_reducible rfl
      rotate_left
      · simp only [Act.put, List.setIfInBounds_toArray, List.set_cons_zero, List.set_cons_succ, i64_w, i32_w]
        rfl
      refine pure_ (i := 2) (N := (some 88)) (v := ?_) (a' := ?_) #[true, true, true, false, false, false, false, false, false, false, false, false, false, false, false, false] rfl rfl (any_of HT_.out (by kernel_rfl)) (fun _ _ _ h => h) (Or.inl ⟨by rfl, ?_⟩) ?_ ?_
      rotate_left
      · intro w'
        go_simp
        with_reducible rfl
      rotate_left
      · simp only [Act.put, List.setIfInBounds_toArray, List.set_cons_zero, List.set_cons_succ, i64_w, i32_w]
        rfl
      refine pure_ (i := 3) (N := (some 89)) (v := ?_) (a' := ?_) #[true, true, true, true, false, false, false, false, false, false, false, false, false, false, false, false] rfl rfl (any_of HT_.out (by kernel_rfl)) (fun _ _ _ h => h) (Or.inl ⟨by rfl, ?_⟩) ?_ ?_
      rotate_left
      · intro w'
        go_simp
        with_reducible rfl
      rotate_left
      · simp only [Act.put, List.setIfInBounds_toArray, List.set_cons_zero, List.set_cons_succ, i64_w, i32_w]
        rfl
      refine take_ (i := 4) (N := (some 90)) (v := ?_) (a' := ?_) #[true, true, true, true, true, false, false, false, false, false, false, false, false, false, false, false] rfl rfl (take_ofW HT_.out HW_.out (by kernel_rfl)) (fun _ _ _ h => h) (Or.inl ⟨by rfl, ?_⟩) hHeld ?_ ?_
      rotate_left
      · rintro w' ⟨s1, t1⟩
        have h0 := t1.c0
        have h1 := t1.c1
        have h2 := t1.c2
        go_simp
        with_reducible rfl
      rotate_left
      · simp only [Act.put, List.setIfInBounds_toArray, List.set_cons_zero, List.set_cons_succ, i64_w, i32_w]
        rfl
      refine pure_ (i := 5) (N := (some 91)) (v := ?_) (a' := ?_) #[true, true, true, true, true, true, false, false, false, false, false, false, false, false, false, false] rfl rfl (any_of HT_.out (by kernel_rfl)) (fun _ _ _ h => h) (Or.inl ⟨by rfl, ?_⟩) ?_ ?_
      rotate_left
      · intro w'
        go_simp
        first | (with_reducible rfl) | rfl | trace_state
      rotate_left
      · simp only [Act.put, List.setIfInBounds_toArray, List.set_cons_zero, List.set_cons_succ, i64_w, i32_w]
        rfl
      refine pure_ (i := 6) (N := (some 92)) (v := ?_) (a' := ?_) #[true, true, true, true, true, true, true, false, false, false, false, false, false, false, false, false] rfl rfl (any_of HT_.out (by kernel_rfl)) (fun _ _ _ h => h) (Or.inl ⟨by rfl, ?_⟩) ?_ ?_
      rotate_left
      · intro w'
        go_simp
        with_reducible rfl
      rotate_left
      · simp only [Act.put, List.setIfInBounds_toArray, List.set_cons_zero, List.set_cons_succ, i64_w, i32_w]
        rfl
      refine pure_ (i := 7) (N := (some 93)) (v := ?_) (a' := ?_) #[true, true, true, true, true, true, true, true, false, false, false, false, false, false, false, false] rfl rfl (any_of HT_.out (by kernel_rfl)) (fun _ _ _ h => h) (Or.inl ⟨by rfl, ?_⟩) ?_ ?_
      rotate_left
      · intro w'
        go_simp
        with_reducible rfl
      rotate_left
      · simp only [Act.put, List.setIfInBounds_toArray, List.set_cons_zero, List.set_cons_succ, i64_w, i32_w]
        rfl
      refine pure_ (i := 8) (N := (some 94)) (v := ?_) (a' := ?_) #[true, true, true, true, true, true, true, true, true, false, false, false, false, false, false, false] rfl rfl (any_of HT_.out (by kernel_rfl)) (fun _ _ _ h => h) (Or.inl ⟨by rfl, ?_⟩) ?_ ?_
      rotate_left
      · intro w'
        go_simp
        with_reducible rfl
      rotate_left
      · simp only [Act.put, List.setIfInBounds_toArray, List.set_cons_zero, List.set_cons_succ, i64_w, i32_w]
        rfl
      refine pure_ (i := 9) (N := (some 95)) (v := ?_) (a' := ?_) #[true, true, true, true, true, true, true, true, true, true, false, false, false, false, false, false] rfl rfl (any_of HT_.out (by kernel_rfl)) (fun _ _ _ h => h) (Or.inl ⟨by rfl, ?_⟩) ?_ ?_
      rotate_left
      · intro w'
        go_simp
        with_reducible rfl
      rotate_left
      · simp only [Act.put, List.setIfInBounds_toArray, List.set_cons_zero, List.set_cons_succ, i64_w, i32_w]
        rfl
      refine pure_ (i := 10) (N := (some 96)) (v := ?_) (a' := ?_) #[true, true, true, true, true, true, true, true, true, true, true, false, false, false, false, false] rfl rfl (any_of HT_.out (by kernel_rfl)) (fun _ _ _ h => h) (Or.inl ⟨by rfl, ?_⟩) ?_ ?_
      rotate_left
      · intro w'
        go_simp
        with_reducible rfl
      rotate_left
      · simp only [Act.put, List.setIfInBounds_toArray, List.set_cons_zero, List.set_cons_succ, i64_w, i32_w]
        rfl
      refine pure_ (i := 11) (N := (some 97)) (v := ?_) (a' := ?_) #[true, true, true, true, true, true, true, true, true, true, true, true, false, false, false, false] rfl rfl (any_of HT_.out (by kernel_rfl)) (fun _ _ _ h => h) (Or.inl ⟨by rfl, ?_⟩) ?_ ?_
      rotate_left
      · intro w'
        go_simp
        with_reducible rfl
      rotate_left
      · simp only [Act.put, List.setIfInBounds_toArray, List.set_cons_zero, List.set_cons_succ, i64_w, i32_w]
        rfl
      refine pure_ (i := 12) (N := (some 98)) (v := ?_) (a' := ?_) #[true, true, true, true, true, true, true, true, true, true, true, true, true, false, false, false] rfl rfl (any_of HT_.out (by kernel_rfl)) (fun _ _ _ h => h) (Or.inl ⟨by rfl, ?_⟩) ?_ ?_
      rotate_left
      · intro w'
        go_simp
        with_reducible rfl
      rotate_left
      · simp only [Act.put, List.setIfInBounds_toArray, List.set_cons_zero, List.set_cons_succ, i64_w, i32_w]
        rfl
      refine take_ (i := 13) (N := (some 99)) (v := ?_) (a' := ?_) #[true, true, true, true, true, true, true, true, true, true, true, true, true, true, false, false] rfl rfl (take_ofW HT_.out HW_.out (by kernel_rfl)) (fun _ _ _ h => h) (Or.inl ⟨by rfl, ?_⟩) hHeld ?_ ?_
      rotate_left
      · rintro w' ⟨s1, t1⟩
        have h0 := blk_cell s1 0
        have h1 := blk_cell s1 1
        have h2 := blk_cell s1 2
        go_simp
        with_reducible rfl
      rotate_left
      · simp only [Act.put, List.setIfInBounds_toArray, List.set_cons_zero, List.set_cons_succ, i64_w, i32_w]
        rfl
      refine pure_ (i := 14) (N := (some 100)) (v := ?_) (a' := ?_) #[true, true, true, true, true, true, true, true, true, true, true, true, true, true, true, false] rfl rfl (any_of HT_.out (by kernel_rfl)) (fun _ _ _ h => h) (Or.inl ⟨by rfl, ?_⟩) ?_ ?_
      rotate_left
      · intro w'
        go_simp
        with_reducible rfl
      rotate_left
      · simp only [Act.put, List.setIfInBounds_toArray, List.set_cons_zero, List.set_cons_succ, i64_w, i32_w]
        rfl
      refine pure_ (i := 15) (N := (some 101)) (v := ?_) (a' := ?_) #[true, true, true, true, true, true, true, true, true, true, true, true, true, true, true, true] rfl rfl (any_of HT_.out (by kernel_rfl)) (fun _ _ _ h => h) (Or.inl ⟨by rfl, ?_⟩) ?_ ?_
      rotate_left
      · intro w'
        go_simp
        with_reducible rfl
      rotate_left
      · simp only [Act.put, List.setIfInBounds_toArray, List.set_cons_zero, List.set_cons_succ, i64_w, i32_w]
        rfl
      refine done_ (done_of HT_.out (by kernel_rfl)) ?_
      clear HT_ HW_ hHeld
      go_wp2_with fail
      go_roundg (n - (k + 1))
      case measure => have := HKK.out; omega
      case rel => exact ⟨k + 1, by first | rfl | simp, HKK.out, Nat.le_refl _, B3, I3, R3, X3⟩
    · have hdk : decide ((k : Int) < (n : Int)) = false := decide_eq_false (fun h => hk (Int.ofNat_lt.1 h))
      have hdk2 : decide (k < n) = false := decide_eq_false hk
      clear hk
      go_wp2_with (go_at_call 8; (with_reducible refine (alive_b _).mono ?_); rintro e w3 ⟨rfl, hb⟩; have B3 := Aside0.mk (below_step HB.out hb))
      go_ret
      exact ⟨rfl, B3.out⟩
end
end Go.Proofs.Ytcfgpfappidkaaa.F
