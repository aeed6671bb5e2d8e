/- near.Index: Put, walked by hand: what it does to the row, and what it leaves as it was. Conditions: the index's row rises. -/
import Derived.Test.YtcfgpfappidkaaaN3
namespace Go.Proofs.Ytcfgpfappidkaaa.F
open Go.RowKit Go.Proofs.YtcfgpfappidkaaaW.PrintWords Go.Proofs.YtcfgpfappidkaaaW.PrintLast Go.Proofs.YtcfgpfappidkaaaW.PrintMore
set_option linter.unusedVariables false
set_option linter.unusedSimpArgs false
def near_Put.T5 : Bool × List (List Nat × List Nat) := (true, [([], []), ([], []), ([1], [1]), ([2], [2]), ([3], [3]), ([], []), ([], []), ([], []), ([6, 7], [6, 7]), ([8], [8]), ([4, 5, 9], [4, 5, 9]), ([0, 0, 1, 2, 3, 4, 5, 6, 7, 8, 9, 10], [0]), ([11, 0, 1, 2, 3, 4, 5, 6, 7, 8, 9, 10], [11]), ([12, 10, 10, 0, 1, 2, 3, 4, 5, 6, 7, 8, 9, 10], [10, 12])])
def near_Put.B5 : List Nat := [0, 0, 2, 6, 14, 0, 0, 0, 192, 448, 1022, 2047, 4095, 8191]
theorem near_Put.tab5 : rtab .any (opsOf Try.f11 5) = near_Put.T5 := by kernel_rfl
theorem near_Put.bits5 : waitsOk near_Put.T5.2 near_Put.B5 = true := by kernel_rfl
theorem R_same {α : Type} {d : Kd α} (hE : d.E = []) {e base : Nat} {w w1 : World} {v : Value} {l : List α} (h : Kd.R d e w base (fun _ => True) v l) (hm : ∀ k, v.ownBlock = some k → w1.heap[k]? = w.heap[k]?) : Kd.R d e w1 base (fun _ => True) v l :=
  Kd.R_mono (Kd.R_move (Kd.R_tight hE h) (fun k hk => hm k hk.symm)) (fun _ _ => trivial)
/-- What stays as it was: all but block bx and one row. -/
structure Keeps (w w' : World) (bx : Nat) (row : Option Nat) : Prop where
  os : w'.os = w.os
  tape : w'.tape = w.tape
  output : w'.output = w.output
  size : w.heap.size ≤ w'.heap.size
  blk : ∀ k, k < w.heap.size → k ≠ bx → some k ≠ row → w'.heap[k]? = w.heap[k]?
theorem Keeps.of_grown {w w' : World} {row : Option Nat} (h : w.grownBy w' row) (bx : Nat) : Keeps w w' bx row := ⟨h.os, h.tape, h.output, h.size, fun k hk _ hr => h.block k hk hr⟩
theorem Keeps.of_below {w w' : World} (h : Below w.heap.size w w') (bx : Nat) (row : Option Nat) : Keeps w w' bx row := ⟨h.os, h.tape, h.output, h.size, fun k hk _ _ => h.block k hk⟩
theorem Keeps.trans {w w1 w2 : World} {bx : Nat} {row row1 : Option Nat} (h : Keeps w w1 bx row) (k : Keeps w1 w2 bx row1) (hr : row1 = row ∨ ∃ b, row1 = some b ∧ w.heap.size ≤ b) : Keeps w w2 bx row :=
  ⟨k.os.trans h.os, k.tape.trans h.tape, k.output.trans h.output, Nat.le_trans h.size k.size, fun i hi hb hn => (k.blk i (Nat.lt_of_lt_of_le hi h.size) hb (by
    rcases hr with rfl | ⟨b, rfl, hb2⟩
    · exact hn
    · intro e; injection e with e; omega)).trans (h.blk i hi hb hn)⟩
theorem Keeps.setCell {w w1 : World} {bx : Nat} {row : Option Nat} (h : Keeps w w1 bx row) (j : Nat) (u : Value) : Keeps w (w1.setCell ⟨bx, j, none⟩ u) bx row :=
  ⟨h.os, h.tape, h.output, by simpa [World.setCell] using h.size, fun k hk hb hr => (Below.heap_setCell w1 ⟨bx, j, none⟩ u k hb).trans (h.blk k hk hb hr)⟩
theorem insert.calls (s : Value) (l : List S52) (x : S52) (i vb tv : Nat) (w : World) (hR : Kd.R k52 52 w 0 (fun _ => True) s l) (hv : w.heap[vb]? = some (.cells #[.int .i64 x.f0.f0, .int .i64 x.f0.f1, .int .i64 x.f1] tv (0, 0))) (hne : some vb ≠ s.ownBlock) (hi : i ≤ l.length) (hf : Fits l) :
    Calls Try.prog 22 #[s, .int .i64 (i : Int), .slice (some ⟨vb, 0, none⟩) 1 1] w (InsPost s l x i w) := by
  rcases Nat.lt_or_eq_of_le hi with hlt | rfl
  · obtain ⟨_, inner, ⟨hl, hb⟩, hr⟩ := hR
    rcases hb with ⟨rfl, h0⟩ | ⟨g, cap, cur, rfl, _, hh, hn, hc, hs, ht⟩
    · omega
    · have H : RowIn w g cap l.length cur inner := ⟨hh, hn, hc, hs, ht⟩
      rcases Nat.lt_or_ge cap (l.length + 1) with hroom | hroom
      · exact insert.grow l x i g cap vb tv w cur inner _ H hr (fun _ _ h => k52_openM h) hv hlt hroom hf
      · exact insert.shift l x i g cap vb tv w cur inner _ H hr (fun _ _ h => k52_openM h) hv (fun e => hne (by rw [e]; rfl)) hlt hroom hf
  · exact insert.atEnd s l x vb tv w hR hv hf
/-- What Put does to the row. -/
def putL (l : List S52) (qx qy v : Int) : List S52 := if has l qx qy = true then l.set (rank l qx qy) ⟨(rd_T52 l (rank l qx qy : Nat)).f0, v⟩ else ins l (rank l qx qy) ⟨⟨qx, qy⟩, v⟩
/-- What Put says. -/
def PutPost (bx : Nat) (s : Value) (l : List S52) (w : World) (z : Bool) (l' : List S52) (e : Ending) (w' : World) : Prop :=
  ∃ s', e = .returned (.bool (!z)) ∧ IdxAt w' bx s' l' ∧ Keeps w w' bx s.ownBlock ∧ (s'.ownBlock = s.ownBlock ∨ ∃ b, s'.ownBlock = some b ∧ w.heap.size ≤ b)
theorem skipS_ {P : Program} {ops : Array Oper} {Q : Exit → Act → World → Prop} {oi : Oper} {N : Option Tmp} {a : Act} {w w1 : World} {K : Act → World → Prop} (hw : Region.wanted oi (yielded ops a.tmps) = true) (hd : oi.dst = none) (hN : N = none) (hrun : (execOp a.eval oi).run P w = .ok .skip w1)
    (h : K (a.put none undef) w1) : if Region.wanted oi (yielded ops a.tmps) = true then Oper.wp P oi a w K Q else K (a.put N undef) w := by
  rw [if_pos hw]
  subst hN
  unfold Oper.wp
  rw [hrun]
  show K (a.put oi.dst undef) w1
  rw [hd]
  exact h
set_option maxHeartbeats 4000000 in
set_option maxRecDepth 100000 in
theorem near_Put.new (bx : Nat) (s : Value) (l : List S52) (qx qy v : Int) (rk : Nat) (w : World) (hI : IdxAt w bx s l) (hf : Fits l) (hrk : rk ≤ l.length)
    (hA : ∀ W, IdxAt W bx s l → Calls Try.prog 21 #[.pointer (some ⟨bx, 0, none⟩), .agg #[.int .i64 qx, .int .i64 qy]] W fun e w' => e = .returned (.tuple #[.int .i64 (rk : Nat), .bool false]) ∧ Below W.heap.size W w') :
    Calls Try.prog 11 #[.pointer (some ⟨bx, 0, none⟩), .agg #[.int .i64 qx, .int .i64 qy], .int .i64 v] w (PutPost bx s l w false (ins l rk ⟨⟨qx, qy⟩, v⟩)) := by
  have T0 : Aside0 (TgtAt (w.alloc (.cells #[.int .i64 qx, .int .i64 qy] 35)) w.heap.size qx qy) := Aside0.mk (TgtAt.new _ _ _)
  have B1 : Aside0 (Below w.heap.size w (w.alloc (.cells #[.int .i64 qx, .int .i64 qy] 35))) := Aside0.mk (below_alloc (Below.refl _ _) _)
  have HI := Aside0.mk hI
  have HA := Aside0.mk hA
  have HF := Aside0.mk hf
  have HRK := Aside0.mk hrk
  clear hI hA hf hrk
  have t0 := T0.out.c0
  have t1 := T0.out.c1
  go_enter Try.func11, Try.ntmps11
  go_wp2_with fail
  generalize w.alloc (.cells #[.int .i64 qx, .int .i64 qy] 35) = w1 at T0 B1 t0 t1 ⊢
  have I1 := Aside0.mk (HI.out.below B1.out)
  go_wp2_with (go_at_call 21; (with_reducible refine (HA.out _ I1.out).mono ?_); rintro e w2 ⟨rfl, hb⟩; have B2 := Aside0.mk (below_step B1.out hb); have T2 := Aside0.mk (T0.out.below hb); clear t0 t1 T0 B1 I1 hb)
  have hb := below_drew (Below.refl w2.heap.size w2)
  have B3 := Aside0.mk (below_step B2.out hb)
  have hh : w2.drew.cell? ⟨bx, 0, none⟩ = some s ∧ TgtAt w2.drew w.heap.size qx qy := ⟨(HI.out.below B3.out).cell, T2.out.below hb⟩
  refine start_ (n := 14) (S := fun W => W.cell? ⟨bx, 0, none⟩ = some s ∧ TgtAt W w.heap.size qx qy) (ds := [13]) #[false, false, false, false, false, false, false, false, false, false, false, false, false, false] (by kernel_rfl) rfl rfl hh (fun hHeld => ?_); refine with_tabW near_Put.tab5 near_Put.bits5 (fun HT_ HW_ => ?_)
  generalize w2.drew = w3 at hHeld B3
  clear hh hb B2 T2
  refine pure_ (i := 0) (N := (some 24)) (v := ?_) (a' := ?_) #[true, false, false, false, false, false, false, false, false, false, false, false, false, false] rfl rfl (any_of HT_.out (by kernel_rfl)) (fun _ _ _ h => h) (Or.inl ⟨by rfl, ?_⟩) ?_ ?_
  rotate_left
  · intro w'
    go_simp
    with_reducible rfl
  rotate_left
  · simp only [Act.put, List.setIfInBounds_toArray, List.set_cons_zero, List.set_cons_succ, i64_w, i32_w]
    rfl
  refine pure_ (i := 1) (N := (some 25)) (v := ?_) (a' := ?_) #[true, true, false, false, false, false, false, false, false, false, false, false, false, false] rfl rfl (any_of HT_.out (by kernel_rfl)) (fun _ _ _ h => h) (Or.inl ⟨by rfl, ?_⟩) ?_ ?_
  rotate_left
  · intro w'
    go_simp
    with_reducible rfl
  rotate_left
  · simp only [Act.put, List.setIfInBounds_toArray, List.set_cons_zero, List.set_cons_succ, i64_w, i32_w]
    rfl
  refine pure_ (i := 2) (N := (some 26)) (v := ?_) (a' := ?_) #[true, true, true, false, false, false, false, false, false, false, false, false, false, false] rfl rfl (any_of HT_.out (by kernel_rfl)) (fun _ _ _ h => h) (Or.inl ⟨by rfl, ?_⟩) ?_ ?_
  rotate_left
  · intro w'
    go_simp
    with_reducible rfl
  rotate_left
  · simp only [Act.put, List.setIfInBounds_toArray, List.set_cons_zero, List.set_cons_succ, i64_w, i32_w]
    rfl
  refine pure_ (i := 3) (N := (some 27)) (v := ?_) (a' := ?_) #[true, true, true, true, false, false, false, false, false, false, false, false, false, false] rfl rfl (any_of HT_.out (by kernel_rfl)) (fun _ _ _ h => h) (Or.inl ⟨by rfl, ?_⟩) ?_ ?_
  rotate_left
  · intro w'
    go_simp
    with_reducible rfl
  rotate_left
  · simp only [Act.put, List.setIfInBounds_toArray, List.set_cons_zero, List.set_cons_succ, i64_w, i32_w]
    rfl
  refine take_ (i := 4) (N := (some 28)) (v := ?_) (a' := ?_) #[true, true, true, true, true, false, false, false, false, false, false, false, false, false] rfl rfl (take_ofW HT_.out HW_.out (by kernel_rfl)) (fun _ _ _ h => h) (Or.inl ⟨by rfl, ?_⟩) hHeld ?_ ?_
  rotate_left
  · rintro w' ⟨s1, t⟩
    have h0 := s1
    go_simp
    with_reducible rfl
  rotate_left
  · simp only [Act.put, List.setIfInBounds_toArray, List.set_cons_zero, List.set_cons_succ, i64_w, i32_w]
    rfl
  refine pure_ (i := 5) (N := (some 29)) (v := ?_) (a' := ?_) #[true, true, true, true, true, true, false, false, false, false, false, false, false, false] rfl rfl (any_of HT_.out (by kernel_rfl)) (fun _ _ _ h => h) (Or.inl ⟨by rfl, ?_⟩) ?_ ?_
  rotate_left
  · intro w'
    go_simp
    with_reducible rfl
  rotate_left
  · simp only [Act.put, List.setIfInBounds_toArray, List.set_cons_zero, List.set_cons_succ, i64_w, i32_w]
    rfl
  refine take_ (i := 6) (N := (some 30)) (v := ?_) (a' := ?_) #[true, true, true, true, true, true, true, false, false, false, false, false, false, false] rfl rfl (take_ofW HT_.out HW_.out (by kernel_rfl)) (fun _ _ _ h => h) (Or.inl ⟨by rfl, ?_⟩) hHeld ?_ ?_
  rotate_left
  · rintro w' ⟨s1, t⟩
    have h0 := t.c0
    have h1 := t.c1
    go_simp
    with_reducible rfl
  rotate_left
  · simp only [Act.put, List.setIfInBounds_toArray, List.set_cons_zero, List.set_cons_succ, i64_w, i32_w]
    rfl
  refine pure_ (i := 7) (N := (some 31)) (v := ?_) (a' := ?_) #[true, true, true, true, true, true, true, true, false, false, false, false, false, false] rfl rfl (any_of HT_.out (by kernel_rfl)) (fun _ _ _ h => h) (Or.inl ⟨by rfl, ?_⟩) ?_ ?_
  rotate_left
  · intro w'
    go_simp
    with_reducible rfl
  rotate_left
  · simp only [Act.put, List.setIfInBounds_toArray, List.set_cons_zero, List.set_cons_succ, i64_w, i32_w]
    rfl
  refine pure_ (i := 8) (N := (some 32)) (v := ?_) (a' := ?_) #[true, true, true, true, true, true, true, true, true, false, false, false, false, false] rfl rfl (any_of HT_.out (by kernel_rfl)) (fun _ _ _ h => h) (Or.inl ⟨by rfl, ?_⟩) ?_ ?_
  rotate_left
  · intro w'
    go_simp
    with_reducible rfl
  rotate_left
  · simp only [Act.put, List.setIfInBounds_toArray, List.set_cons_zero, List.set_cons_succ, i64_w, i32_w]
    rfl
  refine one_ (i := 9) (N := (some 33)) #[true, true, true, true, true, true, true, true, true, true, false, false, false, false] rfl rfl (one_of HT_.out (by kernel_rfl)) (by decide) (fun K hK => ?_)
  refine value_ (w1 := w3.alloc (.cells #[.int .i64 qx, .int .i64 qy, .int .i64 v] 52)) (v := .slice (some ⟨w3.heap.size, 0, none⟩) 1 1) (by rfl) rfl (by first | (go_simp; done) | (go_simp; rfl) | (go_simp; constructor <;> rfl)) ?_
  have hb := below_alloc (Below.refl w3.heap.size w3) (.cells #[.int .i64 qx, .int .i64 qy, .int .i64 v] 52)
  have HV := Aside0.mk (heap_alloc_new w3 (.cells #[.int .i64 qx, .int .i64 qy, .int .i64 v] 52))
  have B4 := Aside0.mk (below_step B3.out hb)
  have HLT := Aside0.mk B3.out.size
  have hHeld2 : _ ∧ _ := ⟨(HI.out.below B4.out).cell, hHeld.2.below hb⟩
  clear hHeld B3 hb
  obtain ⟨vb, hvb⟩ : ∃ vb, vb = w3.heap.size := ⟨_, rfl⟩
  rw [← hvb] at HV HLT ⊢
  clear hvb
  generalize w3.alloc (.cells #[.int .i64 qx, .int .i64 qy, .int .i64 v] 52) = w4 at HV B4 hHeld2 ⊢
  refine hK.out _ _ hHeld2 (fun hHeld => ?_)
  clear hK K hHeld2
  refine norm_ (a' := ?_) ?_ ?_
  rotate_left
  · show Act.put _ (some 33) _ = _
    simp only [Act.put, List.setIfInBounds_toArray, List.set_cons_zero, List.set_cons_succ, i64_w, i32_w]
    rfl
  refine one_ (i := 10) (N := (some 34)) #[true, true, true, true, true, true, true, true, true, true, true, false, false, false] rfl rfl (one_of HT_.out (by kernel_rfl)) (by decide) (fun K hK => ?_)
  refine goes_ Try.func22 (by kernel_rfl) rfl #[s, .int .i64 (rk : Int), .slice (some ⟨vb, 0, none⟩) 1 1] (by rfl) rfl rfl (by (try simp only [List.map_toArray, List.map_cons, List.map_nil]); first | done | rfl) ?_
  with_reducible refine (insert.calls s l ⟨⟨qx, qy⟩, v⟩ rk vb 52 _ (HI.out.below B4.out).row HV.out (fun h => by have h1 := Kd.R_lt HI.out.row _ h.symm; have h2 := HLT.out; omega) HRK.out HF.out).mono ?_
  rintro e w5 ⟨s', rfl, hr5, hg5, hat5⟩
  refine ⟨_, rfl, ?_⟩
  have HR5 := Aside0.mk hr5
  have HG5 := Aside0.mk hg5
  have HA5 := Aside0.mk hat5
  have hHeld2 : _ ∧ _ := ⟨(World.grownBy.cell hg5 hHeld.1 HI.out.ne : _), (show TgtAt w5 w.heap.size qx qy from ⟨Nat.lt_of_lt_of_le hHeld.2.lt hg5.size, World.grownBy.cell hg5 hHeld.2.c0 (fun h => by have h1 := Kd.R_lt HI.out.row _ h.symm; exact absurd h1 (Nat.lt_irrefl _)), World.grownBy.cell hg5 hHeld.2.c1 (fun h => by have h1 := Kd.R_lt HI.out.row _ h.symm; exact absurd h1 (Nat.lt_irrefl _))⟩)⟩
  clear hHeld hr5 hg5 hat5
  refine hK.out _ _ hHeld2 (fun hHeld => ?_)
  clear hK K hHeld2
  refine norm_ (a' := ?_) ?_ ?_
  rotate_left
  · show Act.put _ (some 34) _ = _
    simp only [Act.put, List.setIfInBounds_toArray, List.set_cons_zero, List.set_cons_succ, i64_w, i32_w]
    rfl
  refine pure_ (i := 11) (N := (some 35)) (v := ?_) (a' := ?_) #[true, true, true, true, true, true, true, true, true, true, true, true, false, false] rfl rfl (any_of HT_.out (by kernel_rfl)) (fun _ _ _ h => h) (Or.inl ⟨by rfl, ?_⟩) ?_ ?_
  rotate_left
  · intro w'
    go_simp
    with_reducible rfl
  rotate_left
  · simp only [Act.put, List.setIfInBounds_toArray, List.set_cons_zero, List.set_cons_succ, i64_w, i32_w]
    rfl
  refine pure_ (i := 12) (N := (some 36)) (v := ?_) (a' := ?_) #[true, true, true, true, true, true, true, true, true, true, true, true, true, false] rfl rfl (any_of HT_.out (by kernel_rfl)) (fun _ _ _ h => h) (Or.inl ⟨by rfl, ?_⟩) ?_ ?_
  rotate_left
  · intro w'
    go_simp
    with_reducible rfl
  rotate_left
  · simp only [Act.put, List.setIfInBounds_toArray, List.set_cons_zero, List.set_cons_succ, i64_w, i32_w]
    rfl
  have hcell := hHeld.1
  have hblk5 : w5.heap[bx]? = some (.cells #[s] 27 (0, 0)) := (HG5.out.block bx (Nat.lt_of_lt_of_le HI.out.lt B4.out.size) HI.out.ne).trans (HI.out.below B4.out).blk
  have hfz := blk_frozen hblk5 0
  obtain ⟨A', c', e5⟩ := Kd.R_slice HR5.out
  subst e5
  refine last_ (i := 13) (N := none) #[true, true, true, true, true, true, true, true, true, true, true, true, true, true] rfl rfl (one_of HT_.out (by kernel_rfl)) (by decide) (fun K hK => ?_)
  refine skipS_ (w1 := w5.setCell ⟨bx, 0, none⟩ (.slice A' (ins l rk ⟨⟨qx, qy⟩, v⟩).length c')) (by rfl) rfl rfl (by first | (go_simp; done) | (go_simp; rfl)) ?_
  refine hK.out _ _ ?_
  clear hK K
  refine norm_ (a' := ?_) ?_ ?_
  rotate_left
  · show Act.put _ none _ = _
    simp only [Act.put]
    rfl
  refine done_ (done_of HT_.out (by kernel_rfl)) ?_
  have hfin : PutPost bx s l w false (ins l rk ⟨⟨qx, qy⟩, v⟩) (.returned (.bool true)) (w5.setCell ⟨bx, 0, none⟩ (.slice A' (ins l rk ⟨⟨qx, qy⟩, v⟩).length c')) := by
    have hbx : ∀ k, (Value.slice A' (ins l rk ⟨⟨qx, qy⟩, v⟩).length c').ownBlock = some k → k ≠ bx := fun k hk e => by
      rcases HA5.out with h | ⟨b, h, hb⟩
      · rw [h] at hk; exact HI.out.ne (by rw [hk, e])
      · rw [h] at hk; injection hk with hk; have h1 := HI.out.lt; have h2 := B4.out.size; omega
    refine ⟨_, rfl, ⟨blk_put hblk5 0 _ rfl, R_same rfl HR5.out (fun k hk => Below.heap_setCell w5 ⟨bx, 0, none⟩ _ k (hbx k hk)), fun e => hbx bx e.symm rfl⟩, ?_, ?_⟩
    · exact ((Keeps.of_below B4.out bx s.ownBlock).trans (Keeps.of_grown HG5.out bx) (.inl rfl)).setCell 0 _
    · rcases HA5.out with h | ⟨b, h, hb⟩
      · exact .inl h
      · exact .inr ⟨b, h, Nat.le_trans B4.out.size hb⟩
  have HFIN := Aside0.mk hfin
  clear hfin hcell hblk5 hfz
  go_wp2_with fail
  go_ret
  exact HFIN.out
theorem set_list (cur inner : List Value) (n rk : Nat) (x y : S52) (hk : rk < n) (ht : cur.take (n * 3) = inner) (hlen : inner.length = n * 3) (hy : (inner.drop (rk * 3)).take 3 = V3 y) (hx : V3 x = (V3 y).set 2 (.int .i64 x.f1)) :
    (cur.set (rk * 3 + 2) (.int .i64 x.f1)).take (n * 3) = inner.take (rk * 3) ++ V3 x ++ inner.drop (rk * 3 + (V3 x).length) := by
  rw [List.take_set, ht]
  have e : inner = inner.take (rk * 3) ++ (V3 y ++ inner.drop (rk * 3 + 3)) := by
    rw [← hy]
    conv => lhs; rw [← List.take_append_drop (rk * 3) inner]
    congr 1
    conv => lhs; rw [← List.take_append_drop 3 (inner.drop (rk * 3))]
    rw [List.drop_drop]
  have hl : (inner.take (rk * 3)).length = rk * 3 := by rw [List.length_take]; omega
  rw [hx]
  generalize inner.take (rk * 3) = A at e hl
  have hd : (V3 y).set 2 (.int .i64 x.f1) = [.int .i64 y.f0.f0, .int .i64 y.f0.f1, .int .i64 x.f1] := rfl
  rw [hd]
  have h3 : rk * 3 + ([.int .i64 y.f0.f0, .int .i64 y.f0.f1, .int .i64 x.f1] : List Value).length = rk * 3 + 3 := rfl
  rw [h3]
  generalize inner.drop (rk * 3 + 3) = B at e ⊢
  rw [e, List.set_append_right _ _ (by omega), show rk * 3 + 2 - A.length = 2 by omega]
  simp [V3]
theorem setCell_row {w : World} {g : Nat} {cur : Array Value} {t : TypeId} (h : w.heap[g]? = some (.cells cur t (0, 0))) (i : Nat) (v : Value) : (w.setCell ⟨g, i, none⟩ v).heap[g]? = some (.cells (cur.setIfInBounds i v) t (0, 0)) := blk_set h i v
set_option maxHeartbeats 4000000 in
set_option maxRecDepth 100000 in
theorem near_Put.old (bx : Nat) (s : Value) (l : List S52) (qx qy v : Int) (rk : Nat) (w : World) (hI : IdxAt w bx s l) (hf : Fits l) (hrk : rk < l.length)
    (hA : ∀ W, IdxAt W bx s l → Calls Try.prog 21 #[.pointer (some ⟨bx, 0, none⟩), .agg #[.int .i64 qx, .int .i64 qy]] W fun e w' => e = .returned (.tuple #[.int .i64 (rk : Nat), .bool true]) ∧ Below W.heap.size W w') :
    Calls Try.prog 11 #[.pointer (some ⟨bx, 0, none⟩), .agg #[.int .i64 qx, .int .i64 qy], .int .i64 v] w (PutPost bx s l w true (l.set rk ⟨(rd_T52 l (rk : Nat)).f0, v⟩)) := by
  have T0 : Aside0 (TgtAt (w.alloc (.cells #[.int .i64 qx, .int .i64 qy] 35)) w.heap.size qx qy) := Aside0.mk (TgtAt.new _ _ _)
  have B1 : Aside0 (Below w.heap.size w (w.alloc (.cells #[.int .i64 qx, .int .i64 qy] 35))) := Aside0.mk (below_alloc (Below.refl _ _) _)
  obtain ⟨_, inner, ⟨hl, hb⟩, hr⟩ := hI.row
  rcases hb with ⟨rfl, h0⟩ | ⟨g, cap, cur, rfl, _, hh, hn, hc, hs, ht⟩
  · omega
  have H : RowIn w g cap l.length cur inner := ⟨hh, hn, hc, hs, ht⟩
  have hlen := H.len
  have hs3 : cur.size = cap * 3 := hs
  obtain ⟨y, hyq⟩ : ∃ y, y = l[rk] := ⟨_, rfl⟩
  have hy' : (inner.drop (rk * 3)).take 3 = V3 y := by rw [hyq]; exact k52_openM (hr.2 rk _ (List.getElem?_eq_getElem hrk))
  have hsz : rk * 3 + 2 < cur.size := by rw [hs3]; have : (rk + 1) * 3 ≤ cap * 3 := Nat.mul_le_mul_right _ (by omega); omega
  have hgb : g ≠ bx := fun e => hI.ne (by rw [e]; rfl)
  have hv2 : cur[rk * 3 + 2]? = some (.int .i64 y.f1) := by
    have h2 : ((inner.drop (rk * 3)).take 3)[2]? = some (.int .i64 y.f1) := by rw [hy']; rfl
    rw [List.getElem?_take, if_pos (by omega), List.getElem?_drop, ← ht, List.getElem?_take, if_pos (by omega)] at h2
    simpa using h2
  have HI := Aside0.mk hI
  have HA := Aside0.mk hA
  have hfin : ∀ W, Below w.heap.size w W → PutPost bx (.slice (some ⟨g, 0, none⟩) l.length cap) l w true (l.set rk ⟨(rd_T52 l (rk : Nat)).f0, v⟩) (.returned (.bool false)) (W.setCell ⟨g, rk * 3 + 2, none⟩ (.int .i64 v)) := fun W hB => by
    have hWg : W.heap[g]? = some (.cells cur 52 (0, 0)) := (hB.block g (blk_lt hh)).trans hh
    have hne2 : ∀ k, (Value.slice (some ⟨g, 0, none⟩) l.length cap).ownBlock = some k → k = g := fun k hk => by injection hk with hk; exact hk.symm
    refine ⟨.slice (some ⟨g, 0, none⟩) l.length cap, rfl, ⟨(Below.heap_setCell W ⟨g, rk * 3 + 2, none⟩ _ bx (fun e => hgb e.symm)).trans (hI.below hB).blk, ?_, hI.ne⟩, ?_, .inl rfl⟩
    · have hl2 : (l.set rk ⟨(rd_T52 l (rk : Nat)).f0, v⟩).length = l.length := List.length_set
      rw [← hl2]
      refine R_made (R := fun p c => c = V3 p) (setCell_row hWg _ _) (by rw [hl2]; exact hn) hc (by simpa using hs3) (inner := inner.take (rk * 3) ++ V3 ⟨(rd_T52 l (rk : Nat)).f0, v⟩ ++ inner.drop (rk * 3 + (V3 ⟨(rd_T52 l (rk : Nat)).f0, v⟩).length)) ?_ (Kd.reps_set (hr.imp_ (fun _ _ h => k52_openM h)) hrk rfl rfl) (fun _ _ h => h)
      rw [hl2]
      have q := set_list cur.toList inner l.length rk ⟨(rd_T52 l (rk : Nat)).f0, v⟩ y hrk ht hlen hy' (by rw [rd_get l rk hrk, hyq]; rfl)
      rw [← q]
      simp
    · have k := (Keeps.of_below hB bx (some g))
      exact ⟨k.os, k.tape, k.output, by simpa [World.setCell] using k.size, fun i hi hb hr => (Below.heap_setCell W ⟨g, rk * 3 + 2, none⟩ _ i (fun e => hr (by rw [e]; rfl))).trans (k.blk i hi hb hr)⟩
  have HFIN := Aside0.mk hfin
  have HV2 := Aside0.mk hv2
  have HH := Aside0.mk hh
  have HRK := Aside0.mk hrk
  clear hI hA hf hrk hl hr hc hs ht H hlen hyq hy' hsz hv2 hfin hh hn hs3
  have t0 := T0.out.c0
  have t1 := T0.out.c1
  go_enter Try.func11, Try.ntmps11
  go_wp2_with fail
  generalize w.alloc (.cells #[.int .i64 qx, .int .i64 qy] 35) = w1 at T0 B1 t0 t1 ⊢
  have I1 := Aside0.mk (HI.out.below B1.out)
  go_wp2_with (go_at_call 21; (with_reducible refine (HA.out _ I1.out).mono ?_); rintro e w2 ⟨rfl, hb⟩; have B2 := Aside0.mk (below_step B1.out hb); have hcell := (HI.out.below B2.out).cell; have hW2 := (B2.out.block g (blk_lt HH.out)).trans HH.out; have h0 := (blk_cell hW2 (rk * 3 + 2)).trans HV2.out; have hfz := blk_frozen hW2 (rk * 3 + 2); have q1 : (0 ≤ (rk : Int)) = True := eq_true (Int.natCast_nonneg rk); have q2 : ((rk : Int) < (l.length : Int)) = True := eq_true (Int.ofNat_lt.2 HRK.out); clear t0 t1 T0 B1 I1 hb hW2)
  go_ret
  exact HFIN.out _ B2.out
theorem near_Put.calls (bx : Nat) (s : Value) (l : List S52) (qx qy v : Int) (w : World) (hI : IdxAt w bx s l) (hs : Rising l) (hf : Fits l) :
    Calls Try.prog 11 #[.pointer (some ⟨bx, 0, none⟩), .agg #[.int .i64 qx, .int .i64 qy], .int .i64 v] w (PutPost bx s l w (has l qx qy) (putL l qx qy v)) := by
  have hA := fun W h => near_at.calls bx s l qx qy W h hs hf
  unfold putL
  cases hz : has l qx qy with
  | false =>
    rw [hz] at hA
    rw [if_neg (by decide)]
    exact near_Put.new bx s l qx qy v _ w hI hf (rank_le l qx qy) hA
  | true =>
    rw [hz] at hA
    rw [if_pos rfl]
    exact near_Put.old bx s l qx qy v _ w hI hf (by unfold has at hz; simp at hz; exact hz.1) hA
end Go.Proofs.Ytcfgpfappidkaaa.F
