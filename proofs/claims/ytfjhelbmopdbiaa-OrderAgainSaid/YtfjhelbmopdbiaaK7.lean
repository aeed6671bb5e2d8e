/- OrderAgain: the walk, whatever the things. -/
import Derived.Test.YtfjhelbmopdbiaaHAlive07
import Derived.Test.YtfjhelbmopdbiaaF11
import Derived.Test.YtfjhelbmopdbiaaF13
import Derived.ArgAppend
namespace Go.Proofs.Ytfjhelbmopdbiaa.F
open Go.RowKit Go.Proofs.YtfjhelbmopdbiaaW.PrintWords Go.Proofs.YtfjhelbmopdbiaaW.PrintLast Go.Proofs.YtfjhelbmopdbiaaW.PrintMore
set_option linter.unusedVariables false
set_option linter.unusedSimpArgs false
/-- append onto a slice that has no room left: a new row. -/
theorem append_full {P : Program} {α : Type} (d : Kd α) {W : World} (t ty e : TypeId) (z : Value) (bytes : Nat) (ht : P.underlying t = some (.slice e))
    (hinfo : (P.info? e).map (fun i => (i.zero, i.size, i.bytes)) = some (some z, d.sz, bytes)) (hz : z.cells.size = d.sz) (hs0 : 0 < d.sz) (hb0 : 0 < bytes)
    (hM : ∀ w w' base ok x cs, d.K w x cs → d.M w' base ok x cs) (xs ys : List α) (A B : Option Addr) (n m c : Nat) (hnl : n = xs.length) (hml : m = ys.length) (hX : Kd.C d W A n xs) (hY : Kd.C d W B m ys) (hy : 0 < ys.length) (hl : (xs.length + ys.length) * bytes ≤ 140737488355328) (hA : A = none → xs.length = 0) :
    ∃ v1 w1, (Builtin.append_ #[t, t] ty #[.slice A n n, .slice B m c]).run P W = .ok v1 w1 ∧ d.R e w1 W.heap.size (fun _ => True) v1 (xs ++ ys) ∧ Below W.heap.size W w1 := by
  subst hnl hml
  obtain ⟨i0, hi, hzz⟩ := Option.map_eq_some_iff.1 hinfo
  simp only [Prod.mk.injEq] at hzz
  obtain ⟨hz0, hz1, hz2⟩ := hzz
  have hlen : xs.length + ys.length ≤ 140737488355328 := Nat.le_trans (Nat.le_mul_of_pos_right _ hb0) hl
  have hmax : xs.length + ys.length ≤ maxLen := by simp only [maxLen]; omega
  obtain ⟨B', rfl, _⟩ := hY.2.2 hy
  obtain ⟨news, hnr, hnc⟩ := ReadsRow.inner_ hY
  have fin : ∀ (olds : List Value), Reps (d.K W) d.sz xs olds → (∃ v' w', (Builtin.append_ #[t, t] ty #[.slice A xs.length xs.length, .slice (some B') ys.length c]).run P W = .ok v' w' ∧ w'.ownsRow W.heap.size e d.sz v' (xs.length + ys.length) (olds ++ news) ∧ W.grownBy w' none) →
      ∃ v1 w1, (Builtin.append_ #[t, t] ty #[.slice A xs.length xs.length, .slice (some B') ys.length c]).run P W = .ok v1 w1 ∧ d.R e w1 W.heap.size (fun _ => True) v1 (xs ++ ys) ∧ Below W.heap.size W w1 := by
    intro olds ho ⟨v', w', hrun, h1, h2⟩
    refine ⟨v', w', hrun, ⟨fun _ _ => trivial, olds ++ news, by rw [List.length_append]; exact h1, ?_⟩, grown_none h2⟩
    exact (Kd.reps_append ho hnr).imp_ (fun p q hp => hM _ _ _ _ _ _ hp)
  have hnl : news.length = ys.length * d.sz := hnr.1
  cases A with
  | none =>
    have h0 := hA rfl
    obtain rfl : xs = [] := List.eq_nil_of_length_eq_zero h0
    refine fin [] (Reps.none _ _) ?_
    have hone : ∀ u ∈ news, u.oneCell' = true := by
      intro u hu
      obtain ⟨q, hq, rfl⟩ := List.mem_iff_getElem.1 hu
      have hql : q / d.sz < ys.length := by
        rw [Nat.div_lt_iff_lt_mul hs0, ← hnl]
        exact hq
      refine d.K_one (hnr.2 (q / d.sz) _ (List.getElem?_eq_getElem hql)) _ ?_
      rw [List.mem_iff_getElem?]
      refine ⟨q % d.sz, ?_⟩
      rw [List.getElem?_take, if_pos (Nat.mod_lt _ hs0), List.getElem?_drop, Nat.mul_comm, Nat.div_add_mod, List.getElem?_eq_getElem hq]
    obtain ⟨v', w', hrun, r1, r2, _⟩ := run_append_own (P := P) W W.heap.size t ty e i0 z d.sz bytes ht hi hz0 hz1 hz2 hz hs0 (.slice none 0 0) 0 [] (World.ownsRow_nil W _ e d.sz) B' ys.length c news hnl hnc hone (by simpa using hmax) (by simpa using hl) (Nat.le_refl _)
    exact ⟨v', w', hrun, r1, r2⟩
  | some A' =>
    obtain ⟨olds, hor, hoc⟩ := ReadsRow.inner_ hX
    refine fin olds hor ?_
    exact run_append_arg_grows (P := P) W t ty e i0 z d.sz bytes ht hi hz0 hz1 hz2 hz hs0 A' xs.length xs.length olds hor.1 hoc B' ys.length c news hnl hnc (by omega) hmax hl
/-- A row of a single thing, made anew. -/
theorem one_new (w : World) (x : S26) : Kd.R k26 26 (w.alloc (.cells #[.int .i64 x.f0, .int .i64 x.f1] 26)) w.heap.size (fun _ => True) (.slice (some ⟨w.heap.size, 0, none⟩) 1 1) [x] := by
  refine ⟨fun _ _ => trivial, [.int .i64 x.f0, .int .i64 x.f1], ?_, ?_⟩
  · have h2 := World.ownsRow_lit (base := w.heap.size) (e := 26) (size := 2) w #[.int .i64 x.f0, .int .i64 x.f1] 1 (Nat.le_refl _) (by simp [maxLen]) rfl
    have e : k26.sz = 2 := rfl
    rw [e]
    simpa using h2
  · have h3 := Reps.snoc (R := k26.M (w.alloc (.cells #[.int .i64 x.f0, .int .i64 x.f1] 26)) w.heap.size fun k => True ∧ some k ≠ (Value.slice (some ⟨w.heap.size, 0, none⟩) 1 1).ownBlock) (size := 2) (Reps.none _ 2) (p := x) (c := [.int .i64 x.f0, .int .i64 x.f1]) (k26_mkM _ _ _ x) rfl
    have e : k26.sz = 2 := rfl
    rw [e]
    simpa using h3
theorem merge_one (k : Nat) (A : Option Addr) (c : Nat) (s : List S26) (B : Option Addr) (x : S26) (m : List S26) (W : World) (hs : Kd.V k26 26 W W.heap.size (fun _ => True) (.slice A s.length c) s) (hx : Kd.V k26 26 W W.heap.size (fun _ => True) (.slice B 1 1) [x]) (h : cobwebref07_Item_14.f k s [x] = some m) :
    Calls Try.prog 14 #[.slice A s.length c, .slice B 1 1, .func (.func 10) #[] #[]] W fun e w' => ∃ v0_ : Value, e = .returned (v0_) ∧ Kd.R k26 26 w' W.heap.size (fun k_ => (W.heap.size ≤ k_)) v0_ m ∧ Below W.heap.size W w' :=
  cobwebref07_Item_14.calls k (fun _ => True) A c s (fun _ => True) B 1 [x] m W hs hx h
theorem merge_nil_right (k : Nat) (A : Option Addr) (c : Nat) (s : List S26) (m : List S26) (W : World) (hs : Kd.V k26 26 W W.heap.size (fun _ => True) (.slice A s.length c) s) (h : cobwebref07_Item_14.f k s [] = some m) :
    Calls Try.prog 14 #[.slice A s.length c, .slice none 0 0, .func (.func 10) #[] #[]] W fun e w' => ∃ v0_ : Value, e = .returned (v0_) ∧ Kd.R k26 26 w' W.heap.size (fun k_ => (W.heap.size ≤ k_)) v0_ m ∧ Below W.heap.size W w' :=
  cobwebref07_Item_14.calls k (fun _ => True) A c s (fun _ => True) none 0 [] m W hs (Kd.R_V (Kd.R_nil k26 26 W W.heap.size (fun _ => True))) h
theorem merge_nil_left (k : Nat) (A : Option Addr) (c : Nat) (s : List S26) (m : List S26) (W : World) (hs : Kd.V k26 26 W W.heap.size (fun _ => True) (.slice A s.length c) s) (h : cobwebref07_Item_14.f k [] s = some m) :
    Calls Try.prog 14 #[.slice none 0 0, .slice A s.length c, .func (.func 10) #[] #[]] W fun e w' => ∃ v0_ : Value, e = .returned (v0_) ∧ Kd.R k26 26 w' W.heap.size (fun k_ => (W.heap.size ≤ k_)) v0_ m ∧ Below W.heap.size W w' :=
  cobwebref07_Item_14.calls k (fun _ => True) none 0 [] (fun _ => True) A c s m W (Kd.R_V (Kd.R_nil k26 26 W W.heap.size (fun _ => True))) hs h
theorem lit_below (w : World) (o : Obj) : Below w.heap.size w (w.alloc o) := below_alloc (Below.refl w.heap.size w) o
def OrderAgain_calls.T5 : Bool × List (List Nat × List Nat) := (true, [([], []), ([0, 0], [0]), ([1], [1]), ([2, 1, 1], [1, 2]), ([1], [1]), ([3, 4, 3, 1], [1, 3, 4]), ([1, 5], [1, 5]), ([6, 5], [6]), ([7], [7]), ([7], [7]), ([7], [7]), ([10, 7], [7, 10]), ([7], [7]), ([12, 7], [7, 12]), ([9, 11, 13, 7], [7, 9, 11, 13]), ([7], [7]), ([15, 7], [7, 15]), ([14, 16, 7, 7], [7, 14, 16]), ([17, 17, 7], [7, 17]), ([8, 18, 18, 7], [7, 8, 18]), ([7, 19], [7, 19]), ([20, 19], [20]), ([21], [21]), ([22, 21, 21], [21, 22]), ([21, 23], [21, 23]), ([24, 23], [24]), ([25], [25]), ([26, 25, 25], [25, 26]), ([25], [25]), ([27, 28, 27, 25], [25, 27, 28]), ([25, 29], [25, 29]), ([30, 29], [30]), ([31], [31]), ([32, 31, 31], [31, 32]), ([31], [31]), ([33, 34, 33, 31], [31, 33, 34]), ([31, 35], [31, 35]), ([36, 35, 0, 1, 2, 3, 4, 5, 6, 7, 8, 9, 10, 11, 12, 13, 14, 15, 16, 17, 18, 19, 20, 21, 22, 23, 24, 25, 26, 27, 28, 29, 30, 31, 32, 33, 34, 35, 36], [36])])
def OrderAgain_calls.B5 : List Nat := [0, 1, 3, 7, 3, 31, 63, 127, 255, 255, 255, 1279, 255, 4351, 16127, 255, 33023, 130815, 261887, 524287, 1048575, 2097151, 4194303, 8388607, 16777215, 33554431, 67108863, 134217727, 67108863, 536870911, 1073741823, 2147483647, 4294967295, 8589934591, 4294967295, 34359738367, 68719476735, 137438953471]
theorem OrderAgain_calls.tab5 : rtab .any (opsOf Try.f7 5) = OrderAgain_calls.T5 := by kernel_rfl
theorem OrderAgain_calls.bits5 : waitsOk OrderAgain_calls.T5.2 OrderAgain_calls.B5 = true := by kernel_rfl
set_option maxHeartbeats 4000000 in
set_option maxRecDepth 100000 in
theorem OrderAgain_long (A0 : Option Addr) (n c0 : Nat) (x0 x1 : Int) (w : World) (hn : 150 < n) :
    Calls Try.prog 7 #[.slice A0 n c0, .agg #[.int .i64 x0, .int .i64 x1]] w fun e w' => e = .returned (.bool true) ∧ Below w.heap.size w w' := by
  have hc : decide ((n : Int) > 150) = true := decide_eq_true (by omega)
  go_enter Try.func7, Try.ntmps7
  go_wp2_with (go_at_call 8; (with_reducible refine (cobweblaw07_alive.calls0 _).mono ?_); rintro e w2 ⟨rfl, hb⟩; have HB := Aside0.mk (below_step (below_alloc (Below.refl w.heap.size w) _) hb); clear hb)
  go_ret
  exact ⟨rfl, HB.out⟩
set_option maxHeartbeats 8000000 in
set_option maxRecDepth 100000 in
theorem OrderAgain_calls (k : Nat) (A0 : Option Addr) (c0 : Nat) (l s m : List S26) (x0 x1 : Int) (E1 : sortItem_9.f k l = some s) (E2 : cobwebref07_Item_14.f k s [⟨x0, x1⟩] = some m) (E3 : sortItem_9.f k s = some s) (E4 : sortItem_9.f k (l ++ [⟨x0, x1⟩]) = some m)
    (E5 : cobwebref07_Item_13.f k m = some true) (E6 : cobwebref07_Item_14.f k s [] = some s) (E7 : cobwebref07_Item_14.f k [] s = some s) (E8 : cobweblaw07_same.f k s s = some true) (E9 : cobweblaw07_same.f k m m = some true) (w : World) (hr0 : Kd.C k26 w A0 l.length l) (hc0 : l.length ≤ c0) (hn : l.length ≤ 150) :
    Calls Try.prog 7 #[.slice A0 l.length c0, .agg #[.int .i64 x0, .int .i64 x1]] w fun e w' => e = .returned (.bool true) ∧ Below w.heap.size w w' := by
  have hc : decide ((l.length : Int) > 150) = false := decide_eq_false (by omega)
  have HB := Aside0.mk (Below.refl w.heap.size w)
  have HL := Aside0.mk hr0
  have HC := Aside0.mk hc0
  have HN := Aside0.mk hn
  have F1 := Aside0.mk E1
  have F2 := Aside0.mk E2
  have F3 := Aside0.mk E3
  have F4 := Aside0.mk E4
  have F5 := Aside0.mk E5
  have F6 := Aside0.mk E6
  have F7 := Aside0.mk E7
  have F8 := Aside0.mk E8
  have F9 := Aside0.mk E9
  clear E1 E2 E3 E4 E5 E6 E7 E8 E9
  have hcut : ∀ W : World, (Instr.slice 22 (.slice A0 l.length c0) none (some (.int .i64 (l.length : Int))) (some (.int .i64 (l.length : Int)))).run Try.prog W = .ok (.slice A0 l.length l.length) W := by
    intro W
    obtain ⟨i0, hi0, _, hsz, _⟩ := info_parts info26
    have hel : Try.prog.elem 22 = 26 := by simp [Program.elem, Try.underlying22]
    have hu : Try.prog.underlying 22 = some (.slice (Try.prog.elem 22)) := by rw [hel]; exact Try.underlying22
    have hm := hr0.2.1
    rw [run_slice_hm W 22 A0 l.length c0 hu .i64 .i64 l.length l.length (by omega) (by omega) (by omega), hel]
    have hq : A0.map (·.add 0) = A0 := by cases A0 <;> simp [Addr.add]
    simp [sizeOf, typeInfo, hi0, sliced, Result.andThen, hq]
  clear hr0 hc0 hn
  go_enter Try.func7, Try.ntmps7
  go_wp2_with (first | (go_at_call 9; ((with_reducible refine (sortItem_9.calls k A0 c0 l s _ (by with_reducible exact Kd.C_alloc HL.out _) HC.out F1.out).mono ?_); rintro e w1 ⟨v1, rfl, ho, hb⟩; have x0c := (hb.cell (p := ⟨w.heap.size, 0, none⟩) (by first | (simp; done) | (simp; omega))).trans (show _ = some (.int .i64 x0) by (go_simp; done)); have x1c := (hb.cell (p := ⟨w.heap.size, 1, none⟩) (by first | (simp; done) | (simp; omega))).trans (show _ = some (.int .i64 x1) by (go_simp; done)); have HS := Aside0.mk ho; have HL' := Aside0.mk (Kd.C_below (Kd.C_alloc HL.out _) hb); clear HL; have HL := HL'; clear HL'; have HB' := Aside0.mk (below_step (below_alloc HB.out _) hb); clear HB; have HB := HB'; clear HB' ho hb; obtain ⟨As, cs, es⟩ := Kd.R_slice HS.out; subst es)) | (go_at_call 14; have HX := Aside0.mk (one_new w1 ⟨x0, x1⟩); have hb := below_alloc (Below.refl w1.heap.size w1) (.cells #[.int .i64 x0, .int .i64 x1] 26); have HL' := Aside0.mk (Kd.C_below HL.out hb); clear HL; have HL := HL'; clear HL'; have HS' := Aside0.mk (Kd.R_below HS.out hb); clear HS; have HS := HS'; clear HS'; have x0c' := (hb.cell (World.block_lt_of_cell? _ _ x0c)).trans x0c; clear x0c; have x0c := x0c'; clear x0c'; have x1c' := (hb.cell (World.block_lt_of_cell? _ _ x1c)).trans x1c; clear x1c; have x1c := x1c'; clear x1c'; have HB' := Aside0.mk (below_step HB.out hb); clear HB; have HB := HB'; clear HB'; clear hb; (with_reducible refine (merge_one k As cs s _ ⟨x0, x1⟩ m _ (Kd.R_V HS.out) (Kd.R_V HX.out) F2.out).mono ?_); rintro e w2 ⟨v2, rfl, ho, hb⟩; clear HX; have HM := Aside0.mk ho; clear ho; have HL' := Aside0.mk (Kd.C_below HL.out hb); clear HL; have HL := HL'; clear HL'; have HS' := Aside0.mk (Kd.R_below HS.out hb); clear HS; have HS := HS'; clear HS'; have x0c' := (hb.cell (World.block_lt_of_cell? _ _ x0c)).trans x0c; clear x0c; have x0c := x0c'; clear x0c'; have x1c' := (hb.cell (World.block_lt_of_cell? _ _ x1c)).trans x1c; clear x1c; have x1c := x1c'; clear x1c'; have HB' := Aside0.mk (below_step HB.out hb); clear HB; have HB := HB'; clear HB'; clear hb; obtain ⟨Am, cm, em⟩ := Kd.R_slice HM.out; subst em))
  have hb := below_drew (Below.refl w2.heap.size w2)
  refine start_ (n := 38) (S := fun W => W.cell? ⟨w.heap.size, 0, none⟩ = some (.int .i64 x0) ∧ W.cell? ⟨w.heap.size, 1, none⟩ = some (.int .i64 x1)) (ds := []) #[false, false, false, false, false, false, false, false, false, false, false, false, false, false, false, false, false, false, false, false, false, false, false, false, false, false, false, false, false, false, false, false, false, false, false, false, false, false] (by kernel_rfl) rfl rfl ⟨x0c, x1c⟩ (fun hHeld => ?_); refine with_tabW OrderAgain_calls.tab5 OrderAgain_calls.bits5 (fun HT_ HW_ => ?_)
  generalize hw0 : w2.drew = w3 at hb hHeld ⊢
  have HL' := Aside0.mk (Kd.C_below HL.out hb); clear HL; have HL := HL'; clear HL'
  have HS' := Aside0.mk (Kd.R_below HS.out hb); clear HS; have HS := HS'; clear HS'
  have HM' := Aside0.mk (Kd.R_below HM.out hb); clear HM; have HM := HM'; clear HM'
  have x0c' := (hb.cell (World.block_lt_of_cell? _ _ x0c)).trans x0c; clear x0c; have x0c := x0c'; clear x0c'
  have x1c' := (hb.cell (World.block_lt_of_cell? _ _ x1c)).trans x1c; clear x1c; have x1c := x1c'; clear x1c'
  have HB' := Aside0.mk (below_step HB.out hb); clear HB; have HB := HB'; clear HB'
  clear hw0 hb
  refine one_ (i := 0) (N := (some 17)) #[true, false, false, false, false, false, false, false, false, false, false, false, false, false, false, false, false, false, false, false, false, false, false, false, false, false, false, false, false, false, false, false, false, false, false, false, false, false] rfl rfl (one_of HT_.out (by kernel_rfl)) (by decide) (fun K hK => ?_)
  refine goes_ Try.func8 (by kernel_rfl) rfl #[] (by rfl) rfl rfl (by (try simp only [List.map_toArray, List.map_cons, List.map_nil]); first | done | rfl) ?_
  with_reducible refine (cobweblaw07_alive.calls0 _).mono ?_
  rintro e w4 ⟨rfl, hb⟩
  refine ⟨_, rfl, ?_⟩
  have HL' := Aside0.mk (Kd.C_below HL.out hb); clear HL; have HL := HL'; clear HL'
  have HS' := Aside0.mk (Kd.R_below HS.out hb); clear HS; have HS := HS'; clear HS'
  have HM' := Aside0.mk (Kd.R_below HM.out hb); clear HM; have HM := HM'; clear HM'
  have x0c' := (hb.cell (World.block_lt_of_cell? _ _ x0c)).trans x0c; clear x0c; have x0c := x0c'; clear x0c'
  have x1c' := (hb.cell (World.block_lt_of_cell? _ _ x1c)).trans x1c; clear x1c; have x1c := x1c'; clear x1c'
  have HB' := Aside0.mk (below_step HB.out hb); clear HB; have HB := HB'; clear HB'
  clear hb
  have hHeld2 : _ ∧ _ := ⟨x0c, x1c⟩
  clear hHeld
  refine hK.out _ _ hHeld2 (fun hHeld => ?_)
  clear hK K hHeld2
  refine norm_ (a' := ?_) ?_ ?_
  rotate_left
  · show Act.put _ (some 17) _ = _
    simp only [Act.put, List.setIfInBounds_toArray, List.set_cons_zero, List.set_cons_succ, i64_w, i32_w]
    rfl
  refine pure_ (i := 1) (N := (some 18)) (v := ?_) (a' := ?_) #[true, true, false, false, false, false, false, false, false, false, false, false, false, false, false, false, false, false, false, false, false, false, false, false, false, false, false, false, false, false, false, false, false, false, false, false, false, false] rfl rfl (any_of HT_.out (by kernel_rfl)) (fun _ _ _ h => h) (Or.inl ⟨by rfl, ?_⟩) ?_ ?_
  rotate_left
  · intro w'
    go_simp
    with_reducible rfl
  rotate_left
  · simp only [Act.put, List.setIfInBounds_toArray, List.set_cons_zero, List.set_cons_succ, i64_w, i32_w]
    rfl
  refine pure_ (i := 2) (N := (some 19)) (v := ?_) (a' := ?_) #[true, true, true, false, false, false, false, false, false, false, false, false, false, false, false, false, false, false, false, false, false, false, false, false, false, false, false, false, false, false, false, false, false, false, false, false, false, false] rfl rfl (any_of HT_.out (by kernel_rfl)) (fun _ _ _ h => h) (Or.inl ⟨by rfl, ?_⟩) ?_ ?_
  rotate_left
  · intro w'
    go_simp
    with_reducible rfl
  rotate_left
  · simp only [Act.put, List.setIfInBounds_toArray, List.set_cons_zero, List.set_cons_succ, i64_w, i32_w]
    rfl
  refine pure_ (i := 4) (N := (some 21)) (v := ?_) (a' := ?_) #[true, true, true, false, true, false, false, false, false, false, false, false, false, false, false, false, false, false, false, false, false, false, false, false, false, false, false, false, false, false, false, false, false, false, false, false, false, false] rfl rfl (any_of HT_.out (by kernel_rfl)) (fun _ _ _ h => h) (Or.inl ⟨by rfl, ?_⟩) ?_ ?_
  rotate_left
  · intro w'
    go_simp
    with_reducible rfl
  rotate_left
  · simp only [Act.put, List.setIfInBounds_toArray, List.set_cons_zero, List.set_cons_succ, i64_w, i32_w]
    rfl
  refine one_ (i := 3) (N := (some 20)) #[true, true, true, true, true, false, false, false, false, false, false, false, false, false, false, false, false, false, false, false, false, false, false, false, false, false, false, false, false, false, false, false, false, false, false, false, false, false] rfl rfl (one_of HT_.out (by kernel_rfl)) (by decide) (fun K hK => ?_)
  refine goes_ Try.func9 (by kernel_rfl) rfl #[.slice As s.length cs, .func (.func 10) #[] #[]] (by rfl) rfl rfl (by (try simp only [List.map_toArray, List.map_cons, List.map_nil]); first | done | rfl) ?_
  with_reducible refine (sortItem_9.calls k As cs s s _ (Kd.R_reads' HS.out).2.2 (Kd.R_reads' HS.out).2.1 F3.out).mono ?_
  rintro e w5 ⟨v5, rfl, ho, hb⟩
  refine ⟨_, rfl, ?_⟩
  have HL' := Aside0.mk (Kd.C_below HL.out hb); clear HL; have HL := HL'; clear HL'
  have HS' := Aside0.mk (Kd.R_below HS.out hb); clear HS; have HS := HS'; clear HS'
  have HM' := Aside0.mk (Kd.R_below HM.out hb); clear HM; have HM := HM'; clear HM'
  have x0c' := (hb.cell (World.block_lt_of_cell? _ _ x0c)).trans x0c; clear x0c; have x0c := x0c'; clear x0c'
  have x1c' := (hb.cell (World.block_lt_of_cell? _ _ x1c)).trans x1c; clear x1c; have x1c := x1c'; clear x1c'
  have HB' := Aside0.mk (below_step HB.out hb); clear HB; have HB := HB'; clear HB'
  clear hb
  have HT := Aside0.mk ho
  clear ho
  obtain ⟨AHT, cHT, eHT⟩ := Kd.R_slice HT.out
  subst eHT
  have hHeld2 : _ ∧ _ := ⟨x0c, x1c⟩
  clear hHeld
  refine hK.out _ _ hHeld2 (fun hHeld => ?_)
  clear hK K hHeld2
  refine norm_ (a' := ?_) ?_ ?_
  rotate_left
  · show Act.put _ (some 20) _ = _
    simp only [Act.put, List.setIfInBounds_toArray, List.set_cons_zero, List.set_cons_succ, i64_w, i32_w]
    rfl
  refine one_ (i := 5) (N := (some 22)) #[true, true, true, true, true, true, false, false, false, false, false, false, false, false, false, false, false, false, false, false, false, false, false, false, false, false, false, false, false, false, false, false, false, false, false, false, false, false] rfl rfl (one_of HT_.out (by kernel_rfl)) (by decide) (fun K hK => ?_)
  refine goes_ Try.func11 (by kernel_rfl) rfl #[.slice AHT s.length cHT, .slice As s.length cs] (by rfl) rfl rfl (by (try simp only [List.map_toArray, List.map_cons, List.map_nil]); first | done | rfl) ?_
  with_reducible refine (cobweblaw07_same.calls k AHT cHT s As cs s true _ (Kd.R_reads' HT.out).2.2 (Kd.R_reads' HT.out).2.1 (Kd.R_reads' HS.out).2.2 (Kd.R_reads' HS.out).2.1 F8.out).mono ?_
  rintro e w6 ⟨rfl, hd⟩
  refine ⟨_, rfl, ?_⟩
  have hb := hd.below
  clear hd
  have HL' := Aside0.mk (Kd.C_below HL.out hb); clear HL; have HL := HL'; clear HL'
  have HS' := Aside0.mk (Kd.R_below HS.out hb); clear HS; have HS := HS'; clear HS'
  have HM' := Aside0.mk (Kd.R_below HM.out hb); clear HM; have HM := HM'; clear HM'
  have HT' := Aside0.mk (Kd.R_below HT.out hb); clear HT; have HT := HT'; clear HT'
  have x0c' := (hb.cell (World.block_lt_of_cell? _ _ x0c)).trans x0c; clear x0c; have x0c := x0c'; clear x0c'
  have x1c' := (hb.cell (World.block_lt_of_cell? _ _ x1c)).trans x1c; clear x1c; have x1c := x1c'; clear x1c'
  have HB' := Aside0.mk (below_step HB.out hb); clear HB; have HB := HB'; clear HB'
  clear hb
  have hHeld2 : _ ∧ _ := ⟨x0c, x1c⟩
  clear hHeld
  refine hK.out _ _ hHeld2 (fun hHeld => ?_)
  clear hK K hHeld2
  refine norm_ (a' := ?_) ?_ ?_
  rotate_left
  · show Act.put _ (some 22) _ = _
    simp only [Act.put, List.setIfInBounds_toArray, List.set_cons_zero, List.set_cons_succ, i64_w, i32_w]
    rfl
  clear HT
  refine pure_ (i := 6) (N := (some 23)) (v := ?_) (a' := ?_) #[true, true, true, true, true, true, true, false, false, false, false, false, false, false, false, false, false, false, false, false, false, false, false, false, false, false, false, false, false, false, false, false, false, false, false, false, false, false] rfl rfl (any_of HT_.out (by kernel_rfl)) (fun _ _ _ h => h) (Or.inl ⟨by rfl, ?_⟩) ?_ ?_
  rotate_left
  · intro w'
    go_simp
    with_reducible rfl
  rotate_left
  · simp only [Act.put, List.setIfInBounds_toArray, List.set_cons_zero, List.set_cons_succ, i64_w, i32_w]
    rfl
  refine pure_ (i := 7) (N := (some 24)) (v := ?_) (a' := ?_) #[true, true, true, true, true, true, true, true, false, false, false, false, false, false, false, false, false, false, false, false, false, false, false, false, false, false, false, false, false, false, false, false, false, false, false, false, false, false] rfl rfl (any_of HT_.out (by kernel_rfl)) (fun _ _ _ h => h) (Or.inl ⟨by rfl, ?_⟩) ?_ ?_
  rotate_left
  · intro w'
    go_simp
    with_reducible rfl
  rotate_left
  · simp only [Act.put, List.setIfInBounds_toArray, List.set_cons_zero, List.set_cons_succ, i64_w, i32_w]
    rfl
  refine pure_ (i := 8) (N := (some 25)) (v := ?_) (a' := ?_) #[true, true, true, true, true, true, true, true, true, false, false, false, false, false, false, false, false, false, false, false, false, false, false, false, false, false, false, false, false, false, false, false, false, false, false, false, false, false] rfl rfl (any_of HT_.out (by kernel_rfl)) (fun _ _ _ h => h) (Or.inl ⟨by rfl, ?_⟩) ?_ ?_
  rotate_left
  · intro w'
    go_simp
    with_reducible rfl
  rotate_left
  · simp only [Act.put, List.setIfInBounds_toArray, List.set_cons_zero, List.set_cons_succ, i64_w, i32_w]
    rfl
  refine pure_ (i := 9) (N := (some 26)) (v := ?_) (a' := ?_) #[true, true, true, true, true, true, true, true, true, true, false, false, false, false, false, false, false, false, false, false, false, false, false, false, false, false, false, false, false, false, false, false, false, false, false, false, false, false] rfl rfl (any_of HT_.out (by kernel_rfl)) (fun _ _ _ h => h) (Or.inl ⟨by rfl, ?_⟩) ?_ ?_
  rotate_left
  · intro w'
    go_simp
    with_reducible rfl
  rotate_left
  · simp only [Act.put, List.setIfInBounds_toArray, List.set_cons_zero, List.set_cons_succ, i64_w, i32_w]
    rfl
  refine pure_ (i := 10) (N := (some 27)) (v := ?_) (a' := ?_) #[true, true, true, true, true, true, true, true, true, true, true, false, false, false, false, false, false, false, false, false, false, false, false, false, false, false, false, false, false, false, false, false, false, false, false, false, false, false] rfl rfl (any_of HT_.out (by kernel_rfl)) (fun _ _ _ h => h) (Or.inl ⟨by rfl, ?_⟩) ?_ ?_
  rotate_left
  · intro w'
    go_simp
    with_reducible rfl
  rotate_left
  · simp only [Act.put, List.setIfInBounds_toArray, List.set_cons_zero, List.set_cons_succ, i64_w, i32_w]
    rfl
  refine pure_ (i := 12) (N := (some 29)) (v := ?_) (a' := ?_) #[true, true, true, true, true, true, true, true, true, true, true, false, true, false, false, false, false, false, false, false, false, false, false, false, false, false, false, false, false, false, false, false, false, false, false, false, false, false] rfl rfl (any_of HT_.out (by kernel_rfl)) (fun _ _ _ h => h) (Or.inl ⟨by rfl, ?_⟩) ?_ ?_
  rotate_left
  · intro w'
    go_simp
    with_reducible rfl
  rotate_left
  · simp only [Act.put, List.setIfInBounds_toArray, List.set_cons_zero, List.set_cons_succ, i64_w, i32_w]
    rfl
  refine pure_ (i := 11) (N := (some 28)) (v := ?_) (a' := ?_) #[true, true, true, true, true, true, true, true, true, true, true, true, true, false, false, false, false, false, false, false, false, false, false, false, false, false, false, false, false, false, false, false, false, false, false, false, false, false] rfl rfl (any_of HT_.out (by kernel_rfl)) (fun _ _ _ h => h) (Or.inl ⟨by rfl, ?_⟩) ?_ ?_
  rotate_left
  · intro w'
    go_simp
    with_reducible rfl
  rotate_left
  · simp only [Act.put, List.setIfInBounds_toArray, List.set_cons_zero, List.set_cons_succ, i64_w, i32_w]
    rfl
  refine pure_ (i := 13) (N := (some 30)) (v := ?_) (a' := ?_) #[true, true, true, true, true, true, true, true, true, true, true, true, true, true, false, false, false, false, false, false, false, false, false, false, false, false, false, false, false, false, false, false, false, false, false, false, false, false] rfl rfl (any_of HT_.out (by kernel_rfl)) (fun _ _ _ h => h) (Or.inl ⟨by rfl, ?_⟩) ?_ ?_
  rotate_left
  · intro w'
    go_simp
    with_reducible rfl
  rotate_left
  · simp only [Act.put, List.setIfInBounds_toArray, List.set_cons_zero, List.set_cons_succ, i64_w, i32_w]
    rfl
  refine take_ (i := 15) (N := (some 32)) (v := ?_) (a' := ?_) #[true, true, true, true, true, true, true, true, true, true, true, true, true, true, false, true, false, false, false, false, false, false, false, false, false, false, false, false, false, false, false, false, false, false, false, false, false, false] rfl rfl (take_ofW HT_.out HW_.out (by kernel_rfl)) (fun _ _ _ h => h) (Or.inl ⟨by rfl, ?_⟩) hHeld ?_ ?_
  rotate_left
  · rintro w' ⟨s0, s1⟩
    go_simp
    with_reducible rfl
  rotate_left
  · simp only [Act.put, List.setIfInBounds_toArray, List.set_cons_zero, List.set_cons_succ, i64_w, i32_w]
    rfl
  refine pure_ (i := 14) (N := (some 31)) (v := ?_) (a' := ?_) #[true, true, true, true, true, true, true, true, true, true, true, true, true, true, true, true, false, false, false, false, false, false, false, false, false, false, false, false, false, false, false, false, false, false, false, false, false, false] rfl rfl (any_of HT_.out (by kernel_rfl)) (fun _ _ _ h => h) (Or.inl ⟨by rfl, ?_⟩) ?_ ?_
  rotate_left
  · intro w'
    first | (go_simp; with_reducible rfl) | (go_simp; simp only [hcut]; rfl)
  rotate_left
  · simp only [Act.put, List.setIfInBounds_toArray, List.set_cons_zero, List.set_cons_succ, i64_w, i32_w]
    rfl
  refine one_ (i := 16) (N := (some 33)) #[true, true, true, true, true, true, true, true, true, true, true, true, true, true, true, true, true, false, false, false, false, false, false, false, false, false, false, false, false, false, false, false, false, false, false, false, false, false] rfl rfl (one_of HT_.out (by kernel_rfl)) (by decide) (fun K hK => ?_)
  refine value_ (w1 := w6.alloc (.cells #[.int .i64 x0, .int .i64 x1] 26)) (v := .slice (some ⟨w6.heap.size, 0, none⟩) 1 1) (by rfl) rfl (by first | (go_simp; done) | (go_simp; rfl) | (go_simp; constructor <;> rfl)) ?_
  have HX := Aside0.mk (one_new w6 ⟨x0, x1⟩)
  have hb := lit_below w6 (.cells #[.int .i64 x0, .int .i64 x1] 26)
  generalize w6.alloc (.cells #[.int .i64 x0, .int .i64 x1] 26) = w7 at HX hb ⊢
  have HL' := Aside0.mk (Kd.C_below HL.out hb); clear HL; have HL := HL'; clear HL'
  have HS' := Aside0.mk (Kd.R_below HS.out hb); clear HS; have HS := HS'; clear HS'
  have HM' := Aside0.mk (Kd.R_below HM.out hb); clear HM; have HM := HM'; clear HM'
  have x0c' := (hb.cell (World.block_lt_of_cell? _ _ x0c)).trans x0c; clear x0c; have x0c := x0c'; clear x0c'
  have x1c' := (hb.cell (World.block_lt_of_cell? _ _ x1c)).trans x1c; clear x1c; have x1c := x1c'; clear x1c'
  have HB' := Aside0.mk (below_step HB.out hb); clear HB; have HB := HB'; clear HB'
  clear hb
  have hHeld2 : _ ∧ _ := ⟨x0c, x1c⟩
  clear hHeld
  refine hK.out _ _ hHeld2 (fun hHeld => ?_)
  clear hK K hHeld2
  refine norm_ (a' := ?_) ?_ ?_
  rotate_left
  · show Act.put _ (some 33) _ = _
    simp only [Act.put, List.setIfInBounds_toArray, List.set_cons_zero, List.set_cons_succ, i64_w, i32_w]
    rfl
  refine one_ (i := 17) (N := (some 34)) #[true, true, true, true, true, true, true, true, true, true, true, true, true, true, true, true, true, true, false, false, false, false, false, false, false, false, false, false, false, false, false, false, false, false, false, false, false, false] rfl rfl (one_of HT_.out (by kernel_rfl)) (by decide) (fun K hK => ?_)
  obtain ⟨v8, w8, hrun, ho, hb⟩ := append_full (P := Try.prog) k26 (W := w7) 22 22 26 (.agg #[.int .i64 0, .int .i64 0]) 16 Try.underlying22 info26 rfl (by decide) (by decide) (fun _ _ _ _ _ _ h => h) l [⟨x0, x1⟩] A0 (some ⟨w6.heap.size, 0, none⟩) l.length 1 1 rfl rfl HL.out (Kd.R_reads' HX.out).2.2 (by simp) (by have := HN.out; simp; omega) (fun h => by rcases Nat.eq_zero_or_pos l.length with h0 | h0; exact h0; obtain ⟨_, e, _⟩ := HL.out.2.2 h0; rw [h] at e; cases e)
  refine value_ (w1 := w8) (v := v8) (by rfl) rfl (by first | (go_simp; simp only [hrun]; done) | (go_simp; simp only [hrun]; rfl) | simp [execOp, resolve, invoke, builtin, Act.eval, hrun, Result.andThen]) ?_
  clear hrun HX
  have HL' := Aside0.mk (Kd.C_below HL.out hb); clear HL; have HL := HL'; clear HL'
  have HS' := Aside0.mk (Kd.R_below HS.out hb); clear HS; have HS := HS'; clear HS'
  have HM' := Aside0.mk (Kd.R_below HM.out hb); clear HM; have HM := HM'; clear HM'
  have x0c' := (hb.cell (World.block_lt_of_cell? _ _ x0c)).trans x0c; clear x0c; have x0c := x0c'; clear x0c'
  have x1c' := (hb.cell (World.block_lt_of_cell? _ _ x1c)).trans x1c; clear x1c; have x1c := x1c'; clear x1c'
  have HB' := Aside0.mk (below_step HB.out hb); clear HB; have HB := HB'; clear HB'
  clear hb
  have HP := Aside0.mk ho
  clear ho
  obtain ⟨AHP, cHP, eHP⟩ := Kd.R_slice HP.out
  subst eHP
  have hHeld2 : _ ∧ _ := ⟨x0c, x1c⟩
  clear hHeld
  refine hK.out _ _ hHeld2 (fun hHeld => ?_)
  clear hK K hHeld2
  refine norm_ (a' := ?_) ?_ ?_
  rotate_left
  · show Act.put _ (some 34) _ = _
    simp only [Act.put, List.setIfInBounds_toArray, List.set_cons_zero, List.set_cons_succ, i64_w, i32_w]
    rfl
  refine one_ (i := 18) (N := (some 35)) #[true, true, true, true, true, true, true, true, true, true, true, true, true, true, true, true, true, true, true, false, false, false, false, false, false, false, false, false, false, false, false, false, false, false, false, false, false, false] rfl rfl (one_of HT_.out (by kernel_rfl)) (by decide) (fun K hK => ?_)
  refine goes_ Try.func9 (by kernel_rfl) rfl #[.slice AHP (l ++ [(⟨x0, x1⟩ : S26)]).length cHP, .func (.func 10) #[] #[]] (by rfl) rfl rfl (by (try simp only [List.map_toArray, List.map_cons, List.map_nil]); first | done | rfl) ?_
  with_reducible refine (sortItem_9.calls k AHP cHP (l ++ [⟨x0, x1⟩]) m _ (Kd.R_reads' HP.out).2.2 (Kd.R_reads' HP.out).2.1 F4.out).mono ?_
  rintro e w5 ⟨v5, rfl, ho, hb⟩
  refine ⟨_, rfl, ?_⟩
  clear HP
  have HL' := Aside0.mk (Kd.C_below HL.out hb); clear HL; have HL := HL'; clear HL'
  have HS' := Aside0.mk (Kd.R_below HS.out hb); clear HS; have HS := HS'; clear HS'
  have HM' := Aside0.mk (Kd.R_below HM.out hb); clear HM; have HM := HM'; clear HM'
  have x0c' := (hb.cell (World.block_lt_of_cell? _ _ x0c)).trans x0c; clear x0c; have x0c := x0c'; clear x0c'
  have x1c' := (hb.cell (World.block_lt_of_cell? _ _ x1c)).trans x1c; clear x1c; have x1c := x1c'; clear x1c'
  have HB' := Aside0.mk (below_step HB.out hb); clear HB; have HB := HB'; clear HB'
  clear hb
  have HU := Aside0.mk ho
  clear ho
  obtain ⟨AHU, cHU, eHU⟩ := Kd.R_slice HU.out
  subst eHU
  have hHeld2 : _ ∧ _ := ⟨x0c, x1c⟩
  clear hHeld
  refine hK.out _ _ hHeld2 (fun hHeld => ?_)
  clear hK K hHeld2
  refine norm_ (a' := ?_) ?_ ?_
  rotate_left
  · show Act.put _ (some 35) _ = _
    simp only [Act.put, List.setIfInBounds_toArray, List.set_cons_zero, List.set_cons_succ, i64_w, i32_w]
    rfl
  refine one_ (i := 19) (N := (some 36)) #[true, true, true, true, true, true, true, true, true, true, true, true, true, true, true, true, true, true, true, true, false, false, false, false, false, false, false, false, false, false, false, false, false, false, false, false, false, false] rfl rfl (one_of HT_.out (by kernel_rfl)) (by decide) (fun K hK => ?_)
  refine goes_ Try.func11 (by kernel_rfl) rfl #[.slice Am m.length cm, .slice AHU m.length cHU] (by rfl) rfl rfl (by (try simp only [List.map_toArray, List.map_cons, List.map_nil]); first | done | rfl) ?_
  with_reducible refine (cobweblaw07_same.calls k Am cm m AHU cHU m true _ (Kd.R_reads' HM.out).2.2 (Kd.R_reads' HM.out).2.1 (Kd.R_reads' HU.out).2.2 (Kd.R_reads' HU.out).2.1 F9.out).mono ?_
  rintro e w6 ⟨rfl, hd⟩
  refine ⟨_, rfl, ?_⟩
  have hb := hd.below
  clear hd
  have HL' := Aside0.mk (Kd.C_below HL.out hb); clear HL; have HL := HL'; clear HL'
  have HS' := Aside0.mk (Kd.R_below HS.out hb); clear HS; have HS := HS'; clear HS'
  have HM' := Aside0.mk (Kd.R_below HM.out hb); clear HM; have HM := HM'; clear HM'
  have HU' := Aside0.mk (Kd.R_below HU.out hb); clear HU; have HU := HU'; clear HU'
  have x0c' := (hb.cell (World.block_lt_of_cell? _ _ x0c)).trans x0c; clear x0c; have x0c := x0c'; clear x0c'
  have x1c' := (hb.cell (World.block_lt_of_cell? _ _ x1c)).trans x1c; clear x1c; have x1c := x1c'; clear x1c'
  have HB' := Aside0.mk (below_step HB.out hb); clear HB; have HB := HB'; clear HB'
  clear hb
  have hHeld2 : _ ∧ _ := ⟨x0c, x1c⟩
  clear hHeld
  refine hK.out _ _ hHeld2 (fun hHeld => ?_)
  clear hK K hHeld2
  refine norm_ (a' := ?_) ?_ ?_
  rotate_left
  · show Act.put _ (some 36) _ = _
    simp only [Act.put, List.setIfInBounds_toArray, List.set_cons_zero, List.set_cons_succ, i64_w, i32_w]
    rfl
  clear HU
  refine pure_ (i := 20) (N := (some 37)) (v := ?_) (a' := ?_) #[true, true, true, true, true, true, true, true, true, true, true, true, true, true, true, true, true, true, true, true, true, false, false, false, false, false, false, false, false, false, false, false, false, false, false, false, false, false] rfl rfl (any_of HT_.out (by kernel_rfl)) (fun _ _ _ h => h) (Or.inl ⟨by rfl, ?_⟩) ?_ ?_
  rotate_left
  · intro w'
    go_simp
    with_reducible rfl
  rotate_left
  · simp only [Act.put, List.setIfInBounds_toArray, List.set_cons_zero, List.set_cons_succ, i64_w, i32_w]
    rfl
  refine pure_ (i := 21) (N := (some 38)) (v := ?_) (a' := ?_) #[true, true, true, true, true, true, true, true, true, true, true, true, true, true, true, true, true, true, true, true, true, true, false, false, false, false, false, false, false, false, false, false, false, false, false, false, false, false] rfl rfl (any_of HT_.out (by kernel_rfl)) (fun _ _ _ h => h) (Or.inl ⟨by rfl, ?_⟩) ?_ ?_
  rotate_left
  · intro w'
    go_simp
    with_reducible rfl
  rotate_left
  · simp only [Act.put, List.setIfInBounds_toArray, List.set_cons_zero, List.set_cons_succ, i64_w, i32_w]
    rfl
  refine pure_ (i := 22) (N := (some 39)) (v := ?_) (a' := ?_) #[true, true, true, true, true, true, true, true, true, true, true, true, true, true, true, true, true, true, true, true, true, true, true, false, false, false, false, false, false, false, false, false, false, false, false, false, false, false] rfl rfl (any_of HT_.out (by kernel_rfl)) (fun _ _ _ h => h) (Or.inl ⟨by rfl, ?_⟩) ?_ ?_
  rotate_left
  · intro w'
    go_simp
    with_reducible rfl
  rotate_left
  · simp only [Act.put, List.setIfInBounds_toArray, List.set_cons_zero, List.set_cons_succ, i64_w, i32_w]
    rfl
  refine one_ (i := 23) (N := (some 40)) #[true, true, true, true, true, true, true, true, true, true, true, true, true, true, true, true, true, true, true, true, true, true, true, true, false, false, false, false, false, false, false, false, false, false, false, false, false, false] rfl rfl (one_of HT_.out (by kernel_rfl)) (by decide) (fun K hK => ?_)
  refine goes_ Try.func13 (by kernel_rfl) rfl #[.slice Am m.length cm, .func (.func 10) #[] #[]] (by rfl) rfl rfl (by (try simp only [List.map_toArray, List.map_cons, List.map_nil]); first | done | rfl) ?_
  with_reducible refine (cobwebref07_Item_13.calls k Am cm m true _ (Kd.R_reads' HM.out).2.2 (Kd.R_reads' HM.out).2.1 F5.out).mono ?_
  rintro e w5 ⟨rfl, hb⟩
  refine ⟨_, rfl, ?_⟩
  have HL' := Aside0.mk (Kd.C_below HL.out hb); clear HL; have HL := HL'; clear HL'
  have HS' := Aside0.mk (Kd.R_below HS.out hb); clear HS; have HS := HS'; clear HS'
  have HM' := Aside0.mk (Kd.R_below HM.out hb); clear HM; have HM := HM'; clear HM'
  have x0c' := (hb.cell (World.block_lt_of_cell? _ _ x0c)).trans x0c; clear x0c; have x0c := x0c'; clear x0c'
  have x1c' := (hb.cell (World.block_lt_of_cell? _ _ x1c)).trans x1c; clear x1c; have x1c := x1c'; clear x1c'
  have HB' := Aside0.mk (below_step HB.out hb); clear HB; have HB := HB'; clear HB'
  clear hb
  have hHeld2 : _ ∧ _ := ⟨x0c, x1c⟩
  clear hHeld
  refine hK.out _ _ hHeld2 (fun hHeld => ?_)
  clear hK K hHeld2
  refine norm_ (a' := ?_) ?_ ?_
  rotate_left
  · show Act.put _ (some 40) _ = _
    simp only [Act.put, List.setIfInBounds_toArray, List.set_cons_zero, List.set_cons_succ, i64_w, i32_w]
    rfl
  clear HM
  refine pure_ (i := 24) (N := (some 41)) (v := ?_) (a' := ?_) #[true, true, true, true, true, true, true, true, true, true, true, true, true, true, true, true, true, true, true, true, true, true, true, true, true, false, false, false, false, false, false, false, false, false, false, false, false, false] rfl rfl (any_of HT_.out (by kernel_rfl)) (fun _ _ _ h => h) (Or.inl ⟨by rfl, ?_⟩) ?_ ?_
  rotate_left
  · intro w'
    go_simp
    with_reducible rfl
  rotate_left
  · simp only [Act.put, List.setIfInBounds_toArray, List.set_cons_zero, List.set_cons_succ, i64_w, i32_w]
    rfl
  refine pure_ (i := 25) (N := (some 42)) (v := ?_) (a' := ?_) #[true, true, true, true, true, true, true, true, true, true, true, true, true, true, true, true, true, true, true, true, true, true, true, true, true, true, false, false, false, false, false, false, false, false, false, false, false, false] rfl rfl (any_of HT_.out (by kernel_rfl)) (fun _ _ _ h => h) (Or.inl ⟨by rfl, ?_⟩) ?_ ?_
  rotate_left
  · intro w'
    go_simp
    with_reducible rfl
  rotate_left
  · simp only [Act.put, List.setIfInBounds_toArray, List.set_cons_zero, List.set_cons_succ, i64_w, i32_w]
    rfl
  refine pure_ (i := 26) (N := (some 43)) (v := ?_) (a' := ?_) #[true, true, true, true, true, true, true, true, true, true, true, true, true, true, true, true, true, true, true, true, true, true, true, true, true, true, true, false, false, false, false, false, false, false, false, false, false, false] rfl rfl (any_of HT_.out (by kernel_rfl)) (fun _ _ _ h => h) (Or.inl ⟨by rfl, ?_⟩) ?_ ?_
  rotate_left
  · intro w'
    go_simp
    with_reducible rfl
  rotate_left
  · simp only [Act.put, List.setIfInBounds_toArray, List.set_cons_zero, List.set_cons_succ, i64_w, i32_w]
    rfl
  refine pure_ (i := 28) (N := (some 45)) (v := ?_) (a' := ?_) #[true, true, true, true, true, true, true, true, true, true, true, true, true, true, true, true, true, true, true, true, true, true, true, true, true, true, true, false, true, false, false, false, false, false, false, false, false, false] rfl rfl (any_of HT_.out (by kernel_rfl)) (fun _ _ _ h => h) (Or.inl ⟨by rfl, ?_⟩) ?_ ?_
  rotate_left
  · intro w'
    go_simp
    with_reducible rfl
  rotate_left
  · simp only [Act.put, List.setIfInBounds_toArray, List.set_cons_zero, List.set_cons_succ, i64_w, i32_w]
    rfl
  refine one_ (i := 27) (N := (some 44)) #[true, true, true, true, true, true, true, true, true, true, true, true, true, true, true, true, true, true, true, true, true, true, true, true, true, true, true, true, true, false, false, false, false, false, false, false, false, false] rfl rfl (one_of HT_.out (by kernel_rfl)) (by decide) (fun K hK => ?_)
  refine goes_ Try.func14 (by kernel_rfl) rfl #[.slice As s.length cs, .slice none 0 0, .func (.func 10) #[] #[]] (by rfl) rfl rfl (by (try simp only [List.map_toArray, List.map_cons, List.map_nil]); first | done | rfl) ?_
  with_reducible refine (merge_nil_right k As cs s s _ (Kd.R_V HS.out) F6.out).mono ?_
  rintro e w5 ⟨v5, rfl, ho, hb⟩
  refine ⟨_, rfl, ?_⟩
  have HL' := Aside0.mk (Kd.C_below HL.out hb); clear HL; have HL := HL'; clear HL'
  have HS' := Aside0.mk (Kd.R_below HS.out hb); clear HS; have HS := HS'; clear HS'
  have x0c' := (hb.cell (World.block_lt_of_cell? _ _ x0c)).trans x0c; clear x0c; have x0c := x0c'; clear x0c'
  have x1c' := (hb.cell (World.block_lt_of_cell? _ _ x1c)).trans x1c; clear x1c; have x1c := x1c'; clear x1c'
  have HB' := Aside0.mk (below_step HB.out hb); clear HB; have HB := HB'; clear HB'
  clear hb
  have HQ := Aside0.mk ho
  clear ho
  obtain ⟨AHQ, cHQ, eHQ⟩ := Kd.R_slice HQ.out
  subst eHQ
  have hHeld2 : _ ∧ _ := ⟨x0c, x1c⟩
  clear hHeld
  refine hK.out _ _ hHeld2 (fun hHeld => ?_)
  clear hK K hHeld2
  refine norm_ (a' := ?_) ?_ ?_
  rotate_left
  · show Act.put _ (some 44) _ = _
    simp only [Act.put, List.setIfInBounds_toArray, List.set_cons_zero, List.set_cons_succ, i64_w, i32_w]
    rfl
  refine one_ (i := 29) (N := (some 46)) #[true, true, true, true, true, true, true, true, true, true, true, true, true, true, true, true, true, true, true, true, true, true, true, true, true, true, true, true, true, true, false, false, false, false, false, false, false, false] rfl rfl (one_of HT_.out (by kernel_rfl)) (by decide) (fun K hK => ?_)
  refine goes_ Try.func11 (by kernel_rfl) rfl #[.slice AHQ s.length cHQ, .slice As s.length cs] (by rfl) rfl rfl (by (try simp only [List.map_toArray, List.map_cons, List.map_nil]); first | done | rfl) ?_
  with_reducible refine (cobweblaw07_same.calls k AHQ cHQ s As cs s true _ (Kd.R_reads' HQ.out).2.2 (Kd.R_reads' HQ.out).2.1 (Kd.R_reads' HS.out).2.2 (Kd.R_reads' HS.out).2.1 F8.out).mono ?_
  rintro e w6 ⟨rfl, hd⟩
  refine ⟨_, rfl, ?_⟩
  have hb := hd.below
  clear hd
  have HL' := Aside0.mk (Kd.C_below HL.out hb); clear HL; have HL := HL'; clear HL'
  have HS' := Aside0.mk (Kd.R_below HS.out hb); clear HS; have HS := HS'; clear HS'
  have HQ' := Aside0.mk (Kd.R_below HQ.out hb); clear HQ; have HQ := HQ'; clear HQ'
  have x0c' := (hb.cell (World.block_lt_of_cell? _ _ x0c)).trans x0c; clear x0c; have x0c := x0c'; clear x0c'
  have x1c' := (hb.cell (World.block_lt_of_cell? _ _ x1c)).trans x1c; clear x1c; have x1c := x1c'; clear x1c'
  have HB' := Aside0.mk (below_step HB.out hb); clear HB; have HB := HB'; clear HB'
  clear hb
  have hHeld2 : _ ∧ _ := ⟨x0c, x1c⟩
  clear hHeld
  refine hK.out _ _ hHeld2 (fun hHeld => ?_)
  clear hK K hHeld2
  refine norm_ (a' := ?_) ?_ ?_
  rotate_left
  · show Act.put _ (some 46) _ = _
    simp only [Act.put, List.setIfInBounds_toArray, List.set_cons_zero, List.set_cons_succ, i64_w, i32_w]
    rfl
  clear HQ
  refine pure_ (i := 30) (N := (some 47)) (v := ?_) (a' := ?_) #[true, true, true, true, true, true, true, true, true, true, true, true, true, true, true, true, true, true, true, true, true, true, true, true, true, true, true, true, true, true, true, false, false, false, false, false, false, false] rfl rfl (any_of HT_.out (by kernel_rfl)) (fun _ _ _ h => h) (Or.inl ⟨by rfl, ?_⟩) ?_ ?_
  rotate_left
  · intro w'
    go_simp
    with_reducible rfl
  rotate_left
  · simp only [Act.put, List.setIfInBounds_toArray, List.set_cons_zero, List.set_cons_succ, i64_w, i32_w]
    rfl
  refine pure_ (i := 31) (N := (some 48)) (v := ?_) (a' := ?_) #[true, true, true, true, true, true, true, true, true, true, true, true, true, true, true, true, true, true, true, true, true, true, true, true, true, true, true, true, true, true, true, true, false, false, false, false, false, false] rfl rfl (any_of HT_.out (by kernel_rfl)) (fun _ _ _ h => h) (Or.inl ⟨by rfl, ?_⟩) ?_ ?_
  rotate_left
  · intro w'
    go_simp
    with_reducible rfl
  rotate_left
  · simp only [Act.put, List.setIfInBounds_toArray, List.set_cons_zero, List.set_cons_succ, i64_w, i32_w]
    rfl
  refine pure_ (i := 32) (N := (some 49)) (v := ?_) (a' := ?_) #[true, true, true, true, true, true, true, true, true, true, true, true, true, true, true, true, true, true, true, true, true, true, true, true, true, true, true, true, true, true, true, true, true, false, false, false, false, false] rfl rfl (any_of HT_.out (by kernel_rfl)) (fun _ _ _ h => h) (Or.inl ⟨by rfl, ?_⟩) ?_ ?_
  rotate_left
  · intro w'
    go_simp
    with_reducible rfl
  rotate_left
  · simp only [Act.put, List.setIfInBounds_toArray, List.set_cons_zero, List.set_cons_succ, i64_w, i32_w]
    rfl
  refine pure_ (i := 34) (N := (some 51)) (v := ?_) (a' := ?_) #[true, true, true, true, true, true, true, true, true, true, true, true, true, true, true, true, true, true, true, true, true, true, true, true, true, true, true, true, true, true, true, true, true, false, true, false, false, false] rfl rfl (any_of HT_.out (by kernel_rfl)) (fun _ _ _ h => h) (Or.inl ⟨by rfl, ?_⟩) ?_ ?_
  rotate_left
  · intro w'
    go_simp
    with_reducible rfl
  rotate_left
  · simp only [Act.put, List.setIfInBounds_toArray, List.set_cons_zero, List.set_cons_succ, i64_w, i32_w]
    rfl
  refine one_ (i := 33) (N := (some 50)) #[true, true, true, true, true, true, true, true, true, true, true, true, true, true, true, true, true, true, true, true, true, true, true, true, true, true, true, true, true, true, true, true, true, true, true, false, false, false] rfl rfl (one_of HT_.out (by kernel_rfl)) (by decide) (fun K hK => ?_)
  refine goes_ Try.func14 (by kernel_rfl) rfl #[.slice none 0 0, .slice As s.length cs, .func (.func 10) #[] #[]] (by rfl) rfl rfl (by (try simp only [List.map_toArray, List.map_cons, List.map_nil]); first | done | rfl) ?_
  with_reducible refine (merge_nil_left k As cs s s _ (Kd.R_V HS.out) F7.out).mono ?_
  rintro e w5 ⟨v5, rfl, ho, hb⟩
  refine ⟨_, rfl, ?_⟩
  have HL' := Aside0.mk (Kd.C_below HL.out hb); clear HL; have HL := HL'; clear HL'
  have HS' := Aside0.mk (Kd.R_below HS.out hb); clear HS; have HS := HS'; clear HS'
  have x0c' := (hb.cell (World.block_lt_of_cell? _ _ x0c)).trans x0c; clear x0c; have x0c := x0c'; clear x0c'
  have x1c' := (hb.cell (World.block_lt_of_cell? _ _ x1c)).trans x1c; clear x1c; have x1c := x1c'; clear x1c'
  have HB' := Aside0.mk (below_step HB.out hb); clear HB; have HB := HB'; clear HB'
  clear hb
  have HQ := Aside0.mk ho
  clear ho
  obtain ⟨AHQ, cHQ, eHQ⟩ := Kd.R_slice HQ.out
  subst eHQ
  have hHeld2 : _ ∧ _ := ⟨x0c, x1c⟩
  clear hHeld
  refine hK.out _ _ hHeld2 (fun hHeld => ?_)
  clear hK K hHeld2
  refine norm_ (a' := ?_) ?_ ?_
  rotate_left
  · show Act.put _ (some 50) _ = _
    simp only [Act.put, List.setIfInBounds_toArray, List.set_cons_zero, List.set_cons_succ, i64_w, i32_w]
    rfl
  refine one_ (i := 35) (N := (some 52)) #[true, true, true, true, true, true, true, true, true, true, true, true, true, true, true, true, true, true, true, true, true, true, true, true, true, true, true, true, true, true, true, true, true, true, true, true, false, false] rfl rfl (one_of HT_.out (by kernel_rfl)) (by decide) (fun K hK => ?_)
  refine goes_ Try.func11 (by kernel_rfl) rfl #[.slice AHQ s.length cHQ, .slice As s.length cs] (by rfl) rfl rfl (by (try simp only [List.map_toArray, List.map_cons, List.map_nil]); first | done | rfl) ?_
  with_reducible refine (cobweblaw07_same.calls k AHQ cHQ s As cs s true _ (Kd.R_reads' HQ.out).2.2 (Kd.R_reads' HQ.out).2.1 (Kd.R_reads' HS.out).2.2 (Kd.R_reads' HS.out).2.1 F8.out).mono ?_
  rintro e w6 ⟨rfl, hd⟩
  refine ⟨_, rfl, ?_⟩
  have hb := hd.below
  clear hd
  have HL' := Aside0.mk (Kd.C_below HL.out hb); clear HL; have HL := HL'; clear HL'
  have HS' := Aside0.mk (Kd.R_below HS.out hb); clear HS; have HS := HS'; clear HS'
  have HQ' := Aside0.mk (Kd.R_below HQ.out hb); clear HQ; have HQ := HQ'; clear HQ'
  have x0c' := (hb.cell (World.block_lt_of_cell? _ _ x0c)).trans x0c; clear x0c; have x0c := x0c'; clear x0c'
  have x1c' := (hb.cell (World.block_lt_of_cell? _ _ x1c)).trans x1c; clear x1c; have x1c := x1c'; clear x1c'
  have HB' := Aside0.mk (below_step HB.out hb); clear HB; have HB := HB'; clear HB'
  clear hb
  have hHeld2 : _ ∧ _ := ⟨x0c, x1c⟩
  clear hHeld
  refine hK.out _ _ hHeld2 (fun hHeld => ?_)
  clear hK K hHeld2
  refine norm_ (a' := ?_) ?_ ?_
  rotate_left
  · show Act.put _ (some 52) _ = _
    simp only [Act.put, List.setIfInBounds_toArray, List.set_cons_zero, List.set_cons_succ, i64_w, i32_w]
    rfl
  clear HQ
  refine pure_ (i := 36) (N := (some 53)) (v := ?_) (a' := ?_) #[true, true, true, true, true, true, true, true, true, true, true, true, true, true, true, true, true, true, true, true, true, true, true, true, true, true, true, true, true, true, true, true, true, true, true, true, true, false] rfl rfl (any_of HT_.out (by kernel_rfl)) (fun _ _ _ h => h) (Or.inl ⟨by rfl, ?_⟩) ?_ ?_
  rotate_left
  · intro w'
    go_simp
    with_reducible rfl
  rotate_left
  · simp only [Act.put, List.setIfInBounds_toArray, List.set_cons_zero, List.set_cons_succ, i64_w, i32_w]
    rfl
  refine pure_ (i := 37) (N := (some 4)) (v := ?_) (a' := ?_) #[true, true, true, true, true, true, true, true, true, true, true, true, true, true, true, true, true, true, true, true, true, true, true, true, true, true, true, true, true, true, true, true, true, true, true, true, true, true] rfl rfl (any_of HT_.out (by kernel_rfl)) (fun _ _ _ h => h) (Or.inl ⟨by rfl, ?_⟩) ?_ ?_
  rotate_left
  · intro w'
    go_simp
    with_reducible rfl
  rotate_left
  · simp only [Act.put, List.setIfInBounds_toArray, List.set_cons_zero, List.set_cons_succ, i64_w, i32_w]
    rfl
  refine done_ (done_of HT_.out (by kernel_rfl)) ?_
  try go_wp2_with fail
  go_ret
  exact ⟨by first | rfl | simp, HB.out⟩
end Go.Proofs.Ytfjhelbmopdbiaa.F
