/- Where a pixel stands in a row of entries: slices.BinarySearchFunc at near.Entry, walked by hand. Conditions: the row rises. -/
import Derived.Test.YtcfgpfappidkaaaF25
import Derived.Test.YtcfgpfappidkaaaB2
import Derived.Laws.Shifts
namespace Go.Proofs.Ytcfgpfappidkaaa.F
open Go.RowKit Go.Proofs.YtcfgpfappidkaaaW.PrintWords Go.Proofs.YtcfgpfappidkaaaW.PrintLast Go.Proofs.YtcfgpfappidkaaaW.PrintMore
set_option linter.unusedVariables false
set_option linter.unusedSimpArgs false
/-- By X, of one X by Y. -/
def lessQ (ax ay bx yb : Int) : Bool := decide (ax < bx) || (decide (ax = bx) && decide (ay < yb))
def cmpQ (ax ay bx yb : Int) : Int := if ax < bx then -1 else if ax > bx then 1 else if ay < yb then -1 else if ay > yb then 1 else 0
theorem cmpQ_neg {ax ay bx yb : Int} : cmpQ ax ay bx yb < 0 ↔ lessQ ax ay bx yb = true := by
  unfold cmpQ lessQ
  simp only [Bool.or_eq_true, Bool.and_eq_true, decide_eq_true_eq]
  repeat' split
  all_goals omega
theorem cmpQ_zero {ax ay bx yb : Int} : cmpQ ax ay bx yb = 0 ↔ ax = bx ∧ ay = yb := by
  unfold cmpQ
  repeat' split
  all_goals omega
theorem lessQ_trans {ax ay bx yb cx cy : Int} (h1 : lessQ ax ay bx yb = true) (h2 : lessQ bx yb cx cy = true) : lessQ ax ay cx cy = true := by
  unfold lessQ at *
  simp only [Bool.or_eq_true, Bool.and_eq_true, decide_eq_true_eq] at *
  omega
theorem compare_eq (a b : Int) : cmp_Compare_int.f a b = some (if a < b then -1 else if a > b then 1 else 0) := by
  unfold cmp_Compare_int.f cmp_isNaN_int.f
  simp
  repeat' split
  all_goals first | rfl | simp_all
theorem or2 (k : Nat) (a b : Int) : cmp_Or_int.f (k + 3) [a, b] = some (if a = 0 then b else a) := by
  unfold cmp_Or_int.f
  simp [cmp_Or_int.l0, rd, wrap64]
  repeat' split
  all_goals first | rfl | (congr 1; omega) | simp_all
theorem at1_eq (x y v qx qy : Int) : near_Index_int_at_1.f 3 x y v qx qy = some (cmpQ x y qx qy) := by
  unfold near_Index_int_at_1.f grid_Cmp.f
  simp only [compare_eq, Option.bind_some, or2 0]
  unfold cmpQ
  repeat' split
  all_goals first | rfl | omega | (exfalso; omega)
theorem cmp_calls (e : S52) (qx qy : Int) (w : World) : Calls Try.prog 25 #[.agg #[.int .i64 e.f0.f0, .int .i64 e.f0.f1, .int .i64 e.f1], .agg #[.int .i64 qx, .int .i64 qy]] w fun x w' => x = .returned (.int .i64 (cmpQ e.f0.f0 e.f0.f1 qx qy)) ∧ Below w.heap.size w w' :=
  near_Index_int_at_1.calls 3 _ _ _ _ _ _ w (at1_eq _ _ _ _ _)
def Rising (l : List S52) : Prop := l.Pairwise (fun a b => lessQ a.f0.f0 a.f0.f1 b.f0.f0 b.f0.f1 = true)
def rank (l : List S52) (qx qy : Int) : Nat := l.countP (fun e => lessQ e.f0.f0 e.f0.f1 qx qy)
def has (l : List S52) (qx qy : Int) : Bool := decide (rank l qx qy < l.length) && decide (cmpQ (rd_T52 l (rank l qx qy)).f0.f0 (rd_T52 l (rank l qx qy)).f0.f1 qx qy = 0)
theorem rank_le (l : List S52) (qx qy : Int) : rank l qx qy ≤ l.length := List.countP_le_length
theorem rd_get (l : List S52) (i : Nat) (h : i < l.length) : rd_T52 l (i : Int) = l[i] := by
  unfold rd_T52
  rw [Int.toNat_natCast, List.getD_eq_getElem?_getD, List.getElem?_eq_getElem h]
  rfl
theorem rank_of (l : List S52) (qx qy : Int) (i : Nat) (hi : i ≤ l.length) (h1 : ∀ t, t < i → lessQ (rd_T52 l (t : Int)).f0.f0 (rd_T52 l (t : Int)).f0.f1 qx qy = true) (h2 : ∀ t, i ≤ t → t < l.length → lessQ (rd_T52 l (t : Int)).f0.f0 (rd_T52 l (t : Int)).f0.f1 qx qy = false) : rank l qx qy = i := by
  unfold rank
  rw [← List.take_append_drop i l, List.countP_append]
  have a : (l.take i).countP (fun e => lessQ e.f0.f0 e.f0.f1 qx qy) = i := by
    have : (l.take i).countP (fun e => lessQ e.f0.f0 e.f0.f1 qx qy) = (l.take i).length := by
      rw [List.countP_eq_length]
      intro x hx
      obtain ⟨t, ht, rfl⟩ := List.getElem_of_mem hx
      rw [List.length_take] at ht
      rw [List.getElem_take, ← rd_get l t (by omega)]
      exact h1 t (by omega)
    rw [this, List.length_take]; omega
  have b : (l.drop i).countP (fun e => lessQ e.f0.f0 e.f0.f1 qx qy) = 0 := by
    rw [List.countP_eq_zero]
    intro x hx
    obtain ⟨t, ht, rfl⟩ := List.getElem_of_mem hx
    rw [List.length_drop] at ht
    rw [List.getElem_drop, ← rd_get l (i + t) (by omega), h2 (i + t) (by omega) (by omega)]
    simp
  rw [a, b]; rfl
theorem mono_rd {l : List S52} (hs : Rising l) {qx qy : Int} (a b : Nat) (hab : a ≤ b) (hb : b < l.length) (h : lessQ (rd_T52 l (b : Int)).f0.f0 (rd_T52 l (b : Int)).f0.f1 qx qy = true) : lessQ (rd_T52 l (a : Int)).f0.f0 (rd_T52 l (a : Int)).f0.f1 qx qy = true := by
  rcases Nat.lt_or_eq_of_le hab with hlt | rfl
  · rw [rd_get l a (by omega)]
    rw [rd_get l b hb] at h
    exact lessQ_trans (List.pairwise_iff_getElem.1 hs a b (by omega) hb hlt) h
  · exact h
def bsearch.T5 : Bool × List (List Nat × List Nat) := (true, [([], []), ([], []), ([], []), ([1, 2], [1, 2]), ([3], [3]), ([], []), ([0, 4, 5], [0, 4, 5]), ([6], [6])])
def bsearch.B5 : List Nat := [0, 0, 0, 6, 14, 0, 63, 127]
theorem bsearch.tab5 : rtab .any (opsOf Try.f24 5) = bsearch.T5 := by kernel_rfl
theorem bsearch.bits5 : waitsOk bsearch.T5.2 bsearch.B5 = true := by kernel_rfl
def bsearch.T8 : Bool × List (List Nat × List Nat) := (true, [([], []), ([], []), ([], []), ([1, 2], [1, 2]), ([3], [3]), ([4], [4]), ([4], [4]), ([4], [4]), ([6, 7, 4], [4, 6, 7]), ([8, 4], [4, 8]), ([4], [4]), ([5, 9, 10, 4, 4], [4, 5, 9, 10]), ([11, 4], [4, 11]), ([4, 12], [4, 12]), ([0, 11, 0], [0]), ([13, 14, 0, 1, 2, 3, 4, 5, 6, 7, 8, 9, 10, 11, 12, 13, 14], [13])])
def bsearch.B8 : List Nat := [0, 0, 0, 6, 14, 30, 30, 30, 222, 478, 30, 2046, 4094, 8190, 4095, 32767]
theorem bsearch.tab8 : rtab .any (opsOf Try.f24 8) = bsearch.T8 := by kernel_rfl
theorem bsearch.bits8 : waitsOk bsearch.T8.2 bsearch.B8 = true := by kernel_rfl
/-- A pixel of the call's own, in block g. -/
structure TgtAt (w : World) (g : Nat) (qx qy : Int) : Prop where
  lt : g < w.heap.size
  c0 : w.cell? ⟨g, 0, none⟩ = some (.int .i64 qx)
  c1 : w.cell? ⟨g, 1, none⟩ = some (.int .i64 qy)
theorem TgtAt.new (w : World) (qx qy : Int) : TgtAt (w.alloc (.cells #[.int .i64 qx, .int .i64 qy] 35)) w.heap.size qx qy := ⟨blk_lt (heap_alloc_new w _), blk_cell (heap_alloc_new w _) 0, blk_cell (heap_alloc_new w _) 1⟩
theorem TgtAt.below {w w' : World} {g : Nat} {qx qy : Int} (h : TgtAt w g qx qy) (hb : Below w.heap.size w w') : TgtAt w' g qx qy :=
  ⟨Nat.lt_of_lt_of_le h.lt hb.size, (hb.cell (p := ⟨g, 0, none⟩) h.lt).trans h.c0, (hb.cell (p := ⟨g, 1, none⟩) h.lt).trans h.c1⟩
/-- An entry at a place. -/
structure EntAt (w : World) (p : Addr) (y : S52) : Prop where
  c0 : w.cell? p = some (.int .i64 y.f0.f0)
  c1 : w.cell? ⟨p.block, p.off + 1, none⟩ = some (.int .i64 y.f0.f1)
  c2 : w.cell? ⟨p.block, p.off + 2, none⟩ = some (.int .i64 y.f1)
theorem EntAt.below {w w' : World} {b : Nat} {p : Addr} {y : S52} (h : EntAt w p y) (hb : Below b w w') (hp : p.block < b) : EntAt w' p y :=
  ⟨(hb.cell (p := p) hp).trans h.c0, (hb.cell (p := ⟨p.block, p.off + 1, none⟩) hp).trans h.c1, (hb.cell (p := ⟨p.block, p.off + 2, none⟩) hp).trans h.c2⟩
theorem EntAt.lt {w : World} {p : Addr} {y : S52} (h : EntAt w p y) : p.block < w.heap.size := World.block_lt_of_cell? _ _ h.c0
theorem ent_of {w : World} {A : Option Addr} {n : Nat} {xs : List S52} (h : Kd.C k52 w A n xs) (i : Int) (h0 : 0 ≤ i) (h1 : i < n) : ∃ ad, A = some ad ∧ EntAt w (ad.add (i.toNat * 3)) (rd_T52 xs i) := by
  obtain ⟨ad, e, c0, c1, c2⟩ := at_T52 h i h0 h1
  exact ⟨ad, e, c0, c1, c2⟩
set_option maxHeartbeats 4000000 in
set_option maxRecDepth 100000 in
theorem bsearch.calls (A : Option Addr) (c : Nat) (l : List S52) (qx qy : Int) (w : World) (hr : Kd.C k52 w A l.length l) (hc : l.length ≤ c) (hs : Rising l) (hbig : l.length < 4611686018427387904) :
    Calls Try.prog 24 #[.slice A l.length c, .agg #[.int .i64 qx, .int .i64 qy], .func (.func 25) #[] #[]] w fun e w' => e = .returned (.tuple #[.int .i64 (rank l qx qy : Nat), .bool (has l qx qy)]) ∧ Below w.heap.size w w' := by
  have HR := Aside0.mk hr
  have HS := Aside0.mk hs
  have B0 := Aside0.mk (Below.refl w.heap.size w)
  generalize hk : rank l qx qy = rk
  generalize hh : has l qx qy = hz
  have HK := Aside0.mk hk
  have HH := Aside0.mk hh
  obtain ⟨n, hn⟩ : ∃ n, n = l.length := ⟨_, rfl⟩
  rw [← hn]
  rw [← hn] at hbig
  have HN := Aside0.mk hn
  clear hr hs hk hh hn hc
  have hu62 := Try.underlying62
  have u62 := run_underlying Try.underlying62
  have u3 := run_underlying Try.underlying3
  have u4 := run_underlying Try.underlying4
  go_enter Try.func24, Try.ntmps24
  go_wp2
  have T0 : Aside0 (TgtAt (w.alloc (.cells #[.int .i64 qx, .int .i64 qy] 35)) w.heap.size qx qy) := Aside0.mk (TgtAt.new _ _ _)
  have B1 : Aside0 (Below w.heap.size w (w.alloc (.cells #[.int .i64 qx, .int .i64 qy] 35))) := Aside0.mk (below_alloc (Below.refl _ _) _)
  generalize hg : w.heap.size = g at *
  go_loopg [9, 10] n (fun kx s9 s10 wr => ∃ lo hi : Nat, s9 = .int .i64 lo ∧ s10 = .int .i64 hi ∧ lo ≤ hi ∧ hi ≤ n ∧ hi - lo ≤ kx ∧ Aside0 (Below g w wr) ∧ Aside0 (TgtAt wr g qx qy) ∧
    Aside0 ((∀ t, t < lo → lessQ (rd_T52 l (t : Nat)).f0.f0 (rd_T52 l (t : Nat)).f0.f1 qx qy = true) ∧ (∀ t, hi ≤ t → t < n → lessQ (rd_T52 l (t : Nat)).f0.f0 (rd_T52 l (t : Nat)).f0.f1 qx qy = false)))
  case atStart => exact ⟨0, n, rfl, rfl, Nat.zero_le _, Nat.le_refl _, by omega, B1, T0, ⟨fun t ht => absurd ht (Nat.not_lt_zero _), fun t h1 h2 => by omega⟩⟩
  case round =>
    clear B1 T0
    obtain ⟨lo, hi, rfl, rfl, hlh, hin, hgk, S1, TT, I⟩ := hrel
    by_cases hlt : lo < hi
    · obtain ⟨m, hm⟩ : ∃ m : Nat, m = (lo + hi) / 2 := ⟨_, rfl⟩
      have hmi : ((lo : Int) + (hi : Int)) / 2 = (m : Int) := by rw [hm]; omega
      have hmn : m < n := by omega
      have hwm : IntKind.i64.wrap (m : Int) = (m : Int) := by rw [IntKind.wrap_i64]; omega
      obtain ⟨ad, e1, ee⟩ := ent_of HR.out (m : Int) (by omega) (by have := HN.out; omega)
      cases e1
      rw [Int.toNat_natCast] at ee
      have EE := Aside0.mk (ee.below (b := g) S1.out (by have := ee.lt; omega))
      clear ee
      generalize hy : rd_T52 l (m : Int) = y at EE
      have Y := Aside0.mk hy
      clear hy
      go_wp2
      unfold Oper.wp execOp
      simp [go_sem, hmi]
      go_wp2
      unfold Oper.wp execOp
      simp [go_sem, hwm]
      go_wp2_with fail
      have HM := Aside0.mk hm
      clear hm hmi hwm
      have q1 : (0 ≤ (m : Int)) = True := eq_true (by omega)
      have q2 : ((m : Int) < (n : Int)) = True := eq_true (by omega)
      have hb := below_drew (Below.refl wr.heap.size wr)
      have hh : EntAt wr.drew (ad.add (m * 3)) y ∧ TgtAt wr.drew g qx qy := ⟨EE.out.below hb EE.out.lt, TT.out.below hb⟩
      have S2 := Aside0.mk (S1.out.trans (hb.mono (Nat.le_of_lt TT.out.lt)))
      refine start_ (n := 8) (S := fun W => EntAt W (ad.add (m * 3)) y ∧ TgtAt W g qx qy) (ds := []) #[false, false, false, false, false, false, false, false] (by kernel_rfl) rfl rfl hh (fun hHeld => ?_); refine with_tabW bsearch.tab5 bsearch.bits5 (fun HT_ HW_ => ?_)
      generalize wr.drew = w1 at hHeld S2
      clear hh hb EE TT S1
      refine pure_ (i := 0) (N := (some 24)) (v := ?_) (a' := ?_) #[true, false, false, false, false, false, false, false] rfl rfl (any_of HT_.out (by kernel_rfl)) (fun _ _ _ h => h) (Or.inl ⟨by rfl, ?_⟩) ?_ ?_
      rotate_left
      · intro w'
        go_simp
        with_reducible rfl
      rotate_left
      · simp only [Act.put, List.setIfInBounds_toArray, List.set_cons_zero, List.set_cons_succ, i64_w, i32_w]
        rfl
      refine pure_ (i := 1) (N := (some 25)) (v := ?_) (a' := ?_) #[true, true, false, false, false, false, false, false] rfl rfl (any_of HT_.out (by kernel_rfl)) (fun _ _ _ h => h) (Or.inl ⟨by rfl, ?_⟩) ?_ ?_
      rotate_left
      · intro w'
        go_simp
        with_reducible rfl
      rotate_left
      · simp only [Act.put, List.setIfInBounds_toArray, List.set_cons_zero, List.set_cons_succ, i64_w, i32_w]
        rfl
      refine pure_ (i := 2) (N := (some 26)) (v := ?_) (a' := ?_) #[true, true, true, false, false, false, false, false] rfl rfl (any_of HT_.out (by kernel_rfl)) (fun _ _ _ h => h) (Or.inl ⟨by rfl, ?_⟩) ?_ ?_
      rotate_left
      · intro w'
        go_simp
        with_reducible rfl
      rotate_left
      · simp only [Act.put, List.setIfInBounds_toArray, List.set_cons_zero, List.set_cons_succ, i64_w, i32_w]
        rfl
      refine pure_ (i := 3) (N := (some 27)) (v := ?_) (a' := ?_) #[true, true, true, true, false, false, false, false] rfl rfl (any_of HT_.out (by kernel_rfl)) (fun _ _ _ h => h) (Or.inl ⟨by rfl, ?_⟩) ?_ ?_
      rotate_left
      · intro w'
        go_simp
        with_reducible rfl
      rotate_left
      · simp only [Act.put, List.setIfInBounds_toArray, List.set_cons_zero, List.set_cons_succ, i64_w, i32_w]
        rfl
      refine take_ (i := 4) (N := (some 28)) (v := ?_) (a' := ?_) #[true, true, true, true, true, false, false, false] rfl rfl (take_ofW HT_.out HW_.out (by kernel_rfl)) (fun _ _ _ h => h) (Or.inl ⟨by rfl, ?_⟩) hHeld ?_ ?_
      rotate_left
      · rintro w' ⟨s, t⟩
        have h0 := s.c0
        have h1 := s.c1
        have h2 := s.c2
        go_simp
        with_reducible rfl
      rotate_left
      · simp only [Act.put, List.setIfInBounds_toArray, List.set_cons_zero, List.set_cons_succ, i64_w, i32_w]
        rfl
      refine take_ (i := 5) (N := (some 29)) (v := ?_) (a' := ?_) #[true, true, true, true, true, true, false, false] rfl rfl (take_ofW HT_.out HW_.out (by kernel_rfl)) (fun _ _ _ h => h) (Or.inl ⟨by rfl, ?_⟩) hHeld ?_ ?_
      rotate_left
      · rintro w' ⟨s, t⟩
        have h0 := t.c0
        have h1 := t.c1
        go_simp
        with_reducible rfl
      rotate_left
      · simp only [Act.put, List.setIfInBounds_toArray, List.set_cons_zero, List.set_cons_succ, i64_w, i32_w]
        rfl
      refine one_ (i := 6) (N := (some 30)) #[true, true, true, true, true, true, true, false] rfl rfl (one_of HT_.out (by kernel_rfl)) (by decide) (fun K hK => ?_)
      refine goesx_ Try.func25 (by kernel_rfl) rfl #[.agg #[.int .i64 y.f0.f0, .int .i64 y.f0.f1, .int .i64 y.f1], .agg #[.int .i64 qx, .int .i64 qy]] (by rfl) rfl rfl (by rfl) (by (try simp only [List.map_toArray, List.map_cons, List.map_nil]); first | done | rfl) ?_
      with_reducible refine (cmp_calls y qx qy _).mono ?_
      rintro e w1b ⟨rfl, hb⟩
      refine ⟨_, rfl, ?_⟩
      have S3 := Aside0.mk (S2.out.trans (hb.mono (Nat.le_of_lt hHeld.2.lt)))
      have hHeld2 : _ ∧ _ := ⟨hHeld.1.below hb hHeld.1.lt, hHeld.2.below hb⟩
      clear hHeld S2 hb
      refine hK.out _ _ hHeld2 (fun hHeld => ?_)
      clear hK K hHeld2
      refine norm_ (a' := ?_) ?_ ?_
      rotate_left
      · show Act.put _ (some 30) _ = _
        simp only [Act.put, List.setIfInBounds_toArray, List.set_cons_zero, List.set_cons_succ, i64_w, i32_w]
        rfl
      refine pure_ (i := 7) (N := (some 31)) (v := ?_) (a' := ?_) #[true, true, true, true, true, true, true, true] rfl rfl (any_of HT_.out (by kernel_rfl)) (fun _ _ _ h => h) (Or.inl ⟨by rfl, ?_⟩) ?_ ?_
      rotate_left
      · intro w'
        go_simp
        with_reducible rfl
      rotate_left
      · simp only [Act.put, List.setIfInBounds_toArray, List.set_cons_zero, List.set_cons_succ, i64_w, i32_w]
        rfl
      refine done_ (done_of HT_.out (by kernel_rfl)) ?_
      by_cases hyx : cmpQ y.f0.f0 y.f0.f1 qx qy < 0
      · have hd : decide (cmpQ y.f0.f0 y.f0.f1 qx qy < 0) = true := decide_eq_true hyx
        go_wp2
        go_roundg (hi - (m + 1))
        case measure => have := HM.out; omega
        case rel =>
          refine ⟨m + 1, hi, by first | rfl | simp | (congr 1; omega), rfl, by have := HM.out; omega, hin, Nat.le_refl _, S3, ⟨hHeld.2⟩, ⟨fun t ht => ?_, I.out.2⟩⟩
          exact mono_rd HS.out t m (by omega) (by have := HN.out; omega) (by rw [Y.out]; exact cmpQ_neg.1 hyx)
      · have hd : decide (cmpQ y.f0.f0 y.f0.f1 qx qy < 0) = false := decide_eq_false hyx
        go_wp2
        go_roundg (m - lo)
        case measure => have := HM.out; omega
        case rel =>
          refine ⟨lo, m, rfl, rfl, by have := HM.out; omega, by have := HM.out; omega, Nat.le_refl _, S3, ⟨hHeld.2⟩, ⟨I.out.1, fun t ht htn => ?_⟩⟩
          cases hq : lessQ (rd_T52 l (t : Int)).f0.f0 (rd_T52 l (t : Int)).f0.f1 qx qy with
          | false => rfl
          | true =>
            have h1 := mono_rd HS.out m t ht (by have := HN.out; omega) hq
            rw [Y.out] at h1
            exact absurd (cmpQ_neg.2 h1) (by omega)
    · obtain rfl : hi = lo := by omega
      obtain rfl : rk = hi := by rw [← HK.out]; exact rank_of l qx qy hi (by have := HN.out; omega) I.out.1 (fun t h1 h2 => I.out.2 t h1 (by have := HN.out; omega))
      by_cases hn : rk < n
      · have hdn : decide ((rk : Int) < (n : Int)) = true := decide_eq_true (by omega)
        have q1 : (0 ≤ (rk : Int)) = True := eq_true (by omega)
        have q2 : ((rk : Int) < (n : Int)) = True := eq_true (by omega)
        obtain ⟨ad, e1, ee⟩ := ent_of HR.out (rk : Int) (by omega) (by have := HN.out; omega)
        cases e1
        rw [Int.toNat_natCast] at ee
        have EE := Aside0.mk (ee.below (b := g) S1.out (by have := ee.lt; omega))
        clear ee
        generalize hy : rd_T52 l (rk : Int) = y at EE
        have Y := Aside0.mk hy
        clear hy
        go_wp2_with fail
        have hb := below_drew (Below.refl wr.heap.size wr)
        have hh : EntAt wr.drew (ad.add (rk * 3)) y ∧ TgtAt wr.drew g qx qy := ⟨EE.out.below hb EE.out.lt, TT.out.below hb⟩
        have S2 := Aside0.mk (S1.out.trans (hb.mono (Nat.le_of_lt TT.out.lt)))
        refine start_ (n := 16) (S := fun W => EntAt W (ad.add (rk * 3)) y ∧ TgtAt W g qx qy) (ds := []) #[false, false, false, false, false, false, false, false, false, false, false, false, false, false, false, false] (by kernel_rfl) rfl rfl hh (fun hHeld => ?_); refine with_tabW bsearch.tab8 bsearch.bits8 (fun HT_ HW_ => ?_)
        generalize wr.drew = w1 at hHeld S2
        clear hh hb EE TT S1
        refine pure_ (i := 0) (N := (some 35)) (v := ?_) (a' := ?_) #[true, false, false, false, false, false, false, false, false, false, false, false, false, false, false, false] rfl rfl (any_of HT_.out (by kernel_rfl)) (fun _ _ _ h => h) (Or.inl ⟨by rfl, ?_⟩) ?_ ?_
        rotate_left
        · intro w'
          go_simp
          with_reducible rfl
        rotate_left
        · simp only [Act.put, List.setIfInBounds_toArray, List.set_cons_zero, List.set_cons_succ, i64_w, i32_w]
          rfl
        refine pure_ (i := 1) (N := (some 36)) (v := ?_) (a' := ?_) #[true, true, false, false, false, false, false, false, false, false, false, false, false, false, false, false] rfl rfl (any_of HT_.out (by kernel_rfl)) (fun _ _ _ h => h) (Or.inl ⟨by rfl, ?_⟩) ?_ ?_
        rotate_left
        · intro w'
          go_simp
          with_reducible rfl
        rotate_left
        · simp only [Act.put, List.setIfInBounds_toArray, List.set_cons_zero, List.set_cons_succ, i64_w, i32_w]
          rfl
        refine pure_ (i := 2) (N := (some 37)) (v := ?_) (a' := ?_) #[true, true, true, false, false, false, false, false, false, false, false, false, false, false, false, false] rfl rfl (any_of HT_.out (by kernel_rfl)) (fun _ _ _ h => h) (Or.inl ⟨by rfl, ?_⟩) ?_ ?_
        rotate_left
        · intro w'
          go_simp
          with_reducible rfl
        rotate_left
        · simp only [Act.put, List.setIfInBounds_toArray, List.set_cons_zero, List.set_cons_succ, i64_w, i32_w]
          rfl
        refine pure_ (i := 3) (N := (some 38)) (v := ?_) (a' := ?_) #[true, true, true, true, false, false, false, false, false, false, false, false, false, false, false, false] rfl rfl (any_of HT_.out (by kernel_rfl)) (fun _ _ _ h => h) (Or.inl ⟨by rfl, ?_⟩) ?_ ?_
        rotate_left
        · intro w'
          go_simp
          with_reducible rfl
        rotate_left
        · simp only [Act.put, List.setIfInBounds_toArray, List.set_cons_zero, List.set_cons_succ, i64_w, i32_w]
          rfl
        refine pure_ (i := 4) (N := (some 39)) (v := ?_) (a' := ?_) #[true, true, true, true, true, false, false, false, false, false, false, false, false, false, false, false] rfl rfl (any_of HT_.out (by kernel_rfl)) (fun _ _ _ h => h) (Or.inl ⟨by rfl, ?_⟩) ?_ ?_
        rotate_left
        · intro w'
          go_simp
          with_reducible rfl
        rotate_left
        · simp only [Act.put, List.setIfInBounds_toArray, List.set_cons_zero, List.set_cons_succ, i64_w, i32_w]
          rfl
        refine pure_ (i := 5) (N := (some 40)) (v := ?_) (a' := ?_) #[true, true, true, true, true, true, false, false, false, false, false, false, false, false, false, false] rfl rfl (any_of HT_.out (by kernel_rfl)) (fun _ _ _ h => h) (Or.inl ⟨by rfl, ?_⟩) ?_ ?_
        rotate_left
        · intro w'
          go_simp
          with_reducible rfl
        rotate_left
        · simp only [Act.put, List.setIfInBounds_toArray, List.set_cons_zero, List.set_cons_succ, i64_w, i32_w]
          rfl
        refine pure_ (i := 6) (N := (some 41)) (v := ?_) (a' := ?_) #[true, true, true, true, true, true, true, false, false, false, false, false, false, false, false, false] rfl rfl (any_of HT_.out (by kernel_rfl)) (fun _ _ _ h => h) (Or.inl ⟨by rfl, ?_⟩) ?_ ?_
        rotate_left
        · intro w'
          go_simp
          with_reducible rfl
        rotate_left
        · simp only [Act.put, List.setIfInBounds_toArray, List.set_cons_zero, List.set_cons_succ, i64_w, i32_w]
          rfl
        refine pure_ (i := 7) (N := (some 42)) (v := ?_) (a' := ?_) #[true, true, true, true, true, true, true, true, false, false, false, false, false, false, false, false] rfl rfl (any_of HT_.out (by kernel_rfl)) (fun _ _ _ h => h) (Or.inl ⟨by rfl, ?_⟩) ?_ ?_
        rotate_left
        · intro w'
          go_simp
          with_reducible rfl
        rotate_left
        · simp only [Act.put, List.setIfInBounds_toArray, List.set_cons_zero, List.set_cons_succ, i64_w, i32_w]
          rfl
        refine pure_ (i := 8) (N := (some 43)) (v := ?_) (a' := ?_) #[true, true, true, true, true, true, true, true, true, false, false, false, false, false, false, false] rfl rfl (any_of HT_.out (by kernel_rfl)) (fun _ _ _ h => h) (Or.inl ⟨by rfl, ?_⟩) ?_ ?_
        rotate_left
        · intro w'
          go_simp
          with_reducible rfl
        rotate_left
        · simp only [Act.put, List.setIfInBounds_toArray, List.set_cons_zero, List.set_cons_succ, i64_w, i32_w]
          rfl
        refine take_ (i := 9) (N := (some 44)) (v := ?_) (a' := ?_) #[true, true, true, true, true, true, true, true, true, true, false, false, false, false, false, false] rfl rfl (take_ofW HT_.out HW_.out (by kernel_rfl)) (fun _ _ _ h => h) (Or.inl ⟨by rfl, ?_⟩) hHeld ?_ ?_
        rotate_left
        · rintro w' ⟨s, t⟩
          have h0 := s.c0
          have h1 := s.c1
          have h2 := s.c2
          go_simp
          with_reducible rfl
        rotate_left
        · simp only [Act.put, List.setIfInBounds_toArray, List.set_cons_zero, List.set_cons_succ, i64_w, i32_w]
          rfl
        refine take_ (i := 10) (N := (some 45)) (v := ?_) (a' := ?_) #[true, true, true, true, true, true, true, true, true, true, true, false, false, false, false, false] rfl rfl (take_ofW HT_.out HW_.out (by kernel_rfl)) (fun _ _ _ h => h) (Or.inl ⟨by rfl, ?_⟩) hHeld ?_ ?_
        rotate_left
        · rintro w' ⟨s, t⟩
          have h0 := t.c0
          have h1 := t.c1
          go_simp
          with_reducible rfl
        rotate_left
        · simp only [Act.put, List.setIfInBounds_toArray, List.set_cons_zero, List.set_cons_succ, i64_w, i32_w]
          rfl
        refine one_ (i := 11) (N := (some 46)) #[true, true, true, true, true, true, true, true, true, true, true, true, false, false, false, false] rfl rfl (one_of HT_.out (by kernel_rfl)) (by decide) (fun K hK => ?_)
        refine goesx_ Try.func25 (by kernel_rfl) rfl #[.agg #[.int .i64 y.f0.f0, .int .i64 y.f0.f1, .int .i64 y.f1], .agg #[.int .i64 qx, .int .i64 qy]] (by rfl) rfl rfl (by rfl) (by (try simp only [List.map_toArray, List.map_cons, List.map_nil]); first | done | rfl) ?_
        with_reducible refine (cmp_calls y qx qy _).mono ?_
        rintro e w1b ⟨rfl, hb⟩
        refine ⟨_, rfl, ?_⟩
        have S3 := Aside0.mk (S2.out.trans (hb.mono (Nat.le_of_lt hHeld.2.lt)))
        have hHeld2 : _ ∧ _ := ⟨hHeld.1.below hb hHeld.1.lt, hHeld.2.below hb⟩
        clear hHeld S2 hb
        refine hK.out _ _ hHeld2 (fun hHeld => ?_)
        clear hK K hHeld2
        refine norm_ (a' := ?_) ?_ ?_
        rotate_left
        · show Act.put _ (some 46) _ = _
          simp only [Act.put, List.setIfInBounds_toArray, List.set_cons_zero, List.set_cons_succ, i64_w, i32_w]
          rfl
        refine pure_ (i := 12) (N := (some 47)) (v := ?_) (a' := ?_) #[true, true, true, true, true, true, true, true, true, true, true, true, true, false, false, false] rfl rfl (any_of HT_.out (by kernel_rfl)) (fun _ _ _ h => h) (Or.inl ⟨by rfl, ?_⟩) ?_ ?_
        rotate_left
        · intro w'
          go_simp
          with_reducible rfl
        rotate_left
        · simp only [Act.put, List.setIfInBounds_toArray, List.set_cons_zero, List.set_cons_succ, i64_w, i32_w]
          rfl
        refine pure_ (i := 13) (N := (some 48)) (v := ?_) (a' := ?_) #[true, true, true, true, true, true, true, true, true, true, true, true, true, true, false, false] rfl rfl (any_of HT_.out (by kernel_rfl)) (fun _ _ _ h => h) (Or.inl ⟨by rfl, ?_⟩) ?_ ?_
        rotate_left
        · intro w'
          go_simp
          with_reducible rfl
        rotate_left
        · simp only [Act.put, List.setIfInBounds_toArray, List.set_cons_zero, List.set_cons_succ, i64_w, i32_w]
          rfl
        refine pure_ (i := 14) (N := (some 6)) (v := ?_) (a' := ?_) #[true, true, true, true, true, true, true, true, true, true, true, true, true, true, true, false] rfl rfl (any_of HT_.out (by kernel_rfl)) (fun _ _ _ h => h) (Or.inl ⟨by rfl, ?_⟩) ?_ ?_
        rotate_left
        · intro w'
          go_simp
          with_reducible rfl
        rotate_left
        · simp only [Act.put, List.setIfInBounds_toArray, List.set_cons_zero, List.set_cons_succ, i64_w, i32_w]
          rfl
        refine pure_ (i := 15) (N := (some 7)) (v := ?_) (a' := ?_) #[true, true, true, true, true, true, true, true, true, true, true, true, true, true, true, true] rfl rfl (any_of HT_.out (by kernel_rfl)) (fun _ _ _ h => h) (Or.inl ⟨by rfl, ?_⟩) ?_ ?_
        rotate_left
        · intro w'
          go_simp
          with_reducible rfl
        rotate_left
        · simp only [Act.put, List.setIfInBounds_toArray, List.set_cons_zero, List.set_cons_succ, i64_w, i32_w]
          rfl
        refine done_ (done_of HT_.out (by kernel_rfl)) ?_
        go_wp2_with fail
        go_ret2
        refine ⟨?_, hg ▸ S3.out⟩
        rw [← HH.out]
        unfold has
        rw [HK.out, Y.out, ← HN.out, decide_eq_true hn]
        rfl
      · have hdn : decide ((rk : Int) < (n : Int)) = false := decide_eq_false (by omega)
        go_wp2_with fail
        have hb := below_drew (Below.refl wr.heap.size wr)
        refine start_ (n := 16) (S := fun _ => True) (ds := []) #[false, false, false, false, false, false, false, false, false, false, false, false, false, false, false, false] (by kernel_rfl) rfl rfl trivial (fun hHeld => ?_); refine with_tabW bsearch.tab8 bsearch.bits8 (fun HT_ HW_ => ?_)
        have S3 := Aside0.mk (S1.out.trans (hb.mono (Nat.le_of_lt TT.out.lt)))
        generalize wr.drew = w1 at hHeld S3
        clear hb TT S1
        refine pure_ (i := 0) (N := (some 35)) (v := ?_) (a' := ?_) #[true, false, false, false, false, false, false, false, false, false, false, false, false, false, false, false] rfl rfl (any_of HT_.out (by kernel_rfl)) (fun _ _ _ h => h) (Or.inl ⟨by rfl, ?_⟩) ?_ ?_
        rotate_left
        · intro w'
          go_simp
          with_reducible rfl
        rotate_left
        · simp only [Act.put, List.setIfInBounds_toArray, List.set_cons_zero, List.set_cons_succ, i64_w, i32_w]
          rfl
        refine pure_ (i := 1) (N := (some 36)) (v := ?_) (a' := ?_) #[true, true, false, false, false, false, false, false, false, false, false, false, false, false, false, false] rfl rfl (any_of HT_.out (by kernel_rfl)) (fun _ _ _ h => h) (Or.inl ⟨by rfl, ?_⟩) ?_ ?_
        rotate_left
        · intro w'
          go_simp
          with_reducible rfl
        rotate_left
        · simp only [Act.put, List.setIfInBounds_toArray, List.set_cons_zero, List.set_cons_succ, i64_w, i32_w]
          rfl
        refine pure_ (i := 2) (N := (some 37)) (v := ?_) (a' := ?_) #[true, true, true, false, false, false, false, false, false, false, false, false, false, false, false, false] rfl rfl (any_of HT_.out (by kernel_rfl)) (fun _ _ _ h => h) (Or.inl ⟨by rfl, ?_⟩) ?_ ?_
        rotate_left
        · intro w'
          go_simp
          with_reducible rfl
        rotate_left
        · simp only [Act.put, List.setIfInBounds_toArray, List.set_cons_zero, List.set_cons_succ, i64_w, i32_w]
          rfl
        refine pure_ (i := 3) (N := (some 38)) (v := ?_) (a' := ?_) #[true, true, true, true, false, false, false, false, false, false, false, false, false, false, false, false] rfl rfl (any_of HT_.out (by kernel_rfl)) (fun _ _ _ h => h) (Or.inl ⟨by rfl, ?_⟩) ?_ ?_
        rotate_left
        · intro w'
          go_simp
          with_reducible rfl
        rotate_left
        · simp only [Act.put, List.setIfInBounds_toArray, List.set_cons_zero, List.set_cons_succ, i64_w, i32_w]
          rfl
        refine pure_ (i := 4) (N := (some 39)) (v := ?_) (a' := ?_) #[true, true, true, true, true, false, false, false, false, false, false, false, false, false, false, false] rfl rfl (any_of HT_.out (by kernel_rfl)) (fun _ _ _ h => h) (Or.inl ⟨by rfl, ?_⟩) ?_ ?_
        rotate_left
        · intro w'
          go_simp
          with_reducible rfl
        rotate_left
        · simp only [Act.put, List.setIfInBounds_toArray, List.set_cons_zero, List.set_cons_succ, i64_w, i32_w]
          rfl
        refine pure_ (i := 5) (N := (some 40)) (v := undef) (a' := ?_) #[true, true, true, true, true, true, false, false, false, false, false, false, false, false, false, false] rfl rfl (any_of HT_.out (by kernel_rfl)) (fun _ _ _ h => h) (Or.inr ⟨by rfl, rfl⟩) ?_ ?_
        rotate_left
        · simp only [Act.put, List.setIfInBounds_toArray, List.set_cons_zero, List.set_cons_succ, i64_w, i32_w]
          rfl
        refine pure_ (i := 6) (N := (some 41)) (v := undef) (a' := ?_) #[true, true, true, true, true, true, true, false, false, false, false, false, false, false, false, false] rfl rfl (any_of HT_.out (by kernel_rfl)) (fun _ _ _ h => h) (Or.inr ⟨by rfl, rfl⟩) ?_ ?_
        rotate_left
        · simp only [Act.put, List.setIfInBounds_toArray, List.set_cons_zero, List.set_cons_succ, i64_w, i32_w]
          rfl
        refine pure_ (i := 7) (N := (some 42)) (v := undef) (a' := ?_) #[true, true, true, true, true, true, true, true, false, false, false, false, false, false, false, false] rfl rfl (any_of HT_.out (by kernel_rfl)) (fun _ _ _ h => h) (Or.inr ⟨by rfl, rfl⟩) ?_ ?_
        rotate_left
        · simp only [Act.put, List.setIfInBounds_toArray, List.set_cons_zero, List.set_cons_succ, i64_w, i32_w]
          rfl
        refine pure_ (i := 8) (N := (some 43)) (v := undef) (a' := ?_) #[true, true, true, true, true, true, true, true, true, false, false, false, false, false, false, false] rfl rfl (any_of HT_.out (by kernel_rfl)) (fun _ _ _ h => h) (Or.inr ⟨by rfl, rfl⟩) ?_ ?_
        rotate_left
        · simp only [Act.put, List.setIfInBounds_toArray, List.set_cons_zero, List.set_cons_succ, i64_w, i32_w]
          rfl
        refine pure_ (i := 9) (N := (some 44)) (v := undef) (a' := ?_) #[true, true, true, true, true, true, true, true, true, true, false, false, false, false, false, false] rfl rfl (any_of HT_.out (by kernel_rfl)) (fun _ _ _ h => h) (Or.inr ⟨by rfl, rfl⟩) ?_ ?_
        rotate_left
        · simp only [Act.put, List.setIfInBounds_toArray, List.set_cons_zero, List.set_cons_succ, i64_w, i32_w]
          rfl
        refine pure_ (i := 10) (N := (some 45)) (v := undef) (a' := ?_) #[true, true, true, true, true, true, true, true, true, true, true, false, false, false, false, false] rfl rfl (any_of HT_.out (by kernel_rfl)) (fun _ _ _ h => h) (Or.inr ⟨by rfl, rfl⟩) ?_ ?_
        rotate_left
        · simp only [Act.put, List.setIfInBounds_toArray, List.set_cons_zero, List.set_cons_succ, i64_w, i32_w]
          rfl
        refine pure_ (i := 11) (N := (some 46)) (v := undef) (a' := ?_) #[true, true, true, true, true, true, true, true, true, true, true, true, false, false, false, false] rfl rfl (any_of HT_.out (by kernel_rfl)) (fun _ _ _ h => h) (Or.inr ⟨by rfl, rfl⟩) ?_ ?_
        rotate_left
        · simp only [Act.put, List.setIfInBounds_toArray, List.set_cons_zero, List.set_cons_succ, i64_w, i32_w]
          rfl
        refine pure_ (i := 12) (N := (some 47)) (v := undef) (a' := ?_) #[true, true, true, true, true, true, true, true, true, true, true, true, true, false, false, false] rfl rfl (any_of HT_.out (by kernel_rfl)) (fun _ _ _ h => h) (Or.inr ⟨by rfl, rfl⟩) ?_ ?_
        rotate_left
        · simp only [Act.put, List.setIfInBounds_toArray, List.set_cons_zero, List.set_cons_succ, i64_w, i32_w]
          rfl
        refine pure_ (i := 13) (N := (some 48)) (v := ?_) (a' := ?_) #[true, true, true, true, true, true, true, true, true, true, true, true, true, true, false, false] rfl rfl (any_of HT_.out (by kernel_rfl)) (fun _ _ _ h => h) (Or.inl ⟨by rfl, ?_⟩) ?_ ?_
        rotate_left
        · intro w'
          go_simp
          with_reducible rfl
        rotate_left
        · simp only [Act.put, List.setIfInBounds_toArray, List.set_cons_zero, List.set_cons_succ, i64_w, i32_w]
          rfl
        refine pure_ (i := 14) (N := (some 6)) (v := ?_) (a' := ?_) #[true, true, true, true, true, true, true, true, true, true, true, true, true, true, true, false] rfl rfl (any_of HT_.out (by kernel_rfl)) (fun _ _ _ h => h) (Or.inl ⟨by rfl, ?_⟩) ?_ ?_
        rotate_left
        · intro w'
          go_simp
          with_reducible rfl
        rotate_left
        · simp only [Act.put, List.setIfInBounds_toArray, List.set_cons_zero, List.set_cons_succ, i64_w, i32_w]
          rfl
        refine pure_ (i := 15) (N := (some 7)) (v := ?_) (a' := ?_) #[true, true, true, true, true, true, true, true, true, true, true, true, true, true, true, true] rfl rfl (any_of HT_.out (by kernel_rfl)) (fun _ _ _ h => h) (Or.inl ⟨by rfl, ?_⟩) ?_ ?_
        rotate_left
        · intro w'
          go_simp
          with_reducible rfl
        rotate_left
        · simp only [Act.put, List.setIfInBounds_toArray, List.set_cons_zero, List.set_cons_succ, i64_w, i32_w]
          rfl
        refine done_ (done_of HT_.out (by kernel_rfl)) ?_
        go_wp2_with fail
        go_ret2
        refine ⟨?_, hg ▸ S3.out⟩
        rw [← HH.out]
        unfold has
        rw [HK.out, ← HN.out, decide_eq_false hn]
        rfl
end Go.Proofs.Ytcfgpfappidkaaa.F
