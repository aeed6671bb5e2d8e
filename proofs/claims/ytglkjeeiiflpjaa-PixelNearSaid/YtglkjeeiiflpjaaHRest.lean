/- What is left of a segment: the walks of pixel's rest. -/
import Derived.Test.YtglkjeeiiflpjaaPX
import Derived.Test.YtglkjeeiiflpjaaB3
import Derived.Test.YtglkjeeiiflpjaaFS
namespace Go.Proofs.Ytglkjeeiiflpjaa.F
open Go.RowKit Go.Proofs.YtglkjeeiiflpjaaW.PrintWords Go.Proofs.YtglkjeeiiflpjaaW.PrintLast Go.Proofs.YtglkjeeiiflpjaaW.PrintMore
set_option linter.unusedVariables false
set_option linter.unusedSimpArgs false
open PxM (Bd)
/-- A bound that is small enough. -/
def BdOk (x : Bd) : Prop := -1073741824 ≤ x.n ∧ x.n ≤ 1073741824 ∧ 0 < x.d ∧ x.d ≤ 1073741824
theorem small_mul {a b : Int} (h1 : -1073741824 ≤ a) (h2 : a ≤ 1073741824) (h3 : 0 < b) (h4 : b ≤ 1073741824) : wrap64 (a * b) = a * b := by
  have h5 : (a * b).natAbs ≤ 1073741824 * 1073741824 := by
    rw [Int.natAbs_mul]
    exact Nat.mul_le_mul (by omega) (by omega)
  generalize a * b = c at h5
  unfold wrap64
  omega
theorem less_eq {a b : Bd} (ha : BdOk a) (hb : BdOk b) : pixel_less.f a.n a.d a.i b.n b.d b.i = some (PxM.less a b) := by
  obtain ⟨h1, h2, h3, h4⟩ := ha
  obtain ⟨g1, g2, g3, g4⟩ := hb
  unfold pixel_less.f PxM.less
  rw [small_mul h1 h2 g3 g4, small_mul g1 g2 h3 h4]
/-- Its from, or its to. -/
structure BdAt (w : World) (B o : Nat) (x : Bd) : Prop where
  c0 : w.cell? ⟨B, o, none⟩ = some (.int .i64 x.n)
  c1 : w.cell? ⟨B, o + 1, none⟩ = some (.int .i64 x.d)
  c2 : w.cell? ⟨B, o + 2, none⟩ = some (.bool x.i)
theorem BdAt.below {w w' : World} {B o : Nat} {x : Bd} (h : BdAt w B o x) (hb : Below w.heap.size w w') : BdAt w' B o x :=
  ⟨(hb.cell (World.block_lt_of_cell? _ _ h.c0)).trans h.c0, (hb.cell (World.block_lt_of_cell? _ _ h.c1)).trans h.c1, (hb.cell (World.block_lt_of_cell? _ _ h.c2)).trans h.c2⟩
theorem less_calls {a b : Bd} (ha : BdOk a) (hb : BdOk b) (w : World) :
    Calls Try.prog 43 #[.agg #[.int .i64 a.n, .int .i64 a.d, .bool a.i], .agg #[.int .i64 b.n, .int .i64 b.d, .bool b.i]] w fun e w' => e = .returned (.bool (PxM.less a b)) ∧ Below w.heap.size w w' :=
  pixel_less.calls a.n a.d a.i b.n b.d b.i _ w (less_eq ha hb)
/-- The rest lies in block B. -/
structure RestAt (w : World) (B : Nat) (r : PxM.Rest) : Prop where
  c0 : w.cell? ⟨B, 0, none⟩ = some (.int .i64 r.fr.n)
  c1 : w.cell? ⟨B, 1, none⟩ = some (.int .i64 r.fr.d)
  c2 : w.cell? ⟨B, 2, none⟩ = some (.bool r.fr.i)
  c3 : w.cell? ⟨B, 3, none⟩ = some (.int .i64 r.up.n)
  c4 : w.cell? ⟨B, 4, none⟩ = some (.int .i64 r.up.d)
  c5 : w.cell? ⟨B, 5, none⟩ = some (.bool r.up.i)
  c6 : w.cell? ⟨B, 6, none⟩ = some (.bool r.none)
  fz : ∀ i, w.frozen? ⟨B, i, none⟩ = false
theorem RestAt.lt {w : World} {B : Nat} {r : PxM.Rest} (h : RestAt w B r) : B < w.heap.size := World.block_lt_of_cell? _ _ h.c0
theorem RestAt.below {w w' : World} {B : Nat} {r : PxM.Rest} (h : RestAt w B r) (hb : Below w.heap.size w w') : RestAt w' B r := by
  have hl := h.lt
  exact ⟨(hb.cell (p := ⟨B, 0, none⟩) hl).trans h.c0, (hb.cell (p := ⟨B, 1, none⟩) hl).trans h.c1, (hb.cell (p := ⟨B, 2, none⟩) hl).trans h.c2, (hb.cell (p := ⟨B, 3, none⟩) hl).trans h.c3, (hb.cell (p := ⟨B, 4, none⟩) hl).trans h.c4, (hb.cell (p := ⟨B, 5, none⟩) hl).trans h.c5, (hb.cell (p := ⟨B, 6, none⟩) hl).trans h.c6, fun i => (hb.frozen (p := ⟨B, i, none⟩) hl).trans (h.fz i)⟩
def rest_after.T1 : Bool × List (List Nat × List Nat) := (true, [([], []), ([0], [0]), ([1], [1]), ([2], [2]), ([], []), ([3, 4], [3, 4]), ([5, 5], [5])])
def rest_after.B1 : List Nat := [0, 1, 3, 7, 0, 31, 63]
theorem rest_after.tab1 : rtab .any (opsOf Try.f41 1) = rest_after.T1 := by kernel_rfl
theorem rest_after.bits1 : waitsOk rest_after.T1.2 rest_after.B1 = true := by kernel_rfl
def rest_after.T3 : Bool × List (List Nat × List Nat) := (true, [([], []), ([], []), ([1], [1]), ([2], [2]), ([3], [3]), ([0, 4], [0, 4]), ([5], [5]), ([6, 5], [6])])
def rest_after.B3 : List Nat := [0, 0, 2, 6, 14, 31, 63, 127]
theorem rest_after.tab3 : rtab .any (opsOf Try.f41 3) = rest_after.T3 := by kernel_rfl
theorem rest_after.bits3 : waitsOk rest_after.T3.2 rest_after.B3 = true := by kernel_rfl
set_option maxHeartbeats 4000000 in
set_option maxRecDepth 100000 in
theorem rest_after.calls (B : Nat) (r : PxM.Rest) (x : Bd) (w : World) (hr : RestAt w B r) (ho : BdOk r.fr) (hx : BdOk x) :
    Calls Try.prog 41 #[.pointer (some ⟨B, 0, none⟩), .agg #[.int .i64 x.n, .int .i64 x.d, .bool x.i]] w fun e w' => e = .returned (.tuple #[]) ∧ RestAt w' B (PxM.after r x) ∧ Below B w w' := by
  have hlt := hr.lt
  have HR := A_ hr
  have C1 := A_ (fun W => less_calls (a := r.fr) (b := x) ho hx W)
  have C2 := A_ (fun W => less_calls (a := x) (b := r.fr) hx ho W)
  have HB := A_ (Below.refl B w)
  clear ho hx hr
  go_enter Try.func41, Try.ntmps41
  go_wp2_with fail
  have hb := below_alloc (Below.refl w.heap.size w) (.cells #[.int .i64 x.n, .int .i64 x.d, .bool x.i] 49)
  have HX := A_ (show BdAt _ w.heap.size 0 x from ⟨(by go_simp; done : (w.alloc (.cells #[.int .i64 x.n, .int .i64 x.d, .bool x.i] 49)).cell? ⟨w.heap.size, 0, none⟩ = _), (by go_simp; done : (w.alloc (.cells #[.int .i64 x.n, .int .i64 x.d, .bool x.i] 49)).cell? ⟨w.heap.size, 1, none⟩ = _), (by go_simp; done : (w.alloc (.cells #[.int .i64 x.n, .int .i64 x.d, .bool x.i] 49)).cell? ⟨w.heap.size, 2, none⟩ = _)⟩)
  have hBB := HB.out.alloc (Nat.le_of_lt hlt) (.cells #[.int .i64 x.n, .int .i64 x.d, .bool x.i] 49)
  have HR' := A_ (HR.out.below hb)
  clear HR HB
  have HR := HR'
  have HB := A_ hBB
  clear HR' hBB hb
  obtain ⟨bx, hbx⟩ : ∃ bx, bx = w.heap.size := ⟨_, rfl⟩
  rw [← hbx] at HX ⊢
  have hlx : B < bx := by rw [hbx]; exact hlt
  clear hbx
  generalize w.alloc (.cells #[.int .i64 x.n, .int .i64 x.d, .bool x.i] 49) = w1 at HX HR HB ⊢
  have hb := below_drew (Below.refl w1.heap.size w1)
  refine start_ (n := 7) (S := fun W => RestAt W B r ∧ BdAt W bx 0 x) (ds := []) (Array.replicate 7 false) (by kernel_rfl) rfl rfl ⟨HR.out.below hb, HX.out.below hb⟩ (fun hHeld => ?_); refine with_tabW rest_after.tab1 rest_after.bits1 (fun HT_ HW_ => ?_)
  generalize w1.drew = w2 at hb hHeld ⊢
  have HR' := A_ (HR.out.below hb)
  have HX' := A_ (HX.out.below hb)
  have HB' := A_ (HB.out.trans (hb.mono (Nat.le_of_lt HR.out.lt)))
  clear HR HX HB
  have HR := HR'
  have HX := HX'
  have HB := HB'
  clear HR' HX' HB' hb
  refine pureq_ 0 5 HT_ ?_
  refine pureq_ 1 6 HT_ ?_
  refine pureq_ 2 7 HT_ ?_
  refine take_ (i := 3) (N := (some 8)) (v := ?_) (a' := ?_) (bb 7 15) rfl rfl (take_ofW HT_.out HW_.out (by kernel_rfl)) (fun _ _ _ h => h) (Or.inl ⟨by rfl, ?_⟩) hHeld ?_ ?_
  rotate_left
  · rintro w' ⟨s, t⟩
    have h0 := s.c0
    have h1 := s.c1
    have h2 := s.c2
    go_simp
    with_reducible rfl
  rotate_left
  · simp only [Act.put, List.setIfInBounds_toArray, List.set_cons_zero, List.set_cons_succ, i64_w, i32_w]
    rfl
  refine take_ (i := 4) (N := (some 9)) (v := ?_) (a' := ?_) (bb 7 31) rfl rfl (take_ofW HT_.out HW_.out (by kernel_rfl)) (fun _ _ _ h => h) (Or.inl ⟨by rfl, ?_⟩) hHeld ?_ ?_
  rotate_left
  · rintro w' ⟨s, t⟩
    have h0 : w'.cell? ⟨bx, 0, none⟩ = _ := t.c0
    have h1 : w'.cell? ⟨bx, 1, none⟩ = _ := t.c1
    have h2 : w'.cell? ⟨bx, 2, none⟩ = _ := t.c2
    go_simp
    with_reducible rfl
  rotate_left
  · simp only [Act.put, List.setIfInBounds_toArray, List.set_cons_zero, List.set_cons_succ, i64_w, i32_w]
    rfl
  refine oneq_ 5 (some 10) HT_ (fun K hK => ?_)
  refine goes_ Try.func43 (by kernel_rfl) rfl #[.agg #[.int .i64 r.fr.n, .int .i64 r.fr.d, .bool r.fr.i], .agg #[.int .i64 x.n, .int .i64 x.d, .bool x.i]] (by rfl) rfl rfl (by (try simp only [List.map_toArray, List.map_cons, List.map_nil]); first | done | rfl) ?_
  with_reducible refine (C1.out _).mono ?_
  rintro e w3 ⟨rfl, hb⟩
  refine ⟨_, rfl, ?_⟩
  have HR' := A_ (HR.out.below hb)
  have HX' := A_ (HX.out.below hb)
  have HB' := A_ (HB.out.trans (hb.mono (Nat.le_of_lt HR.out.lt)))
  clear HR HX HB
  have HR := HR'
  have HX := HX'
  have HB := HB'
  clear HR' HX' HB' hb
  have hHeld2 : _ ∧ _ := ⟨HR.out, HX.out⟩
  clear hHeld
  refine hK.out _ _ hHeld2 (fun hHeld => ?_)
  clear hK K hHeld2
  refine normq_ 10 ?_
  refine pureq_ 6 4 HT_ ?_
  refine done_ (done_of HT_.out (by kernel_rfl)) ?_
  generalize hv1 : PxM.less r.fr x = v1
  cases v1
  · go_wp2_with fail
    have hb := below_drew (Below.refl w3.heap.size w3)
    refine start_ (n := 8) (S := fun W => RestAt W B r ∧ BdAt W bx 0 x) (ds := []) (Array.replicate 8 false) (by kernel_rfl) rfl rfl ⟨HR.out.below hb, HX.out.below hb⟩ (fun hHeld => ?_); refine with_tabW rest_after.tab3 rest_after.bits3 (fun HT_ HW_ => ?_)
    generalize w3.drew = w4 at hb hHeld ⊢
    have HR' := A_ (HR.out.below hb)
    have HX' := A_ (HX.out.below hb)
    have HB' := A_ (HB.out.trans (hb.mono (Nat.le_of_lt HR.out.lt)))
    clear HR HX HB
    have HR := HR'
    have HX := HX'
    have HB := HB'
    clear HR' HX' HB' hb
    refine take_ (i := 0) (N := (some 16)) (v := ?_) (a' := ?_) (bb 8 1) rfl rfl (take_ofW HT_.out HW_.out (by kernel_rfl)) (fun _ _ _ h => h) (Or.inl ⟨by rfl, ?_⟩) hHeld ?_ ?_
    rotate_left
    · rintro w' ⟨s, t⟩
      have h0 : w'.cell? ⟨bx, 0, none⟩ = _ := t.c0
      have h1 : w'.cell? ⟨bx, 1, none⟩ = _ := t.c1
      have h2 : w'.cell? ⟨bx, 2, none⟩ = _ := t.c2
      go_simp
      with_reducible rfl
    rotate_left
    · simp only [Act.put, List.setIfInBounds_toArray, List.set_cons_zero, List.set_cons_succ, i64_w, i32_w]
      rfl
    refine pureq_ 1 17 HT_ ?_
    refine pureq_ 2 18 HT_ ?_
    refine pureq_ 3 19 HT_ ?_
    refine take_ (i := 4) (N := (some 20)) (v := ?_) (a' := ?_) (bb 8 31) rfl rfl (take_ofW HT_.out HW_.out (by kernel_rfl)) (fun _ _ _ h => h) (Or.inl ⟨by rfl, ?_⟩) hHeld ?_ ?_
    rotate_left
    · rintro w' ⟨s, t⟩
      have h0 := s.c0
      have h1 := s.c1
      have h2 := s.c2
      go_simp
      with_reducible rfl
    rotate_left
    · simp only [Act.put, List.setIfInBounds_toArray, List.set_cons_zero, List.set_cons_succ, i64_w, i32_w]
      rfl
    refine oneq_ 5 (some 21) HT_ (fun K hK => ?_)
    refine goes_ Try.func43 (by kernel_rfl) rfl #[.agg #[.int .i64 x.n, .int .i64 x.d, .bool x.i], .agg #[.int .i64 r.fr.n, .int .i64 r.fr.d, .bool r.fr.i]] (by rfl) rfl rfl (by (try simp only [List.map_toArray, List.map_cons, List.map_nil]); first | done | rfl) ?_
    with_reducible refine (C2.out _).mono ?_
    rintro e w5 ⟨rfl, hb⟩
    refine ⟨_, rfl, ?_⟩
    have HR' := A_ (HR.out.below hb)
    have HX' := A_ (HX.out.below hb)
    have HB' := A_ (HB.out.trans (hb.mono (Nat.le_of_lt HR.out.lt)))
    clear HR HX HB
    have HR := HR'
    have HX := HX'
    have HB := HB'
    clear HR' HX' HB' hb
    have hHeld2 : _ ∧ _ := ⟨HR.out, HX.out⟩
    clear hHeld
    refine hK.out _ _ hHeld2 (fun hHeld => ?_)
    clear hK K hHeld2
    refine normq_ 21 ?_
    refine pureq_ 6 22 HT_ ?_
    refine pureq_ 7 15 HT_ ?_
    refine done_ (done_of HT_.out (by kernel_rfl)) ?_
    generalize hv2 : PxM.less x r.fr = v2
    cases v2
    · have e : PxM.after r x = { r with fr := { r.fr with i := r.fr.i && x.i } } := by unfold PxM.after; rw [if_neg (by rw [hv1]; decide), if_pos (by rw [hv2]; rfl)]
      have h0 : w5.cell? ⟨bx, 0, none⟩ = _ := HX.out.c0
      have h1 : w5.cell? ⟨bx, 1, none⟩ = _ := HX.out.c1
      have h2 : w5.cell? ⟨bx, 2, none⟩ = _ := HX.out.c2
      have o0 := HR.out.c0
      have o1 := HR.out.c1
      have o2 := HR.out.c2
      have o3 := HR.out.c3
      have o4 := HR.out.c4
      have o5 := HR.out.c5
      have o6 := HR.out.c6
      have fz := HR.out.fz
      cases hri : r.fr.i
      · rw [hri] at o2
        go_wp2_with fail
        go_end0
        refine ⟨rfl, ?_, ?_⟩
        · first | rw [e, hri] | rw [e] | skip
          exact ⟨by go_simp, by go_simp, by go_simp, by go_simp, by go_simp, by go_simp, by go_simp, fun i => by simp [fz]⟩
        · repeat (first | exact HB.out | refine Below.setCell ?_ (by simp) _)
      · rw [hri] at o2
        go_wp2_with fail
        go_end0
        refine ⟨rfl, ?_, ?_⟩
        · first | rw [e, hri] | rw [e] | skip
          exact ⟨by go_simp, by go_simp, by go_simp, by go_simp, by go_simp, by go_simp, by go_simp, fun i => by simp [fz]⟩
        · repeat (first | exact HB.out | refine Below.setCell ?_ (by simp) _)
    · have e : PxM.after r x = r := by unfold PxM.after; rw [if_neg (by rw [hv1]; decide), if_neg (by rw [hv2]; decide)]
      go_wp2_with fail
      go_end0
      refine ⟨rfl, ?_, HB.out⟩
      first | rw [e] | skip
      exact HR.out
  · have e : PxM.after r x = { r with fr := x } := by unfold PxM.after; rw [if_pos hv1]
    have h0 : w3.cell? ⟨bx, 0, none⟩ = _ := HX.out.c0
    have h1 : w3.cell? ⟨bx, 1, none⟩ = _ := HX.out.c1
    have h2 : w3.cell? ⟨bx, 2, none⟩ = _ := HX.out.c2
    have o0 := HR.out.c0
    have o1 := HR.out.c1
    have o2 := HR.out.c2
    have o3 := HR.out.c3
    have o4 := HR.out.c4
    have o5 := HR.out.c5
    have o6 := HR.out.c6
    have fz := HR.out.fz
    go_wp2_with fail
    go_end0
    refine ⟨rfl, ?_, ?_⟩
    · first | rw [e] | skip
      exact ⟨by go_simp, by go_simp, by go_simp, by go_simp, by go_simp, by go_simp, by go_simp, fun i => by simp [fz]⟩
    · repeat (first | exact HB.out | refine Below.setCell ?_ (by simp) _)
def rest_upto.T1 : Bool × List (List Nat × List Nat) := (true, [([], []), ([], []), ([1], [1]), ([2], [2]), ([3], [3]), ([0, 4], [0, 4]), ([5, 5], [5])])
def rest_upto.B1 : List Nat := [0, 0, 2, 6, 14, 31, 63]
theorem rest_upto.tab1 : rtab .any (opsOf Try.f42 1) = rest_upto.T1 := by kernel_rfl
theorem rest_upto.bits1 : waitsOk rest_upto.T1.2 rest_upto.B1 = true := by kernel_rfl
def rest_upto.T3 : Bool × List (List Nat × List Nat) := (true, [([], []), ([0], [0]), ([1], [1]), ([2], [2]), ([], []), ([3, 4], [3, 4]), ([5], [5]), ([6, 5], [6])])
def rest_upto.B3 : List Nat := [0, 1, 3, 7, 0, 31, 63, 127]
theorem rest_upto.tab3 : rtab .any (opsOf Try.f42 3) = rest_upto.T3 := by kernel_rfl
theorem rest_upto.bits3 : waitsOk rest_upto.T3.2 rest_upto.B3 = true := by kernel_rfl
set_option maxHeartbeats 4000000 in
set_option maxRecDepth 100000 in
theorem rest_upto.calls (B : Nat) (r : PxM.Rest) (x : Bd) (w : World) (hr : RestAt w B r) (ho : BdOk r.up) (hx : BdOk x) :
    Calls Try.prog 42 #[.pointer (some ⟨B, 0, none⟩), .agg #[.int .i64 x.n, .int .i64 x.d, .bool x.i]] w fun e w' => e = .returned (.tuple #[]) ∧ RestAt w' B (PxM.upto r x) ∧ Below B w w' := by
  have hlt := hr.lt
  have HR := A_ hr
  have C1 := A_ (fun W => less_calls (a := x) (b := r.up) hx ho W)
  have C2 := A_ (fun W => less_calls (a := r.up) (b := x) ho hx W)
  have HB := A_ (Below.refl B w)
  clear ho hx hr
  go_enter Try.func42, Try.ntmps42
  go_wp2_with fail
  have hb := below_alloc (Below.refl w.heap.size w) (.cells #[.int .i64 x.n, .int .i64 x.d, .bool x.i] 49)
  have HX := A_ (show BdAt _ w.heap.size 0 x from ⟨(by go_simp; done : (w.alloc (.cells #[.int .i64 x.n, .int .i64 x.d, .bool x.i] 49)).cell? ⟨w.heap.size, 0, none⟩ = _), (by go_simp; done : (w.alloc (.cells #[.int .i64 x.n, .int .i64 x.d, .bool x.i] 49)).cell? ⟨w.heap.size, 1, none⟩ = _), (by go_simp; done : (w.alloc (.cells #[.int .i64 x.n, .int .i64 x.d, .bool x.i] 49)).cell? ⟨w.heap.size, 2, none⟩ = _)⟩)
  have hBB := HB.out.alloc (Nat.le_of_lt hlt) (.cells #[.int .i64 x.n, .int .i64 x.d, .bool x.i] 49)
  have HR' := A_ (HR.out.below hb)
  clear HR HB
  have HR := HR'
  have HB := A_ hBB
  clear HR' hBB hb
  obtain ⟨bx, hbx⟩ : ∃ bx, bx = w.heap.size := ⟨_, rfl⟩
  rw [← hbx] at HX ⊢
  have hlx : B < bx := by rw [hbx]; exact hlt
  clear hbx
  generalize w.alloc (.cells #[.int .i64 x.n, .int .i64 x.d, .bool x.i] 49) = w1 at HX HR HB ⊢
  have hb := below_drew (Below.refl w1.heap.size w1)
  refine start_ (n := 7) (S := fun W => RestAt W B r ∧ BdAt W bx 0 x) (ds := []) (Array.replicate 7 false) (by kernel_rfl) rfl rfl ⟨HR.out.below hb, HX.out.below hb⟩ (fun hHeld => ?_); refine with_tabW rest_upto.tab1 rest_upto.bits1 (fun HT_ HW_ => ?_)
  generalize w1.drew = w2 at hb hHeld ⊢
  have HR' := A_ (HR.out.below hb)
  have HX' := A_ (HX.out.below hb)
  have HB' := A_ (HB.out.trans (hb.mono (Nat.le_of_lt HR.out.lt)))
  clear HR HX HB
  have HR := HR'
  have HX := HX'
  have HB := HB'
  clear HR' HX' HB' hb
  refine take_ (i := 0) (N := (some 5)) (v := ?_) (a' := ?_) (bb 7 1) rfl rfl (take_ofW HT_.out HW_.out (by kernel_rfl)) (fun _ _ _ h => h) (Or.inl ⟨by rfl, ?_⟩) hHeld ?_ ?_
  rotate_left
  · rintro w' ⟨s, t⟩
    have h0 : w'.cell? ⟨bx, 0, none⟩ = _ := t.c0
    have h1 : w'.cell? ⟨bx, 1, none⟩ = _ := t.c1
    have h2 : w'.cell? ⟨bx, 2, none⟩ = _ := t.c2
    go_simp
    with_reducible rfl
  rotate_left
  · simp only [Act.put, List.setIfInBounds_toArray, List.set_cons_zero, List.set_cons_succ, i64_w, i32_w]
    rfl
  refine pureq_ 1 6 HT_ ?_
  refine pureq_ 2 7 HT_ ?_
  refine pureq_ 3 8 HT_ ?_
  refine take_ (i := 4) (N := (some 9)) (v := ?_) (a' := ?_) (bb 7 31) rfl rfl (take_ofW HT_.out HW_.out (by kernel_rfl)) (fun _ _ _ h => h) (Or.inl ⟨by rfl, ?_⟩) hHeld ?_ ?_
  rotate_left
  · rintro w' ⟨s, t⟩
    have h0 := s.c3
    have h1 := s.c4
    have h2 := s.c5
    go_simp
    with_reducible rfl
  rotate_left
  · simp only [Act.put, List.setIfInBounds_toArray, List.set_cons_zero, List.set_cons_succ, i64_w, i32_w]
    rfl
  refine oneq_ 5 (some 10) HT_ (fun K hK => ?_)
  refine goes_ Try.func43 (by kernel_rfl) rfl #[.agg #[.int .i64 x.n, .int .i64 x.d, .bool x.i], .agg #[.int .i64 r.up.n, .int .i64 r.up.d, .bool r.up.i]] (by rfl) rfl rfl (by (try simp only [List.map_toArray, List.map_cons, List.map_nil]); first | done | rfl) ?_
  with_reducible refine (C1.out _).mono ?_
  rintro e w3 ⟨rfl, hb⟩
  refine ⟨_, rfl, ?_⟩
  have HR' := A_ (HR.out.below hb)
  have HX' := A_ (HX.out.below hb)
  have HB' := A_ (HB.out.trans (hb.mono (Nat.le_of_lt HR.out.lt)))
  clear HR HX HB
  have HR := HR'
  have HX := HX'
  have HB := HB'
  clear HR' HX' HB' hb
  have hHeld2 : _ ∧ _ := ⟨HR.out, HX.out⟩
  clear hHeld
  refine hK.out _ _ hHeld2 (fun hHeld => ?_)
  clear hK K hHeld2
  refine normq_ 10 ?_
  refine pureq_ 6 4 HT_ ?_
  refine done_ (done_of HT_.out (by kernel_rfl)) ?_
  generalize hv1 : PxM.less x r.up = v1
  cases v1
  · go_wp2_with fail
    have hb := below_drew (Below.refl w3.heap.size w3)
    refine start_ (n := 8) (S := fun W => RestAt W B r ∧ BdAt W bx 0 x) (ds := []) (Array.replicate 8 false) (by kernel_rfl) rfl rfl ⟨HR.out.below hb, HX.out.below hb⟩ (fun hHeld => ?_); refine with_tabW rest_upto.tab3 rest_upto.bits3 (fun HT_ HW_ => ?_)
    generalize w3.drew = w4 at hb hHeld ⊢
    have HR' := A_ (HR.out.below hb)
    have HX' := A_ (HX.out.below hb)
    have HB' := A_ (HB.out.trans (hb.mono (Nat.le_of_lt HR.out.lt)))
    clear HR HX HB
    have HR := HR'
    have HX := HX'
    have HB := HB'
    clear HR' HX' HB' hb
    refine pureq_ 0 16 HT_ ?_
    refine pureq_ 1 17 HT_ ?_
    refine pureq_ 2 18 HT_ ?_
    refine take_ (i := 3) (N := (some 19)) (v := ?_) (a' := ?_) (bb 8 15) rfl rfl (take_ofW HT_.out HW_.out (by kernel_rfl)) (fun _ _ _ h => h) (Or.inl ⟨by rfl, ?_⟩) hHeld ?_ ?_
    rotate_left
    · rintro w' ⟨s, t⟩
      have h0 := s.c3
      have h1 := s.c4
      have h2 := s.c5
      go_simp
      with_reducible rfl
    rotate_left
    · simp only [Act.put, List.setIfInBounds_toArray, List.set_cons_zero, List.set_cons_succ, i64_w, i32_w]
      rfl
    refine take_ (i := 4) (N := (some 20)) (v := ?_) (a' := ?_) (bb 8 31) rfl rfl (take_ofW HT_.out HW_.out (by kernel_rfl)) (fun _ _ _ h => h) (Or.inl ⟨by rfl, ?_⟩) hHeld ?_ ?_
    rotate_left
    · rintro w' ⟨s, t⟩
      have h0 : w'.cell? ⟨bx, 0, none⟩ = _ := t.c0
      have h1 : w'.cell? ⟨bx, 1, none⟩ = _ := t.c1
      have h2 : w'.cell? ⟨bx, 2, none⟩ = _ := t.c2
      go_simp
      with_reducible rfl
    rotate_left
    · simp only [Act.put, List.setIfInBounds_toArray, List.set_cons_zero, List.set_cons_succ, i64_w, i32_w]
      rfl
    refine oneq_ 5 (some 21) HT_ (fun K hK => ?_)
    refine goes_ Try.func43 (by kernel_rfl) rfl #[.agg #[.int .i64 r.up.n, .int .i64 r.up.d, .bool r.up.i], .agg #[.int .i64 x.n, .int .i64 x.d, .bool x.i]] (by rfl) rfl rfl (by (try simp only [List.map_toArray, List.map_cons, List.map_nil]); first | done | rfl) ?_
    with_reducible refine (C2.out _).mono ?_
    rintro e w5 ⟨rfl, hb⟩
    refine ⟨_, rfl, ?_⟩
    have HR' := A_ (HR.out.below hb)
    have HX' := A_ (HX.out.below hb)
    have HB' := A_ (HB.out.trans (hb.mono (Nat.le_of_lt HR.out.lt)))
    clear HR HX HB
    have HR := HR'
    have HX := HX'
    have HB := HB'
    clear HR' HX' HB' hb
    have hHeld2 : _ ∧ _ := ⟨HR.out, HX.out⟩
    clear hHeld
    refine hK.out _ _ hHeld2 (fun hHeld => ?_)
    clear hK K hHeld2
    refine normq_ 21 ?_
    refine pureq_ 6 22 HT_ ?_
    refine pureq_ 7 15 HT_ ?_
    refine done_ (done_of HT_.out (by kernel_rfl)) ?_
    generalize hv2 : PxM.less r.up x = v2
    cases v2
    · have e : PxM.upto r x = { r with up := { r.up with i := r.up.i && x.i } } := by unfold PxM.upto; rw [if_neg (by rw [hv1]; decide), if_pos (by rw [hv2]; rfl)]
      have h0 : w5.cell? ⟨bx, 0, none⟩ = _ := HX.out.c0
      have h1 : w5.cell? ⟨bx, 1, none⟩ = _ := HX.out.c1
      have h2 : w5.cell? ⟨bx, 2, none⟩ = _ := HX.out.c2
      have o0 := HR.out.c0
      have o1 := HR.out.c1
      have o2 := HR.out.c2
      have o3 := HR.out.c3
      have o4 := HR.out.c4
      have o5 := HR.out.c5
      have o6 := HR.out.c6
      have fz := HR.out.fz
      cases hri : r.up.i
      · rw [hri] at o5
        go_wp2_with fail
        go_end0
        refine ⟨rfl, ?_, ?_⟩
        · first | rw [e, hri] | rw [e] | skip
          exact ⟨by go_simp, by go_simp, by go_simp, by go_simp, by go_simp, by go_simp, by go_simp, fun i => by simp [fz]⟩
        · repeat (first | exact HB.out | refine Below.setCell ?_ (by simp) _)
      · rw [hri] at o5
        go_wp2_with fail
        go_end0
        refine ⟨rfl, ?_, ?_⟩
        · first | rw [e, hri] | rw [e] | skip
          exact ⟨by go_simp, by go_simp, by go_simp, by go_simp, by go_simp, by go_simp, by go_simp, fun i => by simp [fz]⟩
        · repeat (first | exact HB.out | refine Below.setCell ?_ (by simp) _)
    · have e : PxM.upto r x = r := by unfold PxM.upto; rw [if_neg (by rw [hv1]; decide), if_neg (by rw [hv2]; decide)]
      go_wp2_with fail
      go_end0
      refine ⟨rfl, ?_, HB.out⟩
      first | rw [e] | skip
      exact HR.out
  · have e : PxM.upto r x = { r with up := x } := by unfold PxM.upto; rw [if_pos hv1]
    have h0 : w3.cell? ⟨bx, 0, none⟩ = _ := HX.out.c0
    have h1 : w3.cell? ⟨bx, 1, none⟩ = _ := HX.out.c1
    have h2 : w3.cell? ⟨bx, 2, none⟩ = _ := HX.out.c2
    have o0 := HR.out.c0
    have o1 := HR.out.c1
    have o2 := HR.out.c2
    have o3 := HR.out.c3
    have o4 := HR.out.c4
    have o5 := HR.out.c5
    have o6 := HR.out.c6
    have fz := HR.out.fz
    go_wp2_with fail
    go_end0
    refine ⟨rfl, ?_, ?_⟩
    · first | rw [e] | skip
      exact ⟨by go_simp, by go_simp, by go_simp, by go_simp, by go_simp, by go_simp, by go_simp, fun i => by simp [fz]⟩
    · repeat (first | exact HB.out | refine Below.setCell ?_ (by simp) _)
end Go.Proofs.Ytglkjeeiiflpjaa.F
