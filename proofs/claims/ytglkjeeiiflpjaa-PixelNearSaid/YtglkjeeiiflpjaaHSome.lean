/- What is left of a segment: the walk of pixel's some. -/
import Derived.Test.YtglkjeeiiflpjaaHRest
import Derived.Test.YtglkjeeiiflpjaaB3
namespace Go.Proofs.Ytglkjeeiiflpjaa.F
open Go.RowKit Go.Proofs.YtglkjeeiiflpjaaW.PrintWords Go.Proofs.YtglkjeeiiflpjaaW.PrintLast Go.Proofs.YtglkjeeiiflpjaaW.PrintMore
set_option linter.unusedVariables false
set_option linter.unusedSimpArgs false
open PxM (Bd)
def rest_some.T1 : Bool × List (List Nat × List Nat) := (true, [([], []), ([0], [0]), ([1], [1]), ([2], [2]), ([3], [3]), ([4], [4]), ([5], [5]), ([6, 5], [5, 6]), ([7, 5], [5, 7]), ([8, 5], [5, 8]), ([5], [5]), ([10, 5], [5, 10]), ([11, 5], [5, 11]), ([12, 5], [5, 12]), ([9, 13, 5, 5], [5, 9, 13]), ([14, 14, 5], [5, 14]), ([15], [15]), ([16, 15], [15, 16]), ([17, 15], [15, 17]), ([18, 15], [15, 18]), ([15], [15]), ([20, 15], [15, 20]), ([21, 15], [15, 21]), ([22, 15], [15, 22]), ([19, 23, 15, 15], [15, 19, 23]), ([24, 15], [15, 24]), ([25, 24, 15], [15, 25]), ([26], [26]), ([27, 26], [26, 27]), ([28, 26], [26, 28]), ([29, 26], [26, 29]), ([30, 26], [26, 30]), ([26, 31, 15], [15, 26, 31]), ([32, 26, 15], [15, 32]), ([33], [33]), ([34, 33], [33, 34]), ([35, 33], [33, 35]), ([36, 33], [33, 36]), ([37, 33], [33, 37]), ([33, 38, 15], [15, 33, 38]), ([15, 39, 5], [5, 15, 39]), ([5, 40], [5, 40]), ([41, 33, 0, 1, 2, 3, 4, 5, 6, 7, 8, 9, 10, 11, 12, 13, 14, 15, 16, 17, 18, 19, 20, 21, 22, 23, 24, 25, 26, 27, 28, 29, 30, 31, 32, 33, 34, 35, 36, 37, 38, 39, 40, 41], [41])])
def rest_some.B1 : List Nat := [0, 1, 3, 7, 15, 31, 63, 127, 255, 511, 63, 1087, 3135, 7231, 16383, 32767, 65535, 131071, 262143, 524287, 65535, 1114111, 3211263, 7405567, 16777215, 33554431, 67108863, 134217727, 268435455, 536870911, 1073741823, 2147483647, 4294967295, 8589934591, 17179869183, 34359738367, 68719476735, 137438953471, 274877906943, 549755813887, 1099511627775, 2199023255551, 4398046511103]
theorem rest_some.tab1 : rtab .any (opsOf Try.f26 1) = rest_some.T1 := by kernel_rfl
theorem rest_some.bits1 : waitsOk rest_some.T1.2 rest_some.B1 = true := by kernel_rfl
set_option maxHeartbeats 4000000 in
set_option maxRecDepth 100000 in
theorem rest_some.a (B : Nat) (r : PxM.Rest) (w : World) (hr : RestAt w B r) (hn : r.none = true) :
    Calls Try.prog 26 #[.pointer (some ⟨B, 0, none⟩)] w fun e w' => e = .returned (.bool (PxM.some r)) ∧ Below w.heap.size w w' := by
  have HR := A_ hr
  have HB := A_ (Below.refl w.heap.size w)
  have Hhn := A_ hn
  clear hn hr
  go_enter Try.func26, Try.ntmps26
  go_wp2_with fail
  have hb := below_drew (Below.refl w.heap.size w)
  refine start_ (n := 43) (S := fun W => RestAt W B r) (ds := []) (Array.replicate 43 false) (by kernel_rfl) rfl rfl (HR.out.below hb) (fun hHeld => ?_); refine with_tabW rest_some.tab1 rest_some.bits1 (fun HT_ HW_ => ?_)
  generalize w.drew = w1 at hb hHeld ⊢
  have HR' := A_ (HR.out.below hb)
  have HB' := A_ (below_step HB.out hb)
  clear HR HB
  have HR := HR'
  have HB := HB'
  clear HR' HB' hb
  refine pureq_ 0 3 HT_ ?_
  refine pureq_ 1 4 HT_ ?_
  refine pureq_ 2 5 HT_ ?_
  refine take_ (i := 3) (N := (some 6)) (v := ?_) (a' := ?_) (bb 43 15) rfl rfl (take_ofW HT_.out HW_.out (by kernel_rfl)) (fun _ _ _ h => h) (Or.inl ⟨by rfl, ?_⟩) hHeld ?_ ?_
  rotate_left
  · rintro w' s
    have h6 := s.c6
    rw [Hhn.out] at h6
    go_simp
    with_reducible rfl
  rotate_left
  · simp only [Act.put, List.setIfInBounds_toArray, List.set_cons_zero, List.set_cons_succ, i64_w, i32_w]
    rfl
  refine pureq_ 4 7 HT_ ?_
  refine pureq_ 5 8 HT_ ?_
  refine puren_ 6 9 HT_ ?_
  refine puren_ 7 10 HT_ ?_
  refine puren_ 8 11 HT_ ?_
  refine puren_ 9 12 HT_ ?_
  refine puren_ 10 13 HT_ ?_
  refine puren_ 11 14 HT_ ?_
  refine puren_ 12 15 HT_ ?_
  refine puren_ 13 16 HT_ ?_
  refine puren_ 14 17 HT_ ?_
  refine puren_ 15 18 HT_ ?_
  refine puren_ 16 19 HT_ ?_
  refine puren_ 17 20 HT_ ?_
  refine puren_ 18 21 HT_ ?_
  refine puren_ 19 22 HT_ ?_
  refine puren_ 20 23 HT_ ?_
  refine puren_ 21 24 HT_ ?_
  refine puren_ 22 25 HT_ ?_
  refine puren_ 23 26 HT_ ?_
  refine puren_ 24 27 HT_ ?_
  refine puren_ 25 28 HT_ ?_
  refine puren_ 26 29 HT_ ?_
  refine puren_ 27 30 HT_ ?_
  refine puren_ 28 31 HT_ ?_
  refine puren_ 29 32 HT_ ?_
  refine puren_ 30 33 HT_ ?_
  refine puren_ 31 34 HT_ ?_
  refine puren_ 32 35 HT_ ?_
  refine puren_ 33 36 HT_ ?_
  refine puren_ 34 37 HT_ ?_
  refine puren_ 35 38 HT_ ?_
  refine puren_ 36 39 HT_ ?_
  refine puren_ 37 40 HT_ ?_
  refine puren_ 38 41 HT_ ?_
  refine puren_ 39 42 HT_ ?_
  refine puren_ 40 43 HT_ ?_
  refine pureq_ 41 44 HT_ ?_
  refine pureq_ 42 2 HT_ ?_
  refine done_ (done_of HT_.out (by kernel_rfl)) ?_
  try go_wp2_with fail
  go_ret
  refine ⟨?_, HB.out⟩
  simp [PxM.some, Hhn.out]
set_option maxHeartbeats 4000000 in
set_option maxRecDepth 100000 in
theorem rest_some.b (B : Nat) (r : PxM.Rest) (w : World) (hr : RestAt w B r) (h1 : BdOk r.fr) (h2 : BdOk r.up) (hn : r.none = false) (hv1 : PxM.less r.fr r.up = true) :
    Calls Try.prog 26 #[.pointer (some ⟨B, 0, none⟩)] w fun e w' => e = .returned (.bool (PxM.some r)) ∧ Below w.heap.size w w' := by
  have HR := A_ hr
  have HB := A_ (Below.refl w.heap.size w)
  have C1 := A_ (fun W => by have z := less_calls (a := r.fr) (b := r.up) h1 h2 W; rw [hv1] at z; exact z)
  have Hhn := A_ hn
  clear hn
  have Hhv1 := A_ hv1
  clear hv1 hr
  go_enter Try.func26, Try.ntmps26
  go_wp2_with fail
  have hb := below_drew (Below.refl w.heap.size w)
  refine start_ (n := 43) (S := fun W => RestAt W B r) (ds := []) (Array.replicate 43 false) (by kernel_rfl) rfl rfl (HR.out.below hb) (fun hHeld => ?_); refine with_tabW rest_some.tab1 rest_some.bits1 (fun HT_ HW_ => ?_)
  generalize w.drew = w1 at hb hHeld ⊢
  have HR' := A_ (HR.out.below hb)
  have HB' := A_ (below_step HB.out hb)
  clear HR HB
  have HR := HR'
  have HB := HB'
  clear HR' HB' hb
  refine pureq_ 0 3 HT_ ?_
  refine pureq_ 1 4 HT_ ?_
  refine pureq_ 2 5 HT_ ?_
  refine take_ (i := 3) (N := (some 6)) (v := ?_) (a' := ?_) (bb 43 15) rfl rfl (take_ofW HT_.out HW_.out (by kernel_rfl)) (fun _ _ _ h => h) (Or.inl ⟨by rfl, ?_⟩) hHeld ?_ ?_
  rotate_left
  · rintro w' s
    have h6 := s.c6
    rw [Hhn.out] at h6
    go_simp
    with_reducible rfl
  rotate_left
  · simp only [Act.put, List.setIfInBounds_toArray, List.set_cons_zero, List.set_cons_succ, i64_w, i32_w]
    rfl
  refine pureq_ 4 7 HT_ ?_
  refine pureq_ 5 8 HT_ ?_
  refine pureq_ 6 9 HT_ ?_
  refine pureq_ 7 10 HT_ ?_
  refine pureq_ 8 11 HT_ ?_
  refine take_ (i := 9) (N := (some 12)) (v := ?_) (a' := ?_) (bb 43 1023) rfl rfl (take_ofW HT_.out HW_.out (by kernel_rfl)) (fun _ _ _ h => h) (Or.inl ⟨by rfl, ?_⟩) hHeld ?_ ?_
  rotate_left
  · rintro w' s
    have h0 := s.c0
    have h1 := s.c1
    have h2 := s.c2
    go_simp
    with_reducible rfl
  rotate_left
  · simp only [Act.put, List.setIfInBounds_toArray, List.set_cons_zero, List.set_cons_succ, i64_w, i32_w]
    rfl
  refine pureq_ 10 13 HT_ ?_
  refine pureq_ 11 14 HT_ ?_
  refine pureq_ 12 15 HT_ ?_
  refine take_ (i := 13) (N := (some 16)) (v := ?_) (a' := ?_) (bb 43 16383) rfl rfl (take_ofW HT_.out HW_.out (by kernel_rfl)) (fun _ _ _ h => h) (Or.inl ⟨by rfl, ?_⟩) hHeld ?_ ?_
  rotate_left
  · rintro w' s
    have h3 := s.c3
    have h4 := s.c4
    have h5 := s.c5
    go_simp
    with_reducible rfl
  rotate_left
  · simp only [Act.put, List.setIfInBounds_toArray, List.set_cons_zero, List.set_cons_succ, i64_w, i32_w]
    rfl
  refine oneq_ 14 (some 17) HT_ (fun K hK => ?_)
  refine goes_ Try.func43 (by kernel_rfl) rfl #[.agg #[.int .i64 r.fr.n, .int .i64 r.fr.d, .bool r.fr.i], .agg #[.int .i64 r.up.n, .int .i64 r.up.d, .bool r.up.i]] (by rfl) rfl rfl (by (try simp only [List.map_toArray, List.map_cons, List.map_nil]); first | done | rfl) ?_
  with_reducible refine (C1.out _).mono ?_
  rintro e w2 ⟨rfl, hb⟩
  refine ⟨_, rfl, ?_⟩
  have HR' := A_ (HR.out.below hb)
  have HB' := A_ (below_step HB.out hb)
  clear HR HB
  have HR := HR'
  have HB := HB'
  clear HR' HB' hb
  clear hHeld
  refine hK.out _ _ HR.out (fun hHeld => ?_)
  clear hK K
  refine normq_ 17 ?_
  refine pureq_ 15 18 HT_ ?_
  refine puren_ 16 19 HT_ ?_
  refine puren_ 17 20 HT_ ?_
  refine puren_ 18 21 HT_ ?_
  refine puren_ 19 22 HT_ ?_
  refine puren_ 20 23 HT_ ?_
  refine puren_ 21 24 HT_ ?_
  refine puren_ 22 25 HT_ ?_
  refine puren_ 23 26 HT_ ?_
  refine puren_ 24 27 HT_ ?_
  refine puren_ 25 28 HT_ ?_
  refine puren_ 26 29 HT_ ?_
  refine puren_ 27 30 HT_ ?_
  refine puren_ 28 31 HT_ ?_
  refine puren_ 29 32 HT_ ?_
  refine puren_ 30 33 HT_ ?_
  refine puren_ 31 34 HT_ ?_
  refine puren_ 32 35 HT_ ?_
  refine puren_ 33 36 HT_ ?_
  refine puren_ 34 37 HT_ ?_
  refine puren_ 35 38 HT_ ?_
  refine puren_ 36 39 HT_ ?_
  refine puren_ 37 40 HT_ ?_
  refine puren_ 38 41 HT_ ?_
  refine puren_ 39 42 HT_ ?_
  refine pureq_ 40 43 HT_ ?_
  refine pureq_ 41 44 HT_ ?_
  refine pureq_ 42 2 HT_ ?_
  refine done_ (done_of HT_.out (by kernel_rfl)) ?_
  try go_wp2_with fail
  go_ret
  refine ⟨?_, HB.out⟩
  simp [PxM.some, Hhn.out, Hhv1.out]
set_option maxHeartbeats 4000000 in
set_option maxRecDepth 100000 in
theorem rest_some.c (B : Nat) (r : PxM.Rest) (w : World) (hr : RestAt w B r) (h1 : BdOk r.fr) (h2 : BdOk r.up) (hn : r.none = false) (hv1 : PxM.less r.fr r.up = false) (hv2 : PxM.less r.up r.fr = true) :
    Calls Try.prog 26 #[.pointer (some ⟨B, 0, none⟩)] w fun e w' => e = .returned (.bool (PxM.some r)) ∧ Below w.heap.size w w' := by
  have HR := A_ hr
  have HB := A_ (Below.refl w.heap.size w)
  have C1 := A_ (fun W => by have z := less_calls (a := r.fr) (b := r.up) h1 h2 W; rw [hv1] at z; exact z)
  have C2 := A_ (fun W => by have z := less_calls (a := r.up) (b := r.fr) h2 h1 W; rw [hv2] at z; exact z)
  have Hhn := A_ hn
  clear hn
  have Hhv1 := A_ hv1
  clear hv1
  have Hhv2 := A_ hv2
  clear hv2 hr
  go_enter Try.func26, Try.ntmps26
  go_wp2_with fail
  have hb := below_drew (Below.refl w.heap.size w)
  refine start_ (n := 43) (S := fun W => RestAt W B r) (ds := []) (Array.replicate 43 false) (by kernel_rfl) rfl rfl (HR.out.below hb) (fun hHeld => ?_); refine with_tabW rest_some.tab1 rest_some.bits1 (fun HT_ HW_ => ?_)
  generalize w.drew = w1 at hb hHeld ⊢
  have HR' := A_ (HR.out.below hb)
  have HB' := A_ (below_step HB.out hb)
  clear HR HB
  have HR := HR'
  have HB := HB'
  clear HR' HB' hb
  refine pureq_ 0 3 HT_ ?_
  refine pureq_ 1 4 HT_ ?_
  refine pureq_ 2 5 HT_ ?_
  refine take_ (i := 3) (N := (some 6)) (v := ?_) (a' := ?_) (bb 43 15) rfl rfl (take_ofW HT_.out HW_.out (by kernel_rfl)) (fun _ _ _ h => h) (Or.inl ⟨by rfl, ?_⟩) hHeld ?_ ?_
  rotate_left
  · rintro w' s
    have h6 := s.c6
    rw [Hhn.out] at h6
    go_simp
    with_reducible rfl
  rotate_left
  · simp only [Act.put, List.setIfInBounds_toArray, List.set_cons_zero, List.set_cons_succ, i64_w, i32_w]
    rfl
  refine pureq_ 4 7 HT_ ?_
  refine pureq_ 5 8 HT_ ?_
  refine pureq_ 6 9 HT_ ?_
  refine pureq_ 7 10 HT_ ?_
  refine pureq_ 8 11 HT_ ?_
  refine take_ (i := 9) (N := (some 12)) (v := ?_) (a' := ?_) (bb 43 1023) rfl rfl (take_ofW HT_.out HW_.out (by kernel_rfl)) (fun _ _ _ h => h) (Or.inl ⟨by rfl, ?_⟩) hHeld ?_ ?_
  rotate_left
  · rintro w' s
    have h0 := s.c0
    have h1 := s.c1
    have h2 := s.c2
    go_simp
    with_reducible rfl
  rotate_left
  · simp only [Act.put, List.setIfInBounds_toArray, List.set_cons_zero, List.set_cons_succ, i64_w, i32_w]
    rfl
  refine pureq_ 10 13 HT_ ?_
  refine pureq_ 11 14 HT_ ?_
  refine pureq_ 12 15 HT_ ?_
  refine take_ (i := 13) (N := (some 16)) (v := ?_) (a' := ?_) (bb 43 16383) rfl rfl (take_ofW HT_.out HW_.out (by kernel_rfl)) (fun _ _ _ h => h) (Or.inl ⟨by rfl, ?_⟩) hHeld ?_ ?_
  rotate_left
  · rintro w' s
    have h3 := s.c3
    have h4 := s.c4
    have h5 := s.c5
    go_simp
    with_reducible rfl
  rotate_left
  · simp only [Act.put, List.setIfInBounds_toArray, List.set_cons_zero, List.set_cons_succ, i64_w, i32_w]
    rfl
  refine oneq_ 14 (some 17) HT_ (fun K hK => ?_)
  refine goes_ Try.func43 (by kernel_rfl) rfl #[.agg #[.int .i64 r.fr.n, .int .i64 r.fr.d, .bool r.fr.i], .agg #[.int .i64 r.up.n, .int .i64 r.up.d, .bool r.up.i]] (by rfl) rfl rfl (by (try simp only [List.map_toArray, List.map_cons, List.map_nil]); first | done | rfl) ?_
  with_reducible refine (C1.out _).mono ?_
  rintro e w2 ⟨rfl, hb⟩
  refine ⟨_, rfl, ?_⟩
  have HR' := A_ (HR.out.below hb)
  have HB' := A_ (below_step HB.out hb)
  clear HR HB
  have HR := HR'
  have HB := HB'
  clear HR' HB' hb
  clear hHeld
  refine hK.out _ _ HR.out (fun hHeld => ?_)
  clear hK K
  refine normq_ 17 ?_
  refine pureq_ 15 18 HT_ ?_
  refine pureq_ 16 19 HT_ ?_
  refine pureq_ 17 20 HT_ ?_
  refine pureq_ 18 21 HT_ ?_
  refine take_ (i := 19) (N := (some 22)) (v := ?_) (a' := ?_) (bb 43 1048575) rfl rfl (take_ofW HT_.out HW_.out (by kernel_rfl)) (fun _ _ _ h => h) (Or.inl ⟨by rfl, ?_⟩) hHeld ?_ ?_
  rotate_left
  · rintro w' s
    have h3 := s.c3
    have h4 := s.c4
    have h5 := s.c5
    go_simp
    with_reducible rfl
  rotate_left
  · simp only [Act.put, List.setIfInBounds_toArray, List.set_cons_zero, List.set_cons_succ, i64_w, i32_w]
    rfl
  refine pureq_ 20 23 HT_ ?_
  refine pureq_ 21 24 HT_ ?_
  refine pureq_ 22 25 HT_ ?_
  refine take_ (i := 23) (N := (some 26)) (v := ?_) (a' := ?_) (bb 43 16777215) rfl rfl (take_ofW HT_.out HW_.out (by kernel_rfl)) (fun _ _ _ h => h) (Or.inl ⟨by rfl, ?_⟩) hHeld ?_ ?_
  rotate_left
  · rintro w' s
    have h0 := s.c0
    have h1 := s.c1
    have h2 := s.c2
    go_simp
    with_reducible rfl
  rotate_left
  · simp only [Act.put, List.setIfInBounds_toArray, List.set_cons_zero, List.set_cons_succ, i64_w, i32_w]
    rfl
  refine oneq_ 24 (some 27) HT_ (fun K hK => ?_)
  refine goes_ Try.func43 (by kernel_rfl) rfl #[.agg #[.int .i64 r.up.n, .int .i64 r.up.d, .bool r.up.i], .agg #[.int .i64 r.fr.n, .int .i64 r.fr.d, .bool r.fr.i]] (by rfl) rfl rfl (by (try simp only [List.map_toArray, List.map_cons, List.map_nil]); first | done | rfl) ?_
  with_reducible refine (C2.out _).mono ?_
  rintro e w2 ⟨rfl, hb⟩
  refine ⟨_, rfl, ?_⟩
  have HR' := A_ (HR.out.below hb)
  have HB' := A_ (below_step HB.out hb)
  clear HR HB
  have HR := HR'
  have HB := HB'
  clear HR' HB' hb
  clear hHeld
  refine hK.out _ _ HR.out (fun hHeld => ?_)
  clear hK K
  refine normq_ 27 ?_
  refine pureq_ 25 28 HT_ ?_
  refine pureq_ 26 29 HT_ ?_
  refine puren_ 27 30 HT_ ?_
  refine puren_ 28 31 HT_ ?_
  refine puren_ 29 32 HT_ ?_
  refine puren_ 30 33 HT_ ?_
  refine puren_ 31 34 HT_ ?_
  refine pureq_ 32 35 HT_ ?_
  refine pureq_ 33 36 HT_ ?_
  refine puren_ 34 37 HT_ ?_
  refine puren_ 35 38 HT_ ?_
  refine puren_ 36 39 HT_ ?_
  refine puren_ 37 40 HT_ ?_
  refine puren_ 38 41 HT_ ?_
  refine pureq_ 39 42 HT_ ?_
  refine pureq_ 40 43 HT_ ?_
  refine pureq_ 41 44 HT_ ?_
  refine pureq_ 42 2 HT_ ?_
  refine done_ (done_of HT_.out (by kernel_rfl)) ?_
  try go_wp2_with fail
  go_ret
  refine ⟨?_, HB.out⟩
  simp [PxM.some, Hhn.out, Hhv1.out, Hhv2.out]
set_option maxHeartbeats 4000000 in
set_option maxRecDepth 100000 in
theorem rest_some.d (B : Nat) (r : PxM.Rest) (w : World) (hr : RestAt w B r) (h1 : BdOk r.fr) (h2 : BdOk r.up) (hn : r.none = false) (hv1 : PxM.less r.fr r.up = false) (hv2 : PxM.less r.up r.fr = false) (hfi : r.fr.i = false) :
    Calls Try.prog 26 #[.pointer (some ⟨B, 0, none⟩)] w fun e w' => e = .returned (.bool (PxM.some r)) ∧ Below w.heap.size w w' := by
  have HR := A_ hr
  have HB := A_ (Below.refl w.heap.size w)
  have C1 := A_ (fun W => by have z := less_calls (a := r.fr) (b := r.up) h1 h2 W; rw [hv1] at z; exact z)
  have C2 := A_ (fun W => by have z := less_calls (a := r.up) (b := r.fr) h2 h1 W; rw [hv2] at z; exact z)
  have Hhn := A_ hn
  clear hn
  have Hhv1 := A_ hv1
  clear hv1
  have Hhv2 := A_ hv2
  clear hv2
  have Hhfi := A_ hfi
  clear hfi hr
  go_enter Try.func26, Try.ntmps26
  go_wp2_with fail
  have hb := below_drew (Below.refl w.heap.size w)
  refine start_ (n := 43) (S := fun W => RestAt W B r) (ds := []) (Array.replicate 43 false) (by kernel_rfl) rfl rfl (HR.out.below hb) (fun hHeld => ?_); refine with_tabW rest_some.tab1 rest_some.bits1 (fun HT_ HW_ => ?_)
  generalize w.drew = w1 at hb hHeld ⊢
  have HR' := A_ (HR.out.below hb)
  have HB' := A_ (below_step HB.out hb)
  clear HR HB
  have HR := HR'
  have HB := HB'
  clear HR' HB' hb
  refine pureq_ 0 3 HT_ ?_
  refine pureq_ 1 4 HT_ ?_
  refine pureq_ 2 5 HT_ ?_
  refine take_ (i := 3) (N := (some 6)) (v := ?_) (a' := ?_) (bb 43 15) rfl rfl (take_ofW HT_.out HW_.out (by kernel_rfl)) (fun _ _ _ h => h) (Or.inl ⟨by rfl, ?_⟩) hHeld ?_ ?_
  rotate_left
  · rintro w' s
    have h6 := s.c6
    rw [Hhn.out] at h6
    go_simp
    with_reducible rfl
  rotate_left
  · simp only [Act.put, List.setIfInBounds_toArray, List.set_cons_zero, List.set_cons_succ, i64_w, i32_w]
    rfl
  refine pureq_ 4 7 HT_ ?_
  refine pureq_ 5 8 HT_ ?_
  refine pureq_ 6 9 HT_ ?_
  refine pureq_ 7 10 HT_ ?_
  refine pureq_ 8 11 HT_ ?_
  refine take_ (i := 9) (N := (some 12)) (v := ?_) (a' := ?_) (bb 43 1023) rfl rfl (take_ofW HT_.out HW_.out (by kernel_rfl)) (fun _ _ _ h => h) (Or.inl ⟨by rfl, ?_⟩) hHeld ?_ ?_
  rotate_left
  · rintro w' s
    have h0 := s.c0
    have h1 := s.c1
    have h2 := s.c2
    go_simp
    with_reducible rfl
  rotate_left
  · simp only [Act.put, List.setIfInBounds_toArray, List.set_cons_zero, List.set_cons_succ, i64_w, i32_w]
    rfl
  refine pureq_ 10 13 HT_ ?_
  refine pureq_ 11 14 HT_ ?_
  refine pureq_ 12 15 HT_ ?_
  refine take_ (i := 13) (N := (some 16)) (v := ?_) (a' := ?_) (bb 43 16383) rfl rfl (take_ofW HT_.out HW_.out (by kernel_rfl)) (fun _ _ _ h => h) (Or.inl ⟨by rfl, ?_⟩) hHeld ?_ ?_
  rotate_left
  · rintro w' s
    have h3 := s.c3
    have h4 := s.c4
    have h5 := s.c5
    go_simp
    with_reducible rfl
  rotate_left
  · simp only [Act.put, List.setIfInBounds_toArray, List.set_cons_zero, List.set_cons_succ, i64_w, i32_w]
    rfl
  refine oneq_ 14 (some 17) HT_ (fun K hK => ?_)
  refine goes_ Try.func43 (by kernel_rfl) rfl #[.agg #[.int .i64 r.fr.n, .int .i64 r.fr.d, .bool r.fr.i], .agg #[.int .i64 r.up.n, .int .i64 r.up.d, .bool r.up.i]] (by rfl) rfl rfl (by (try simp only [List.map_toArray, List.map_cons, List.map_nil]); first | done | rfl) ?_
  with_reducible refine (C1.out _).mono ?_
  rintro e w2 ⟨rfl, hb⟩
  refine ⟨_, rfl, ?_⟩
  have HR' := A_ (HR.out.below hb)
  have HB' := A_ (below_step HB.out hb)
  clear HR HB
  have HR := HR'
  have HB := HB'
  clear HR' HB' hb
  clear hHeld
  refine hK.out _ _ HR.out (fun hHeld => ?_)
  clear hK K
  refine normq_ 17 ?_
  refine pureq_ 15 18 HT_ ?_
  refine pureq_ 16 19 HT_ ?_
  refine pureq_ 17 20 HT_ ?_
  refine pureq_ 18 21 HT_ ?_
  refine take_ (i := 19) (N := (some 22)) (v := ?_) (a' := ?_) (bb 43 1048575) rfl rfl (take_ofW HT_.out HW_.out (by kernel_rfl)) (fun _ _ _ h => h) (Or.inl ⟨by rfl, ?_⟩) hHeld ?_ ?_
  rotate_left
  · rintro w' s
    have h3 := s.c3
    have h4 := s.c4
    have h5 := s.c5
    go_simp
    with_reducible rfl
  rotate_left
  · simp only [Act.put, List.setIfInBounds_toArray, List.set_cons_zero, List.set_cons_succ, i64_w, i32_w]
    rfl
  refine pureq_ 20 23 HT_ ?_
  refine pureq_ 21 24 HT_ ?_
  refine pureq_ 22 25 HT_ ?_
  refine take_ (i := 23) (N := (some 26)) (v := ?_) (a' := ?_) (bb 43 16777215) rfl rfl (take_ofW HT_.out HW_.out (by kernel_rfl)) (fun _ _ _ h => h) (Or.inl ⟨by rfl, ?_⟩) hHeld ?_ ?_
  rotate_left
  · rintro w' s
    have h0 := s.c0
    have h1 := s.c1
    have h2 := s.c2
    go_simp
    with_reducible rfl
  rotate_left
  · simp only [Act.put, List.setIfInBounds_toArray, List.set_cons_zero, List.set_cons_succ, i64_w, i32_w]
    rfl
  refine oneq_ 24 (some 27) HT_ (fun K hK => ?_)
  refine goes_ Try.func43 (by kernel_rfl) rfl #[.agg #[.int .i64 r.up.n, .int .i64 r.up.d, .bool r.up.i], .agg #[.int .i64 r.fr.n, .int .i64 r.fr.d, .bool r.fr.i]] (by rfl) rfl rfl (by (try simp only [List.map_toArray, List.map_cons, List.map_nil]); first | done | rfl) ?_
  with_reducible refine (C2.out _).mono ?_
  rintro e w2 ⟨rfl, hb⟩
  refine ⟨_, rfl, ?_⟩
  have HR' := A_ (HR.out.below hb)
  have HB' := A_ (below_step HB.out hb)
  clear HR HB
  have HR := HR'
  have HB := HB'
  clear HR' HB' hb
  clear hHeld
  refine hK.out _ _ HR.out (fun hHeld => ?_)
  clear hK K
  refine normq_ 27 ?_
  refine pureq_ 25 28 HT_ ?_
  refine pureq_ 26 29 HT_ ?_
  refine pureq_ 27 30 HT_ ?_
  refine pureq_ 28 31 HT_ ?_
  refine pureq_ 29 32 HT_ ?_
  refine pureq_ 30 33 HT_ ?_
  refine take_ (i := 31) (N := (some 34)) (v := ?_) (a' := ?_) (bb 43 4294967295) rfl rfl (take_ofW HT_.out HW_.out (by kernel_rfl)) (fun _ _ _ h => h) (Or.inl ⟨by rfl, ?_⟩) hHeld ?_ ?_
  rotate_left
  · rintro w' s
    have h2 := s.c2
    rw [Hhfi.out] at h2
    go_simp
    with_reducible rfl
  rotate_left
  · simp only [Act.put, List.setIfInBounds_toArray, List.set_cons_zero, List.set_cons_succ, i64_w, i32_w]
    rfl
  refine pureq_ 32 35 HT_ ?_
  refine pureq_ 33 36 HT_ ?_
  refine puren_ 34 37 HT_ ?_
  refine puren_ 35 38 HT_ ?_
  refine puren_ 36 39 HT_ ?_
  refine puren_ 37 40 HT_ ?_
  refine puren_ 38 41 HT_ ?_
  refine pureq_ 39 42 HT_ ?_
  refine pureq_ 40 43 HT_ ?_
  refine pureq_ 41 44 HT_ ?_
  refine pureq_ 42 2 HT_ ?_
  refine done_ (done_of HT_.out (by kernel_rfl)) ?_
  try go_wp2_with fail
  go_ret
  refine ⟨?_, HB.out⟩
  simp [PxM.some, Hhn.out, Hhv1.out, Hhv2.out, Hhfi.out]
set_option maxHeartbeats 4000000 in
set_option maxRecDepth 100000 in
theorem rest_some.e (B : Nat) (r : PxM.Rest) (w : World) (hr : RestAt w B r) (h1 : BdOk r.fr) (h2 : BdOk r.up) (hn : r.none = false) (hv1 : PxM.less r.fr r.up = false) (hv2 : PxM.less r.up r.fr = false) (hfi : r.fr.i = true) (hui : r.up.i = true) :
    Calls Try.prog 26 #[.pointer (some ⟨B, 0, none⟩)] w fun e w' => e = .returned (.bool (PxM.some r)) ∧ Below w.heap.size w w' := by
  have HR := A_ hr
  have HB := A_ (Below.refl w.heap.size w)
  have C1 := A_ (fun W => by have z := less_calls (a := r.fr) (b := r.up) h1 h2 W; rw [hv1] at z; exact z)
  have C2 := A_ (fun W => by have z := less_calls (a := r.up) (b := r.fr) h2 h1 W; rw [hv2] at z; exact z)
  have Hhn := A_ hn
  clear hn
  have Hhv1 := A_ hv1
  clear hv1
  have Hhv2 := A_ hv2
  clear hv2
  have Hhfi := A_ hfi
  clear hfi
  have Hhui := A_ hui
  clear hui hr
  go_enter Try.func26, Try.ntmps26
  go_wp2_with fail
  have hb := below_drew (Below.refl w.heap.size w)
  refine start_ (n := 43) (S := fun W => RestAt W B r) (ds := []) (Array.replicate 43 false) (by kernel_rfl) rfl rfl (HR.out.below hb) (fun hHeld => ?_); refine with_tabW rest_some.tab1 rest_some.bits1 (fun HT_ HW_ => ?_)
  generalize w.drew = w1 at hb hHeld ⊢
  have HR' := A_ (HR.out.below hb)
  have HB' := A_ (below_step HB.out hb)
  clear HR HB
  have HR := HR'
  have HB := HB'
  clear HR' HB' hb
  refine pureq_ 0 3 HT_ ?_
  refine pureq_ 1 4 HT_ ?_
  refine pureq_ 2 5 HT_ ?_
  refine take_ (i := 3) (N := (some 6)) (v := ?_) (a' := ?_) (bb 43 15) rfl rfl (take_ofW HT_.out HW_.out (by kernel_rfl)) (fun _ _ _ h => h) (Or.inl ⟨by rfl, ?_⟩) hHeld ?_ ?_
  rotate_left
  · rintro w' s
    have h6 := s.c6
    rw [Hhn.out] at h6
    go_simp
    with_reducible rfl
  rotate_left
  · simp only [Act.put, List.setIfInBounds_toArray, List.set_cons_zero, List.set_cons_succ, i64_w, i32_w]
    rfl
  refine pureq_ 4 7 HT_ ?_
  refine pureq_ 5 8 HT_ ?_
  refine pureq_ 6 9 HT_ ?_
  refine pureq_ 7 10 HT_ ?_
  refine pureq_ 8 11 HT_ ?_
  refine take_ (i := 9) (N := (some 12)) (v := ?_) (a' := ?_) (bb 43 1023) rfl rfl (take_ofW HT_.out HW_.out (by kernel_rfl)) (fun _ _ _ h => h) (Or.inl ⟨by rfl, ?_⟩) hHeld ?_ ?_
  rotate_left
  · rintro w' s
    have h0 := s.c0
    have h1 := s.c1
    have h2 := s.c2
    go_simp
    with_reducible rfl
  rotate_left
  · simp only [Act.put, List.setIfInBounds_toArray, List.set_cons_zero, List.set_cons_succ, i64_w, i32_w]
    rfl
  refine pureq_ 10 13 HT_ ?_
  refine pureq_ 11 14 HT_ ?_
  refine pureq_ 12 15 HT_ ?_
  refine take_ (i := 13) (N := (some 16)) (v := ?_) (a' := ?_) (bb 43 16383) rfl rfl (take_ofW HT_.out HW_.out (by kernel_rfl)) (fun _ _ _ h => h) (Or.inl ⟨by rfl, ?_⟩) hHeld ?_ ?_
  rotate_left
  · rintro w' s
    have h3 := s.c3
    have h4 := s.c4
    have h5 := s.c5
    go_simp
    with_reducible rfl
  rotate_left
  · simp only [Act.put, List.setIfInBounds_toArray, List.set_cons_zero, List.set_cons_succ, i64_w, i32_w]
    rfl
  refine oneq_ 14 (some 17) HT_ (fun K hK => ?_)
  refine goes_ Try.func43 (by kernel_rfl) rfl #[.agg #[.int .i64 r.fr.n, .int .i64 r.fr.d, .bool r.fr.i], .agg #[.int .i64 r.up.n, .int .i64 r.up.d, .bool r.up.i]] (by rfl) rfl rfl (by (try simp only [List.map_toArray, List.map_cons, List.map_nil]); first | done | rfl) ?_
  with_reducible refine (C1.out _).mono ?_
  rintro e w2 ⟨rfl, hb⟩
  refine ⟨_, rfl, ?_⟩
  have HR' := A_ (HR.out.below hb)
  have HB' := A_ (below_step HB.out hb)
  clear HR HB
  have HR := HR'
  have HB := HB'
  clear HR' HB' hb
  clear hHeld
  refine hK.out _ _ HR.out (fun hHeld => ?_)
  clear hK K
  refine normq_ 17 ?_
  refine pureq_ 15 18 HT_ ?_
  refine pureq_ 16 19 HT_ ?_
  refine pureq_ 17 20 HT_ ?_
  refine pureq_ 18 21 HT_ ?_
  refine take_ (i := 19) (N := (some 22)) (v := ?_) (a' := ?_) (bb 43 1048575) rfl rfl (take_ofW HT_.out HW_.out (by kernel_rfl)) (fun _ _ _ h => h) (Or.inl ⟨by rfl, ?_⟩) hHeld ?_ ?_
  rotate_left
  · rintro w' s
    have h3 := s.c3
    have h4 := s.c4
    have h5 := s.c5
    go_simp
    with_reducible rfl
  rotate_left
  · simp only [Act.put, List.setIfInBounds_toArray, List.set_cons_zero, List.set_cons_succ, i64_w, i32_w]
    rfl
  refine pureq_ 20 23 HT_ ?_
  refine pureq_ 21 24 HT_ ?_
  refine pureq_ 22 25 HT_ ?_
  refine take_ (i := 23) (N := (some 26)) (v := ?_) (a' := ?_) (bb 43 16777215) rfl rfl (take_ofW HT_.out HW_.out (by kernel_rfl)) (fun _ _ _ h => h) (Or.inl ⟨by rfl, ?_⟩) hHeld ?_ ?_
  rotate_left
  · rintro w' s
    have h0 := s.c0
    have h1 := s.c1
    have h2 := s.c2
    go_simp
    with_reducible rfl
  rotate_left
  · simp only [Act.put, List.setIfInBounds_toArray, List.set_cons_zero, List.set_cons_succ, i64_w, i32_w]
    rfl
  refine oneq_ 24 (some 27) HT_ (fun K hK => ?_)
  refine goes_ Try.func43 (by kernel_rfl) rfl #[.agg #[.int .i64 r.up.n, .int .i64 r.up.d, .bool r.up.i], .agg #[.int .i64 r.fr.n, .int .i64 r.fr.d, .bool r.fr.i]] (by rfl) rfl rfl (by (try simp only [List.map_toArray, List.map_cons, List.map_nil]); first | done | rfl) ?_
  with_reducible refine (C2.out _).mono ?_
  rintro e w2 ⟨rfl, hb⟩
  refine ⟨_, rfl, ?_⟩
  have HR' := A_ (HR.out.below hb)
  have HB' := A_ (below_step HB.out hb)
  clear HR HB
  have HR := HR'
  have HB := HB'
  clear HR' HB' hb
  clear hHeld
  refine hK.out _ _ HR.out (fun hHeld => ?_)
  clear hK K
  refine normq_ 27 ?_
  refine pureq_ 25 28 HT_ ?_
  refine pureq_ 26 29 HT_ ?_
  refine pureq_ 27 30 HT_ ?_
  refine pureq_ 28 31 HT_ ?_
  refine pureq_ 29 32 HT_ ?_
  refine pureq_ 30 33 HT_ ?_
  refine take_ (i := 31) (N := (some 34)) (v := ?_) (a' := ?_) (bb 43 4294967295) rfl rfl (take_ofW HT_.out HW_.out (by kernel_rfl)) (fun _ _ _ h => h) (Or.inl ⟨by rfl, ?_⟩) hHeld ?_ ?_
  rotate_left
  · rintro w' s
    have h2 := s.c2
    rw [Hhfi.out] at h2
    go_simp
    with_reducible rfl
  rotate_left
  · simp only [Act.put, List.setIfInBounds_toArray, List.set_cons_zero, List.set_cons_succ, i64_w, i32_w]
    rfl
  refine pureq_ 32 35 HT_ ?_
  refine pureq_ 33 36 HT_ ?_
  refine pureq_ 34 37 HT_ ?_
  refine pureq_ 35 38 HT_ ?_
  refine pureq_ 36 39 HT_ ?_
  refine pureq_ 37 40 HT_ ?_
  refine take_ (i := 38) (N := (some 41)) (v := ?_) (a' := ?_) (bb 43 549755813887) rfl rfl (take_ofW HT_.out HW_.out (by kernel_rfl)) (fun _ _ _ h => h) (Or.inl ⟨by rfl, ?_⟩) hHeld ?_ ?_
  rotate_left
  · rintro w' s
    have h5 := s.c5
    rw [Hhui.out] at h5
    go_simp
    with_reducible rfl
  rotate_left
  · simp only [Act.put, List.setIfInBounds_toArray, List.set_cons_zero, List.set_cons_succ, i64_w, i32_w]
    rfl
  refine pureq_ 39 42 HT_ ?_
  refine pureq_ 40 43 HT_ ?_
  refine pureq_ 41 44 HT_ ?_
  refine pureq_ 42 2 HT_ ?_
  refine done_ (done_of HT_.out (by kernel_rfl)) ?_
  try go_wp2_with fail
  go_ret
  refine ⟨?_, HB.out⟩
  simp [PxM.some, Hhn.out, Hhv1.out, Hhv2.out, Hhfi.out, Hhui.out]
set_option maxHeartbeats 4000000 in
set_option maxRecDepth 100000 in
theorem rest_some.f (B : Nat) (r : PxM.Rest) (w : World) (hr : RestAt w B r) (h1 : BdOk r.fr) (h2 : BdOk r.up) (hn : r.none = false) (hv1 : PxM.less r.fr r.up = false) (hv2 : PxM.less r.up r.fr = false) (hfi : r.fr.i = true) (hui : r.up.i = false) :
    Calls Try.prog 26 #[.pointer (some ⟨B, 0, none⟩)] w fun e w' => e = .returned (.bool (PxM.some r)) ∧ Below w.heap.size w w' := by
  have HR := A_ hr
  have HB := A_ (Below.refl w.heap.size w)
  have C1 := A_ (fun W => by have z := less_calls (a := r.fr) (b := r.up) h1 h2 W; rw [hv1] at z; exact z)
  have C2 := A_ (fun W => by have z := less_calls (a := r.up) (b := r.fr) h2 h1 W; rw [hv2] at z; exact z)
  have Hhn := A_ hn
  clear hn
  have Hhv1 := A_ hv1
  clear hv1
  have Hhv2 := A_ hv2
  clear hv2
  have Hhfi := A_ hfi
  clear hfi
  have Hhui := A_ hui
  clear hui hr
  go_enter Try.func26, Try.ntmps26
  go_wp2_with fail
  have hb := below_drew (Below.refl w.heap.size w)
  refine start_ (n := 43) (S := fun W => RestAt W B r) (ds := []) (Array.replicate 43 false) (by kernel_rfl) rfl rfl (HR.out.below hb) (fun hHeld => ?_); refine with_tabW rest_some.tab1 rest_some.bits1 (fun HT_ HW_ => ?_)
  generalize w.drew = w1 at hb hHeld ⊢
  have HR' := A_ (HR.out.below hb)
  have HB' := A_ (below_step HB.out hb)
  clear HR HB
  have HR := HR'
  have HB := HB'
  clear HR' HB' hb
  refine pureq_ 0 3 HT_ ?_
  refine pureq_ 1 4 HT_ ?_
  refine pureq_ 2 5 HT_ ?_
  refine take_ (i := 3) (N := (some 6)) (v := ?_) (a' := ?_) (bb 43 15) rfl rfl (take_ofW HT_.out HW_.out (by kernel_rfl)) (fun _ _ _ h => h) (Or.inl ⟨by rfl, ?_⟩) hHeld ?_ ?_
  rotate_left
  · rintro w' s
    have h6 := s.c6
    rw [Hhn.out] at h6
    go_simp
    with_reducible rfl
  rotate_left
  · simp only [Act.put, List.setIfInBounds_toArray, List.set_cons_zero, List.set_cons_succ, i64_w, i32_w]
    rfl
  refine pureq_ 4 7 HT_ ?_
  refine pureq_ 5 8 HT_ ?_
  refine pureq_ 6 9 HT_ ?_
  refine pureq_ 7 10 HT_ ?_
  refine pureq_ 8 11 HT_ ?_
  refine take_ (i := 9) (N := (some 12)) (v := ?_) (a' := ?_) (bb 43 1023) rfl rfl (take_ofW HT_.out HW_.out (by kernel_rfl)) (fun _ _ _ h => h) (Or.inl ⟨by rfl, ?_⟩) hHeld ?_ ?_
  rotate_left
  · rintro w' s
    have h0 := s.c0
    have h1 := s.c1
    have h2 := s.c2
    go_simp
    with_reducible rfl
  rotate_left
  · simp only [Act.put, List.setIfInBounds_toArray, List.set_cons_zero, List.set_cons_succ, i64_w, i32_w]
    rfl
  refine pureq_ 10 13 HT_ ?_
  refine pureq_ 11 14 HT_ ?_
  refine pureq_ 12 15 HT_ ?_
  refine take_ (i := 13) (N := (some 16)) (v := ?_) (a' := ?_) (bb 43 16383) rfl rfl (take_ofW HT_.out HW_.out (by kernel_rfl)) (fun _ _ _ h => h) (Or.inl ⟨by rfl, ?_⟩) hHeld ?_ ?_
  rotate_left
  · rintro w' s
    have h3 := s.c3
    have h4 := s.c4
    have h5 := s.c5
    go_simp
    with_reducible rfl
  rotate_left
  · simp only [Act.put, List.setIfInBounds_toArray, List.set_cons_zero, List.set_cons_succ, i64_w, i32_w]
    rfl
  refine oneq_ 14 (some 17) HT_ (fun K hK => ?_)
  refine goes_ Try.func43 (by kernel_rfl) rfl #[.agg #[.int .i64 r.fr.n, .int .i64 r.fr.d, .bool r.fr.i], .agg #[.int .i64 r.up.n, .int .i64 r.up.d, .bool r.up.i]] (by rfl) rfl rfl (by (try simp only [List.map_toArray, List.map_cons, List.map_nil]); first | done | rfl) ?_
  with_reducible refine (C1.out _).mono ?_
  rintro e w2 ⟨rfl, hb⟩
  refine ⟨_, rfl, ?_⟩
  have HR' := A_ (HR.out.below hb)
  have HB' := A_ (below_step HB.out hb)
  clear HR HB
  have HR := HR'
  have HB := HB'
  clear HR' HB' hb
  clear hHeld
  refine hK.out _ _ HR.out (fun hHeld => ?_)
  clear hK K
  refine normq_ 17 ?_
  refine pureq_ 15 18 HT_ ?_
  refine pureq_ 16 19 HT_ ?_
  refine pureq_ 17 20 HT_ ?_
  refine pureq_ 18 21 HT_ ?_
  refine take_ (i := 19) (N := (some 22)) (v := ?_) (a' := ?_) (bb 43 1048575) rfl rfl (take_ofW HT_.out HW_.out (by kernel_rfl)) (fun _ _ _ h => h) (Or.inl ⟨by rfl, ?_⟩) hHeld ?_ ?_
  rotate_left
  · rintro w' s
    have h3 := s.c3
    have h4 := s.c4
    have h5 := s.c5
    go_simp
    with_reducible rfl
  rotate_left
  · simp only [Act.put, List.setIfInBounds_toArray, List.set_cons_zero, List.set_cons_succ, i64_w, i32_w]
    rfl
  refine pureq_ 20 23 HT_ ?_
  refine pureq_ 21 24 HT_ ?_
  refine pureq_ 22 25 HT_ ?_
  refine take_ (i := 23) (N := (some 26)) (v := ?_) (a' := ?_) (bb 43 16777215) rfl rfl (take_ofW HT_.out HW_.out (by kernel_rfl)) (fun _ _ _ h => h) (Or.inl ⟨by rfl, ?_⟩) hHeld ?_ ?_
  rotate_left
  · rintro w' s
    have h0 := s.c0
    have h1 := s.c1
    have h2 := s.c2
    go_simp
    with_reducible rfl
  rotate_left
  · simp only [Act.put, List.setIfInBounds_toArray, List.set_cons_zero, List.set_cons_succ, i64_w, i32_w]
    rfl
  refine oneq_ 24 (some 27) HT_ (fun K hK => ?_)
  refine goes_ Try.func43 (by kernel_rfl) rfl #[.agg #[.int .i64 r.up.n, .int .i64 r.up.d, .bool r.up.i], .agg #[.int .i64 r.fr.n, .int .i64 r.fr.d, .bool r.fr.i]] (by rfl) rfl rfl (by (try simp only [List.map_toArray, List.map_cons, List.map_nil]); first | done | rfl) ?_
  with_reducible refine (C2.out _).mono ?_
  rintro e w2 ⟨rfl, hb⟩
  refine ⟨_, rfl, ?_⟩
  have HR' := A_ (HR.out.below hb)
  have HB' := A_ (below_step HB.out hb)
  clear HR HB
  have HR := HR'
  have HB := HB'
  clear HR' HB' hb
  clear hHeld
  refine hK.out _ _ HR.out (fun hHeld => ?_)
  clear hK K
  refine normq_ 27 ?_
  refine pureq_ 25 28 HT_ ?_
  refine pureq_ 26 29 HT_ ?_
  refine pureq_ 27 30 HT_ ?_
  refine pureq_ 28 31 HT_ ?_
  refine pureq_ 29 32 HT_ ?_
  refine pureq_ 30 33 HT_ ?_
  refine take_ (i := 31) (N := (some 34)) (v := ?_) (a' := ?_) (bb 43 4294967295) rfl rfl (take_ofW HT_.out HW_.out (by kernel_rfl)) (fun _ _ _ h => h) (Or.inl ⟨by rfl, ?_⟩) hHeld ?_ ?_
  rotate_left
  · rintro w' s
    have h2 := s.c2
    rw [Hhfi.out] at h2
    go_simp
    with_reducible rfl
  rotate_left
  · simp only [Act.put, List.setIfInBounds_toArray, List.set_cons_zero, List.set_cons_succ, i64_w, i32_w]
    rfl
  refine pureq_ 32 35 HT_ ?_
  refine pureq_ 33 36 HT_ ?_
  refine pureq_ 34 37 HT_ ?_
  refine pureq_ 35 38 HT_ ?_
  refine pureq_ 36 39 HT_ ?_
  refine pureq_ 37 40 HT_ ?_
  refine take_ (i := 38) (N := (some 41)) (v := ?_) (a' := ?_) (bb 43 549755813887) rfl rfl (take_ofW HT_.out HW_.out (by kernel_rfl)) (fun _ _ _ h => h) (Or.inl ⟨by rfl, ?_⟩) hHeld ?_ ?_
  rotate_left
  · rintro w' s
    have h5 := s.c5
    rw [Hhui.out] at h5
    go_simp
    with_reducible rfl
  rotate_left
  · simp only [Act.put, List.setIfInBounds_toArray, List.set_cons_zero, List.set_cons_succ, i64_w, i32_w]
    rfl
  refine pureq_ 39 42 HT_ ?_
  refine pureq_ 40 43 HT_ ?_
  refine pureq_ 41 44 HT_ ?_
  refine pureq_ 42 2 HT_ ?_
  refine done_ (done_of HT_.out (by kernel_rfl)) ?_
  try go_wp2_with fail
  go_ret
  refine ⟨?_, HB.out⟩
  simp [PxM.some, Hhn.out, Hhv1.out, Hhv2.out, Hhfi.out, Hhui.out]
theorem rest_some.calls (B : Nat) (r : PxM.Rest) (w : World) (hr : RestAt w B r) (h1 : BdOk r.fr) (h2 : BdOk r.up) :
    Calls Try.prog 26 #[.pointer (some ⟨B, 0, none⟩)] w fun e w' => e = .returned (.bool (PxM.some r)) ∧ Below w.heap.size w w' := by
  cases hn : r.none with
  | true => exact rest_some.a B r w hr hn
  | false =>
    cases hv1 : PxM.less r.fr r.up with
    | true => exact rest_some.b B r w hr h1 h2 hn hv1
    | false =>
      cases hv2 : PxM.less r.up r.fr with
      | true => exact rest_some.c B r w hr h1 h2 hn hv1 hv2
      | false =>
        cases hfi : r.fr.i with
        | false => exact rest_some.d B r w hr h1 h2 hn hv1 hv2 hfi
        | true =>
          cases hui : r.up.i with
          | true => exact rest_some.e B r w hr h1 h2 hn hv1 hv2 hfi hui
          | false => exact rest_some.f B r w hr h1 h2 hn hv1 hv2 hfi hui
end Go.Proofs.Ytglkjeeiiflpjaa.F
