/- slices.Insert at near.Entry, one entry, walked by hand: four roads (at the end; ahead of it, with room and without). Conditions: the entry lies in a block of its own. -/
import Derived.Test.YtcfgpfappidkaaaN2
namespace Go.Proofs.Ytcfgpfappidkaaa.F
open Go.RowKit Go.Proofs.YtcfgpfappidkaaaW.PrintWords Go.Proofs.YtcfgpfappidkaaaW.PrintLast Go.Proofs.YtcfgpfappidkaaaW.PrintMore
set_option linter.unusedVariables false
set_option linter.unusedSimpArgs false
def insert.T11 : Bool × List (List Nat × List Nat) := (true, [([], []), ([], []), ([], []), ([1, 2], [1, 2]), ([0, 3], [0, 3]), ([], []), ([], []), ([5, 6], [5, 6]), ([4, 7], [4, 7])])
def insert.B11 : List Nat := [0, 0, 0, 6, 15, 0, 0, 96, 255]
theorem insert.tab11 : rtab .any (opsOf Try.f22 11) = insert.T11 := by kernel_rfl
theorem insert.bits11 : waitsOk insert.T11.2 insert.B11 = true := by kernel_rfl
def insert.T15 : Bool × List (List Nat × List Nat) := (true, [([], []), ([], []), ([], []), ([1, 2], [1, 2]), ([0, 3], [0, 3]), ([], []), ([], []), ([5, 6], [5, 6]), ([4, 7], [4, 7])])
def insert.B15 : List Nat := [0, 0, 0, 6, 15, 0, 0, 96, 255]
theorem insert.tab15 : rtab .any (opsOf Try.f22 15) = insert.T15 := by kernel_rfl
theorem insert.bits15 : waitsOk insert.T15.2 insert.B15 = true := by kernel_rfl
/-- copy(d, s) as a step, where its run is known. -/
theorem wpList_copyR (w : World) {ops : Array Oper} {rest : List Oper} {o : Oper} {a : Act} {Q : Exit → Act → World → Prop} (hgd : o.guard = none) (d s : Operand) (t t' : TypeId)
    (ho : o.op = .call { callee := .builtin .copy, args := #[d, s], argTypes := #[t, t'] }) (v u : Value) (hd : a.eval d = v) (hs : a.eval s = u) {v' : Value} {w' : World}
    (hr : (Builtin.copy_ #[t, t'] o.type #[v, u]).run Try.prog w = .ok v' w') (h : wpList Try.prog ops Q rest (a.put o.dst v') w') : wpList Try.prog ops Q (o :: rest) a w := by
  refine wpList_plain hgd fun K hK => ?_
  unfold Oper.wp execOp
  simp only [ho, resolve, invoke, builtin, Sem.run_bind, Sem.run_pure, Result.andThen_ok, List.map_toArray, List.map_cons, List.map_nil, hd, hs, hr]
  exact hK _ _ h
theorem step_copyR {ops : Array Oper} {o : Oper} {a : Act} {w : World} {K : Act → World → Prop} {Q : Exit → Act → World → Prop} {E : Prop}
    (hg : o.guard = none) (d x : Operand) (dT sT : TypeId) (hop : o.op = Op.call { callee := Callee.builtin Builtin.copy, args := #[d, x], argTypes := #[dT, sT] })
    (v u : Value) (hd : a.eval d = v) (hx : a.eval x = u) {v' : Value} {w' : World} (hr : (Builtin.copy_ #[dT, sT] o.type #[v, u]).run Try.prog w = .ok v' w') (hK : K (a.put o.dst v') w') :
    if Region.wanted o (yielded ops a.tmps) = true then Oper.wp Try.prog o a w K Q else E := by
  have hw : Region.wanted o (yielded ops a.tmps) = true := by simp [Region.wanted, hg]
  rw [if_pos hw]
  unfold Oper.wp
  simp [execOp, hop, resolve, invoke, builtin, hd, hx, hr, Result.andThen]
  exact hK
theorem w64_id {x : Int} (h0 : -9223372036854775808 ≤ x) (h1 : x < 9223372036854775808) : wrap64 x = x := by unfold wrap64; omega
theorem w64_succ (i : Nat) (h : i < 1099511627776) : wrap64 ((i : Int) + 1) = (i : Int) + 1 := w64_id (by omega) (by omega)
theorem nat_succ (i : Nat) : ((i : Int) + 1).toNat = i + 1 := by omega
/-- What Insert says. -/
def InsPost (s : Value) (l : List S52) (x : S52) (i : Nat) (w : World) (e : Ending) (w' : World) : Prop :=
  ∃ s', e = .returned s' ∧ Kd.R k52 52 w' 0 (fun _ => True) s' (ins l i x) ∧ w.grownBy w' s.ownBlock ∧ (s'.ownBlock = s.ownBlock ∨ ∃ b, s'.ownBlock = some b ∧ w.heap.size ≤ b)
set_option maxHeartbeats 4000000 in
set_option maxRecDepth 100000 in
theorem insert.atEnd (s : Value) (l : List S52) (x : S52) (vb tv : Nat) (w : World) (hR : Kd.R k52 52 w 0 (fun _ => True) s l) (hv : w.heap[vb]? = some (.cells #[.int .i64 x.f0.f0, .int .i64 x.f0.f1, .int .i64 x.f1] tv (0, 0))) (hf : Fits l) :
    Calls Try.prog 22 #[s, .int .i64 (l.length : Int), .slice (some ⟨vb, 0, none⟩) 1 1] w (InsPost s l x l.length w) := by
  obtain ⟨A, c, rfl⟩ := Kd.R_slice hR
  obtain ⟨i0, hi0, _, hsz, _⟩ := info_parts info52
  have hcut := cut_from (P := Try.prog) 25 52 .i64 Try.underlying25 hi0 3 hsz A l.length c (l.length : Int) (by omega) (by omega)
  simp only [Int.toNat_natCast] at hcut
  generalize (if c = l.length then A else A.map (·.add (l.length * 3))) = AA at hcut
  have hx : k52.C w (some ⟨vb, 0, none⟩) 1 [x] := ⟨rfl, by decide, fun _ => ⟨_, rfl, fun j p hj => by
    cases j with
    | zero =>
      simp at hj
      subst hj
      refine ⟨V3 x, rfl, k52_mk _ _, fun i u hi => ?_⟩
      rw [Nat.zero_mul, Nat.zero_add, Addr.add_lit, Nat.zero_add, blk_cell hv]
      simpa [V3] using hi
    | succ j => simp at hj⟩⟩
  have HX := Aside0.mk hx
  have HR := Aside0.mk hR
  have HF := Aside0.mk hf
  have hlt : l.length < 1099511627776 := hf
  clear hx hR hf hv hi0 hsz
  go_enter Try.func22, Try.ntmps22
  go_wp2_with ((with_reducible refine gate_builtin (b := .append) (xs := #[.tmp 23, .tmp 24]) rfl ?_); at_builtin; refine Kd.R_append_rows k52 (w0 := w) 0 rfl (.tmp 23) (.tmp 24) 25 52 (.agg #[.int .i64 0, .int .i64 0, .int .i64 0]) 24 rfl Try.underlying25 info52 rfl (by decide) (by omega) (.slice A l.length c) l [x] _ _ _ (fun _ => True) (fun _ => False) rfl rfl HR.out ?aR (fun _ _ h => h) (fun _ h => h.elim) (fun _ _ => trivial) (Below.refl 0 w) (Nat.zero_le _) ?aL ?_; (case aR => exact HX.out); (case aL => have := HF.out; unfold Fits at this; omega); intro v2 w2 ho hb hg hat; have HO2 := Aside0.mk ho; have HG2 := Aside0.mk hg; have HA2 := Aside0.mk hat; clear ho hb hg hat)
  go_ret
  refine ⟨_, rfl, ?_, HG2.out, HA2.out⟩
  have e : ins l l.length x = l ++ [x] := by simp [ins]
  rw [e]
  exact HO2.out
/-- What both roads ahead of the end know: the row's block, and how it is cut. -/
structure RowIn (w : World) (g cap n : Nat) (cur : Array Value) (inner : List Value) : Prop where
  hh : w.heap[g]? = some (.cells cur 52 (0, 0))
  hn : n ≤ cap
  hc : cap ≤ maxLen
  hs : cur.size = cap * 3
  ht : cur.toList.take (n * 3) = inner
theorem RowIn.len {w : World} {g cap n : Nat} {cur : Array Value} {inner : List Value} (h : RowIn w g cap n cur inner) : inner.length = n * 3 := by
  rw [← h.ht, List.length_take]
  have : n * 3 ≤ cap * 3 := Nat.mul_le_mul_right _ h.hn
  have := h.hs
  simp
  omega
theorem RowIn.cell {w : World} {g cap n : Nat} {cur : Array Value} {inner : List Value} (h : RowIn w g cap n cur inner) (j : Nat) (v : Value) (hj : inner[j]? = some v) : w.cell? ⟨g, j, none⟩ = some v := by
  rw [blk_cell h.hh]
  have hl : j < inner.length := by
    rcases Nat.lt_or_ge j inner.length with h | h
    · exact h
    · rw [List.getElem?_eq_none h] at hj; cases hj
  rw [← h.ht, List.getElem?_take, if_pos (by have := h.len; omega)] at hj
  simpa using hj
theorem RowIn.one {w : World} {g cap n : Nat} {cur : Array Value} {inner : List Value} (h : RowIn w g cap n cur inner) (l : List S52) (R : S52 → List Value → Prop) (hl : l.length = n) (hr : Reps R 3 l inner) (hR : ∀ p c, R p c → c = V3 p) : ∀ v ∈ inner, v.oneCell' = true := by
  intro v hv
  obtain ⟨j, hj, rfl⟩ := List.getElem_of_mem hv
  have hlen := h.len
  have hp : j / 3 < l.length := by omega
  have h1 := hR _ _ (hr.2 (j / 3) _ (List.getElem?_eq_getElem hp))
  have h2 : ((inner.drop (j / 3 * 3)).take 3)[j % 3]? = some inner[j] := by
    rw [List.getElem?_take, if_pos (Nat.mod_lt _ (by omega)), List.getElem?_drop, show j / 3 * 3 + j % 3 = j by omega, List.getElem?_eq_getElem hj]
  rw [h1] at h2
  exact V3_one _ _ (List.mem_of_getElem? h2)
theorem cutL (g o n cap : Nat) (k : Nat) (hk : k ≤ n) (hc : cap ≠ k) (hn : n ≤ cap) (W : World) : (Instr.slice 25 (.slice (some ⟨g, o, none⟩) n cap) (some (.int .i64 (k : Int))) none none).run Try.prog W = .ok (.slice (some ⟨g, o + k * 3, none⟩) (n - k) (cap - k)) W := by
  obtain ⟨i0, hi0, _, hsz, _⟩ := info_parts info52
  have h := cut_from (P := Try.prog) 25 52 .i64 Try.underlying25 hi0 3 hsz (some ⟨g, o, none⟩) n cap (k : Int) (by omega) (by omega) W
  rw [Int.toNat_natCast, if_neg hc] at h
  rw [h]
  simp [Addr.add]
theorem cutH (g o n cap : Nat) (k : Nat) (hk : k ≤ cap) (W : World) : (Instr.slice 25 (.slice (some ⟨g, o, none⟩) n cap) none (some (.int .i64 (k : Int))) none).run Try.prog W = .ok (.slice (some ⟨g, o, none⟩) k cap) W := by
  obtain ⟨i0, hi0, _, hsz, _⟩ := info_parts info52
  have hel : Try.prog.elem 25 = 52 := by simp [Program.elem, Try.underlying25]
  have hu : Try.prog.underlying 25 = some (.slice (Try.prog.elem 25)) := by rw [hel]; exact Try.underlying25
  rw [run_slice_h W 25 (some ⟨g, o, none⟩) n cap hu .i64 (k : Int) (by omega) (by omega), hel]
  simp [sizeOf, typeInfo, hi0, sliced, Result.andThen, Addr.add]
theorem setRow_twice_heap {w : World} {g : Nat} {cur a : Array Value} {t : TypeId} (h : w.heap[g]? = some (.cells cur t (0, 0))) : (w.setRow g a).heap[g]? = some (.cells a t (0, 0)) := setRow_heap w g cur a t (0, 0) h
theorem grownBy_setRow {w w1 : World} {g : Nat} (h : w.grownBy w1 (some g)) (cs : Array Value) : w.grownBy (w1.setRow g cs) (some g) :=
  ⟨h.os, h.tape, h.output, by simpa using h.size, fun k hk hne => (setRow_other w1 g k cs (fun e => hne (by rw [e]))).trans (h.block k hk hne)⟩
set_option maxHeartbeats 4000000 in
set_option maxRecDepth 100000 in
theorem insert.shift (l : List S52) (x : S52) (i g cap vb tv : Nat) (w : World) (cur : Array Value) (inner : List Value) (R : S52 → List Value → Prop) (H : RowIn w g cap l.length cur inner) (hr : Reps R 3 l inner) (hRR : ∀ p c, R p c → c = V3 p)
    (hv : w.heap[vb]? = some (.cells #[.int .i64 x.f0.f0, .int .i64 x.f0.f1, .int .i64 x.f1] tv (0, 0))) (hne : vb ≠ g) (hi : i < l.length) (hroom : l.length + 1 ≤ cap) (hf : Fits l) :
    Calls Try.prog 22 #[.slice (some ⟨g, 0, none⟩) l.length cap, .int .i64 (i : Int), .slice (some ⟨vb, 0, none⟩) 1 1] w (InsPost (.slice (some ⟨g, 0, none⟩) l.length cap) l x i w) := by
  obtain ⟨n, hn⟩ : ∃ n, n = l.length := ⟨_, rfl⟩
  have HN := Aside0.mk hn
  rw [← hn] at H hi hroom ⊢
  have hlt : n < 1099511627776 := by rw [hn]; exact hf
  obtain ⟨i0, hi0, _, hsz, _⟩ := info_parts info52
  have hlen := H.len
  have hone := H.one l R hn.symm hr hRR
  have hcs := H.hs
  have hmx := H.hc
  have hbig : n * 3 + 3 ≤ cur.size := by rw [hcs]; have : (n + 1) * 3 ≤ cap * 3 := Nat.mul_le_mul_right _ hroom; omega
  have c1 : ∀ W, (Instr.slice 25 (.slice (some ⟨g, 0, none⟩) n cap) (some (.int .i64 (i : Int))) none none).run Try.prog W = .ok (.slice (some ⟨g, i * 3, none⟩) (n - i) (cap - i)) W := fun W => by
    have := cutL g 0 n cap i (by omega) (by omega) H.hn W
    rwa [Nat.zero_add] at this
  have c2 : ∀ W, (Instr.slice 25 (.slice (some ⟨g, 0, none⟩) n cap) none (some (.int .i64 ((n : Int) + 1))) none).run Try.prog W = .ok (.slice (some ⟨g, 0, none⟩) (n + 1) cap) W := fun W => cutH g 0 n cap (n + 1) hroom W
  have c3 : ∀ W, (Instr.slice 25 (.slice (some ⟨g, 0, none⟩) (n + 1) cap) (some (.int .i64 ((i : Int) + 1))) none none).run Try.prog W = .ok (.slice (some ⟨g, (i + 1) * 3, none⟩) (n - i) (cap - (i + 1))) W := fun W => by
    have := cutL g 0 (n + 1) cap (i + 1) (by omega) (by omega) hroom W
    rwa [Nat.zero_add, Nat.add_sub_add_right] at this
  have c4 : ∀ W, (Instr.slice 25 (.slice (some ⟨g, 0, none⟩) (n + 1) cap) (some (.int .i64 (i : Int))) none none).run Try.prog W = .ok (.slice (some ⟨g, i * 3, none⟩) (n + 1 - i) (cap - i)) W := fun W => by
    have := cutL g 0 (n + 1) cap i (by omega) (by omega) hroom W
    rwa [Nat.zero_add] at this
  have ho := fun lb cb => hov H.hh hv hne (by omega) lb cb ((i + 1) * 3) 1 1
  obtain ⟨D, hD⟩ : ∃ D, D = inner.drop (i * 3) := ⟨_, rfl⟩
  have hDl : D.length = (n - i) * 3 := by rw [hD, List.length_drop, hlen, Nat.sub_mul]
  have hD1 : ∀ v ∈ D, v.oneCell' = true := fun v hv => hone v (by rw [hD] at hv; exact List.mem_of_mem_drop hv)
  obtain ⟨C1, hC1⟩ : ∃ C1, C1 = (cur.toList.take ((i + 1) * 3) ++ D ++ cur.toList.drop ((i + 1) * 3 + D.length)) := ⟨_, rfl⟩
  have hC1l : C1.length = cur.size := by rw [hC1, splice_len _ _ _ (by rw [hDl]; simp; omega)]; simp
  obtain ⟨C2, hC2⟩ : ∃ C2, C2 = (C1.take (i * 3) ++ V3 x ++ C1.drop (i * 3 + (V3 x).length)) := ⟨_, rfl⟩
  have cp1 : ∀ ty dc sc, (Builtin.copy_ #[25, 25] ty #[.slice (some ⟨g, (i + 1) * 3, none⟩) (n - i) dc, .slice (some ⟨g, i * 3, none⟩) (n + 1 - i) sc]).run Try.prog w.drew = .ok (goInt ((n - i : Nat) : Int)) (w.drew.setRow g C1.toArray) := fun ty dc sc => by
    have h := run_copyK w.drew 25 25 ty 52 g ((i + 1) * 3) (n - i) dc ⟨g, i * 3, none⟩ (n + 1 - i) sc cur 52 D i0 3 Try.underlying25 hi0 hsz H.hh (n - i) (by simp only [Nat.min_def]; split <;> omega) hDl
      (fun j v hj => by rw [Addr.add_lit]; exact H.cell (i * 3 + j) v (by rw [hD, List.getElem?_drop] at hj; exact hj)) (by rw [hDl]; omega) hD1
    rw [← hC1] at h
    exact h
  obtain ⟨W1, hW1⟩ : ∃ W1, W1 = w.drew.setRow g C1.toArray := ⟨_, rfl⟩
  have hW1g : W1.heap[g]? = some (.cells C1.toArray 52 (0, 0)) := by rw [hW1]; exact setRow_twice_heap (w := w.drew) H.hh
  have hW1v : W1.heap[vb]? = some (.cells #[.int .i64 x.f0.f0, .int .i64 x.f0.f1, .int .i64 x.f1] tv (0, 0)) := by rw [hW1]; exact (setRow_other w.drew g vb _ hne).trans hv
  have cp2 : ∀ ty dc, (Builtin.copy_ #[25, 25] ty #[.slice (some ⟨g, i * 3, none⟩) (n + 1 - i) dc, .slice (some ⟨vb, 0, none⟩) 1 1]).run Try.prog W1 = .ok (goInt ((1 : Nat) : Int)) (W1.setRow g C2.toArray) := fun ty dc => by
    have h := run_copyK W1 25 25 ty 52 g (i * 3) (n + 1 - i) dc ⟨vb, 0, none⟩ 1 1 C1.toArray 52 (V3 x) i0 3 Try.underlying25 hi0 hsz hW1g 1 (by simp only [Nat.min_def]; split <;> omega) rfl
      (fun j v hj => by rw [Addr.add_lit, Nat.zero_add, blk_cell hW1v]; simpa [V3] using hj) (by simp only [List.size_toArray, hC1l]; simp [V3]; omega) (V3_one x)
    rw [List.toList_toArray, ← hC2] at h
    exact h
  have HFIN : Aside0 (InsPost (.slice (some ⟨g, 0, none⟩) n cap) l x i w (.returned (.slice (some ⟨g, 0, none⟩) (n + 1) cap)) (W1.setRow g C2.toArray)) := by
    refine ⟨⟨_, rfl, ?_, ?_, .inl rfl⟩⟩
    · have hl2 : (ins l i x).length = n + 1 := by rw [ins_len _ _ _ (by omega), ← hn]
      rw [← hl2]
      have q := shift_list cur.toList inner D C1 C2 (V3 x) i n hi (by simp; omega) H.ht hD hC1 rfl hC2
      refine R_made (setRow_twice_heap hW1g) (by omega) hmx ?_ ?_ (reps_ins (R' := fun p c => c = V3 p) hr hRR i (by omega) x rfl) (fun _ _ h => h)
      · simpa [hcs] using q.1
      · rw [hl2]; exact q.2
    · rw [hW1]
      exact grownBy_setRow (w := w) (g := g) (grownBy_setRow (w := w) (g := g) (show w.grownBy w.drew (some g) from ⟨rfl, rfl, rfl, Nat.le_refl _, fun k _ _ => rfl⟩) _) _
  have hz2 : ¬ ((i : Int) = (n : Int)) := by omega
  have hz3 : ¬ ((cap : Int) < (n : Int) + 1) := by omega
  have hw1 : wrap64 ((i : Int) + 1) = (i : Int) + 1 := w64_succ i (Nat.lt_trans hi hlt)
  have htn : ((i : Int) + 1).toNat = i + 1 := nat_succ i
  rw [← hW1] at cp1
  have CP1 := Aside0.mk cp1
  have CP2 := Aside0.mk cp2
  clear cp1 cp2 hC1 hC2 hD hDl hD1 hone hlen hcs hbig hr hRR hv hW1 hW1g hW1v hC1l hi0 hsz H hf hn
  go_enter Try.func22, Try.ntmps22
  go_wp2_with (simp only [ho])
  refine start_ (n := 9) (S := fun _ => True) (ds := []) #[false, false, false, false, false, false, false, false, false] (by kernel_rfl) rfl rfl trivial (fun hHeld => ?_); refine with_tabW insert.tab15 insert.bits15 (fun HT_ HW_ => ?_)
  refine pure_ (i := 0) (N := (some 69)) (v := ?_) (a' := ?_) #[true, false, false, false, false, false, false, false, false] rfl rfl (any_of HT_.out (by kernel_rfl)) (fun _ _ _ h => h) (Or.inl ⟨by rfl, ?_⟩) ?_ ?_
  rotate_left
  · intro w'
    go_simp
    with_reducible rfl
  rotate_left
  · simp only [Act.put, List.setIfInBounds_toArray, List.set_cons_zero, List.set_cons_succ, i64_w, i32_w]
    rfl
  refine pure_ (i := 1) (N := (some 70)) (v := ?_) (a' := ?_) #[true, true, false, false, false, false, false, false, false] rfl rfl (any_of HT_.out (by kernel_rfl)) (fun _ _ _ h => h) (Or.inl ⟨by rfl, ?_⟩) ?_ ?_
  rotate_left
  · intro w'
    go_simp
    with_reducible rfl
  rotate_left
  · simp only [Act.put, List.setIfInBounds_toArray, List.set_cons_zero, List.set_cons_succ, i64_w, i32_w]
    rfl
  refine pure_ (i := 2) (N := (some 71)) (v := ?_) (a' := ?_) #[true, true, true, false, false, false, false, false, false] rfl rfl (any_of HT_.out (by kernel_rfl)) (fun _ _ _ h => h) (Or.inl ⟨by rfl, ?_⟩) ?_ ?_
  rotate_left
  · intro w'
    go_simp
    with_reducible rfl
  rotate_left
  · simp only [Act.put, List.setIfInBounds_toArray, List.set_cons_zero, List.set_cons_succ, i64_w, i32_w]
    rfl
  refine pure_ (i := 3) (N := (some 72)) (v := ?_) (a' := ?_) #[true, true, true, true, false, false, false, false, false] rfl rfl (any_of HT_.out (by kernel_rfl)) (fun _ _ _ h => h) (Or.inl ⟨by rfl, ?_⟩) ?_ ?_
  rotate_left
  · intro w'
    go_simp
    simp only [i64_w, hw1]
    with_reducible rfl
  rotate_left
  · simp only [Act.put, List.setIfInBounds_toArray, List.set_cons_zero, List.set_cons_succ, i64_w, i32_w]
    rfl
  refine pure_ (i := 4) (N := (some 73)) (v := ?_) (a' := ?_) #[true, true, true, true, true, false, false, false, false] rfl rfl (any_of HT_.out (by kernel_rfl)) (fun _ _ _ h => h) (Or.inl ⟨by rfl, ?_⟩) ?_ ?_
  rotate_left
  · intro w'
    go_simp
    first | (with_reducible rfl) | (rw [if_pos ⟨by omega, by omega⟩, htn, if_neg (by omega)]; rfl) | (rw [if_pos (by omega), if_neg (by omega)]; rfl) | (rw [if_neg (by omega)]; rfl) | trace_state
  rotate_left
  · simp only [Act.put, List.setIfInBounds_toArray, List.set_cons_zero, List.set_cons_succ, i64_w, i32_w]
    rfl
  refine pure_ (i := 5) (N := (some 74)) (v := ?_) (a' := ?_) #[true, true, true, true, true, true, false, false, false] rfl rfl (any_of HT_.out (by kernel_rfl)) (fun _ _ _ h => h) (Or.inl ⟨by rfl, ?_⟩) ?_ ?_
  rotate_left
  · intro w'
    go_simp
    with_reducible rfl
  rotate_left
  · simp only [Act.put, List.setIfInBounds_toArray, List.set_cons_zero, List.set_cons_succ, i64_w, i32_w]
    rfl
  refine pure_ (i := 6) (N := (some 75)) (v := ?_) (a' := ?_) #[true, true, true, true, true, true, true, false, false] rfl rfl (any_of HT_.out (by kernel_rfl)) (fun _ _ _ h => h) (Or.inl ⟨by rfl, ?_⟩) ?_ ?_
  rotate_left
  · intro w'
    go_simp
    with_reducible rfl
  rotate_left
  · simp only [Act.put, List.setIfInBounds_toArray, List.set_cons_zero, List.set_cons_succ, i64_w, i32_w]
    rfl
  refine pure_ (i := 7) (N := (some 76)) (v := ?_) (a' := ?_) #[true, true, true, true, true, true, true, true, false] rfl rfl (any_of HT_.out (by kernel_rfl)) (fun _ _ _ h => h) (Or.inl ⟨by rfl, ?_⟩) ?_ ?_
  rotate_left
  · intro w'
    go_simp
    first | (with_reducible rfl) | (rw [if_pos ⟨by omega, by omega⟩, htn, if_neg (by omega)]; rfl) | (rw [if_pos (by omega), if_neg (by omega)]; rfl) | (rw [if_neg (by omega)]; rfl) | trace_state
  rotate_left
  · simp only [Act.put, List.setIfInBounds_toArray, List.set_cons_zero, List.set_cons_succ, i64_w, i32_w]
    rfl
  refine one_ (i := 8) (N := (some 77)) #[true, true, true, true, true, true, true, true, true] rfl rfl (one_of HT_.out (by kernel_rfl)) (by decide) (fun K hK => ?_)
  refine step_copyR rfl (.tmp 73) (.tmp 76) 25 25 rfl (.slice (some ⟨g, (i + 1) * 3, none⟩) (n - i) (cap - (i + 1))) (.slice (some ⟨g, i * 3, none⟩) (n + 1 - i) (cap - i)) (by rfl) (by rfl) (CP1.out _ _ _) ?_
  refine hK.out _ _ trivial (fun hHeld => ?_)
  clear hK K
  refine norm_ (a' := ?_) ?_ ?_
  rotate_left
  · show Act.put _ (some 77) _ = _
    simp only [Act.put, List.setIfInBounds_toArray, List.set_cons_zero, List.set_cons_succ, i64_w, i32_w]
    rfl
  refine done_ (done_of HT_.out (by kernel_rfl)) ?_
  have cp2 := CP2.out
  go_wp2
  go_ret
  exact HFIN.out
theorem grow_list (ROW inner D R1 R2 V : List Value) (i n : Nat) (hi : i < n) (hl : (n + 1) * 3 ≤ ROW.length) (hlen : inner.length = n * 3) (h0 : ROW.take (i * 3) = inner.take (i * 3)) (hD : D = inner.drop (i * 3)) (hV : V.length = 3)
    (hR1 : R1 = ROW.take (i * 3) ++ V ++ ROW.drop (i * 3 + V.length)) (hR2 : R2 = R1.take ((i + 1) * 3) ++ D ++ R1.drop ((i + 1) * 3 + D.length)) : R2.length = ROW.length ∧ R2.take ((n + 1) * 3) = inner.take (i * 3) ++ (V ++ inner.drop (i * 3)) := by
  have hDl : D.length = (n - i) * 3 := by rw [hD, List.length_drop, hlen, Nat.sub_mul]
  have hR1l : R1.length = ROW.length := by rw [hR1, splice_len _ _ _ (by omega)]
  have e1 : R1.take ((i + 1) * 3) = inner.take (i * 3) ++ V := by
    rw [show (i + 1) * 3 = i * 3 + V.length by omega, hR1, splice_take _ _ _ (by omega), h0]
  refine ⟨by rw [hR2, splice_len _ _ _ (by omega), hR1l], ?_⟩
  rw [show (n + 1) * 3 = (i + 1) * 3 + D.length by omega, hR2, splice_take _ _ _ (by omega), e1, List.append_assoc, ← hD]
theorem grownBy_setNew {w w1 : World} {g h : Nat} (hg : w.grownBy w1 (some g)) (hh : w.heap.size ≤ h) (cs : Array Value) : w.grownBy (w1.setRow h cs) (some g) :=
  ⟨hg.os, hg.tape, hg.output, by simpa using hg.size, fun k hk hne => (setRow_other w1 h k cs (by omega)).trans (hg.block k hk hne)⟩
theorem zero_len (z : Value) (hz : z.cells.size = 3) (k : Nat) : (Builtin.zeroCells z.cells k).size = k * 3 := by simp [Builtin.zeroCells, hz]
set_option maxHeartbeats 4000000 in
set_option maxRecDepth 100000 in
theorem insert.grow (l : List S52) (x : S52) (i g cap vb tv : Nat) (w : World) (cur : Array Value) (inner : List Value) (R : S52 → List Value → Prop) (H : RowIn w g cap l.length cur inner) (hr : Reps R 3 l inner) (hRR : ∀ p c, R p c → c = V3 p)
    (hv : w.heap[vb]? = some (.cells #[.int .i64 x.f0.f0, .int .i64 x.f0.f1, .int .i64 x.f1] tv (0, 0))) (hi : i < l.length) (hroom : cap < l.length + 1) (hf : Fits l) :
    Calls Try.prog 22 #[.slice (some ⟨g, 0, none⟩) l.length cap, .int .i64 (i : Int), .slice (some ⟨vb, 0, none⟩) 1 1] w (InsPost (.slice (some ⟨g, 0, none⟩) l.length cap) l x i w) := by
  obtain ⟨n, hn⟩ : ∃ n, n = l.length := ⟨_, rfl⟩
  have HN := Aside0.mk hn
  rw [← hn] at H hi hroom ⊢
  have hlt : n < 1099511627776 := by rw [hn]; exact hf
  obtain ⟨i0, hi0, hz0, hsz, hby⟩ := info_parts info52
  have hlen := H.len
  have hone := H.one l R hn.symm hr hRR
  have hnc := H.hn
  have c1 : ∀ W, (Instr.slice 25 (.slice (some ⟨g, 0, none⟩) n cap) (some (.int .i64 (i : Int))) none none).run Try.prog W = .ok (.slice (some ⟨g, i * 3, none⟩) (n - i) (cap - i)) W := fun W => by
    have := cutL g 0 n cap i (by omega) (by omega) hnc W
    rwa [Nat.zero_add] at this
  have c2 : ∀ W, (Instr.slice 25 (.slice (some ⟨g, 0, none⟩) n cap) none (some (.int .i64 (i : Int))) none).run Try.prog W = .ok (.slice (some ⟨g, 0, none⟩) i cap) W := fun W => cutH g 0 n cap i (by omega) W
  obtain ⟨h, hh⟩ : ∃ h, h = w.heap.size := ⟨_, rfl⟩
  obtain ⟨G, hG⟩ : ∃ G, G = grownCap w (n + 1) cap 52 := ⟨_, rfl⟩
  have hGn : n + 1 ≤ G := by rw [hG]; exact grownCap_ge w _ _ _
  have hGm : G ≤ maxLen := by rw [hG]; exact grownCap_le_maxLen w (n + 1) cap 52 (by unfold maxLen; omega)
  have hgw : g < h := by rw [hh]; exact blk_lt H.hh
  have hvw : vb < h := by rw [hh]; exact blk_lt hv
  have hkk : (n : Int) + 1 - (i : Int) = ((n + 1 - i : Nat) : Int) := by omega
  have hik : i + (n + 1 - i) = n + 1 := by omega
  obtain ⟨Z1, hZ1⟩ : ∃ Z, Z = Builtin.zeroCells (Value.agg #[.int .i64 0, .int .i64 0, .int .i64 0]).cells (n + 1 - i) := ⟨_, rfl⟩
  obtain ⟨Z2, hZ2⟩ : ∃ Z, Z = Builtin.zeroCells (Value.agg #[.int .i64 0, .int .i64 0, .int .i64 0]).cells (G - (n + 1)) := ⟨_, rfl⟩
  have hZ1l : Z1.toList.length = (n + 1 - i) * 3 := by rw [hZ1, Array.length_toList]; exact zero_len (.agg #[.int .i64 0, .int .i64 0, .int .i64 0]) rfl _
  have hZ2l : Z2.toList.length = (G - (n + 1)) * 3 := by rw [hZ2, Array.length_toList]; exact zero_len (.agg #[.int .i64 0, .int .i64 0, .int .i64 0]) rfl _
  obtain ⟨ROW, hROW⟩ : ∃ ROW : List Value, ROW = inner.take (i * 3) ++ Z1.toList ++ Z2.toList := ⟨_, rfl⟩
  have hRl : ROW.length = G * 3 := by
    rw [hROW, List.length_append, List.length_append, List.length_take, hZ1l, hZ2l, hlen]
    omega
  have hrz : ∀ ty, (Builtin.append_ #[25, 3] ty #[.slice (some ⟨g, 0, none⟩) i cap, .int .i64 ((n : Int) + 1 - (i : Int))]).run Try.prog w = .ok (.slice (some ⟨h, 0, none⟩) (n + 1) G) (w.drew.alloc (.cells ROW.toArray 52)) := fun ty => by
    have hold : (Builtin.firstCells i0.size i (.slice (some ⟨g, 0, none⟩) i cap)).run Try.prog w.drew = .ok (inner.take (i * 3)).toArray w.drew := by
      rw [hsz]
      exact run_firstCells_some w.drew 3 i ⟨g, 0, none⟩ i cap (inner.take (i * 3)) (by rw [List.length_take]; omega) (fun j v hj => by
        rw [Addr.add_lit, Nat.zero_add]
        rw [List.getElem?_take] at hj
        split at hj
        · exact H.cell j v hj
        · cases hj)
    have q := Lib.run_append_grow_zeros (P := Try.prog) w 25 3 ty 52 i0 _ .i64 .i64 Try.underlying25 Try.underlying3 hi0 hz0 (some ⟨g, 0, none⟩) i cap (inner.take (i * 3)) hold (n + 1 - i) (by omega) (by omega) (by omega) (by omega) (by rw [hby]; omega) (by rw [hby, hik]; exact growslice_fits hroom (by omega))
    rw [hik, ← hh, ← hG, ← hZ1, ← hZ2] at q
    rw [hkk, q, hROW]
    have e : (inner.take (i * 3)).toArray ++ Z1 ++ Z2 = (inner.take (i * 3) ++ Z1.toList ++ Z2.toList).toArray := by apply Array.ext'; simp
    rw [e]
  obtain ⟨D, hD⟩ : ∃ D, D = inner.drop (i * 3) := ⟨_, rfl⟩
  have hDl : D.length = (n - i) * 3 := by rw [hD, List.length_drop, hlen, Nat.sub_mul]
  have hD1 : ∀ v ∈ D, v.oneCell' = true := fun v hv => hone v (by rw [hD] at hv; exact List.mem_of_mem_drop hv)
  obtain ⟨R1, hR1⟩ : ∃ R1, R1 = (ROW.take (i * 3) ++ V3 x ++ ROW.drop (i * 3 + (V3 x).length)) := ⟨_, rfl⟩
  have hV : (V3 x).length = 3 := rfl
  have hR1l : R1.length = ROW.length := by rw [hR1, splice_len _ _ _ (by omega)]
  obtain ⟨R2, hR2⟩ : ∃ R2, R2 = (R1.take ((i + 1) * 3) ++ D ++ R1.drop ((i + 1) * 3 + D.length)) := ⟨_, rfl⟩
  obtain ⟨W1, hW1⟩ : ∃ W1, W1 = w.drew.alloc (.cells ROW.toArray 52) := ⟨_, rfl⟩
  have hW1h : W1.heap[h]? = some (.cells ROW.toArray 52 (0, 0)) := by rw [hW1, hh]; exact heap_alloc_new w.drew _
  have hW1o : ∀ k, k < h → W1.heap[k]? = w.heap[k]? := fun k hk => by rw [hW1]; exact (World.grownBy_alloc w.drew _ none).block k (by rw [hh] at hk; exact hk) (by simp)
  have g1 : w.grownBy W1 (some g) := by
    rw [hW1]
    have q := World.grownBy_alloc w.drew (.cells ROW.toArray 52) (some g)
    exact ⟨q.os, q.tape, q.output, q.size, q.block⟩
  have c3 : ∀ W, (Instr.slice 25 (.slice (some ⟨h, 0, none⟩) (n + 1) G) (some (.int .i64 (i : Int))) none none).run Try.prog W = .ok (.slice (some ⟨h, i * 3, none⟩) (n + 1 - i) (G - i)) W := fun W => by
    have := cutL h 0 (n + 1) G i (by omega) (by omega) hGn W
    rwa [Nat.zero_add] at this
  have cpA : ∀ ty dc, (Builtin.copy_ #[25, 25] ty #[.slice (some ⟨h, i * 3, none⟩) (n + 1 - i) dc, .slice (some ⟨vb, 0, none⟩) 1 1]).run Try.prog W1 = .ok (goInt ((1 : Nat) : Int)) (W1.setRow h R1.toArray) := fun ty dc => by
    have q := run_copyK W1 25 25 ty 52 h (i * 3) (n + 1 - i) dc ⟨vb, 0, none⟩ 1 1 ROW.toArray 52 (V3 x) i0 3 Try.underlying25 hi0 hsz hW1h 1 (by simp only [Nat.min_def]; split <;> omega) rfl
      (fun j v hj => by rw [Addr.add_lit, Nat.zero_add, blk_cell ((hW1o vb hvw).trans hv)]; simpa [V3] using hj) (by simp only [List.size_toArray, hRl]; simp [V3]; omega) (V3_one x)
    rw [List.toList_toArray, ← hR1] at q
    exact q
  obtain ⟨W2, hW2⟩ : ∃ W2, W2 = W1.setRow h R1.toArray := ⟨_, rfl⟩
  rw [← hW2] at cpA
  have hW2h : W2.heap[h]? = some (.cells R1.toArray 52 (0, 0)) := by rw [hW2]; exact setRow_twice_heap hW1h
  have hW2g : W2.heap[g]? = some (.cells cur 52 (0, 0)) := by rw [hW2]; exact ((setRow_other W1 h g _ (by omega)).trans (hW1o g hgw)).trans H.hh
  have g2 : w.grownBy W2 (some g) := by rw [hW2]; exact grownBy_setNew g1 (by omega) _
  have cpB : ∀ ty dc sc, (Builtin.copy_ #[25, 25] ty #[.slice (some ⟨h, (i + 1) * 3, none⟩) (n - i) dc, .slice (some ⟨g, i * 3, none⟩) (n - i) sc]).run Try.prog W2.drew = .ok (goInt ((n - i : Nat) : Int)) (W2.drew.setRow h R2.toArray) := fun ty dc sc => by
    have H2 : RowIn W2 g cap n cur inner := ⟨hW2g, H.hn, H.hc, H.hs, H.ht⟩
    have q := run_copyK W2.drew 25 25 ty 52 h ((i + 1) * 3) (n - i) dc ⟨g, i * 3, none⟩ (n - i) sc R1.toArray 52 D i0 3 Try.underlying25 hi0 hsz hW2h (n - i) (by simp only [Nat.min_def]; split <;> omega) hDl
      (fun j v hj => by rw [Addr.add_lit]; exact H2.cell (i * 3 + j) v (by rw [hD, List.getElem?_drop] at hj; exact hj)) (by simp only [List.size_toArray, hR1l, hRl, hDl]; omega) hD1
    rw [List.toList_toArray, ← hR2] at q
    exact q
  have HFIN : Aside0 (InsPost (.slice (some ⟨g, 0, none⟩) n cap) l x i w (.returned (.slice (some ⟨h, 0, none⟩) (n + 1) G)) (W2.drew.setRow h R2.toArray)) := by
    refine ⟨⟨_, rfl, ?_, ?_, .inr ⟨h, rfl, by omega⟩⟩⟩
    · have hl2 : (ins l i x).length = n + 1 := by rw [ins_len _ _ _ (by omega), ← hn]
      rw [← hl2]
      have q := grow_list ROW inner D R1 R2 (V3 x) i n hi (by omega) hlen (by rw [hROW, List.append_assoc, List.take_append_of_le_length (by rw [List.length_take]; omega), List.take_take, Nat.min_self]) hD rfl hR1 hR2
      refine R_made (setRow_twice_heap (w := W2.drew) hW2h) (by omega) hGm ?_ ?_ (reps_ins (R' := fun p c => c = V3 p) hr hRR i (by omega) x rfl) (fun _ _ h => h)
      · simpa [hRl] using q.1
      · rw [hl2]; exact q.2
    · have g3 : w.grownBy W2.drew (some g) := ⟨g2.os, g2.tape, g2.output, g2.size, g2.block⟩
      exact grownBy_setNew g3 (by omega) _
  have hz2 : ¬ ((i : Int) = (n : Int)) := by omega
  have hz3 : (cap : Int) < (n : Int) + 1 := by omega
  have hw1 : wrap64 ((i : Int) + 1) = (i : Int) + 1 := w64_succ i (Nat.lt_trans hi hlt)
  have htn : ((i : Int) + 1).toNat = i + 1 := nat_succ i
  have hgi : ¬ G = i + 1 := Nat.ne_of_gt (Nat.lt_of_lt_of_le (Nat.succ_lt_succ hi) hGn)
  have hci : ¬ cap = i := Nat.ne_of_gt (Nat.lt_of_lt_of_le hi hnc)
  rw [← hW1] at hrz
  have HRZ := Aside0.mk hrz
  have CPB := Aside0.mk cpB
  clear hrz cpB g1 g2 hW1 hW2 hW1h hW1o hW2h hW2g hR1 hR2 hR1l hRl hV hD hDl hD1 hone hlen hr hRR hv hi0 hz0 hsz hby H hf hn hROW hkk hik hG hGm hh hgw hvw hnc hZ1 hZ2 hZ1l hZ2l
  go_enter Try.func22, Try.ntmps22
  go_wp2_with ((with_reducible refine gate_builtin (b := .append) (xs := #[.tmp 34, .tmp 39]) rfl ?_); at_builtin; refine Lib.wpList_append_run _ rfl _ _ _ _ rfl _ _ rfl rfl _ _ (HRZ.out _) ?_)
  refine start_ (n := 9) (S := fun _ => True) (ds := []) #[false, false, false, false, false, false, false, false, false] (by kernel_rfl) rfl rfl trivial (fun hHeld => ?_); refine with_tabW insert.tab11 insert.bits11 (fun HT_ HW_ => ?_)
  refine pure_ (i := 0) (N := (some 46)) (v := ?_) (a' := ?_) #[true, false, false, false, false, false, false, false, false] rfl rfl (any_of HT_.out (by kernel_rfl)) (fun _ _ _ h => h) (Or.inl ⟨by rfl, ?_⟩) ?_ ?_
  rotate_left
  · intro w'
    go_simp
    with_reducible rfl
  rotate_left
  · simp only [Act.put, List.setIfInBounds_toArray, List.set_cons_zero, List.set_cons_succ, i64_w, i32_w]
    rfl
  refine pure_ (i := 1) (N := (some 47)) (v := ?_) (a' := ?_) #[true, true, false, false, false, false, false, false, false] rfl rfl (any_of HT_.out (by kernel_rfl)) (fun _ _ _ h => h) (Or.inl ⟨by rfl, ?_⟩) ?_ ?_
  rotate_left
  · intro w'
    go_simp
    with_reducible rfl
  rotate_left
  · simp only [Act.put, List.setIfInBounds_toArray, List.set_cons_zero, List.set_cons_succ, i64_w, i32_w]
    rfl
  refine pure_ (i := 2) (N := (some 48)) (v := ?_) (a' := ?_) #[true, true, true, false, false, false, false, false, false] rfl rfl (any_of HT_.out (by kernel_rfl)) (fun _ _ _ h => h) (Or.inl ⟨by rfl, ?_⟩) ?_ ?_
  rotate_left
  · intro w'
    go_simp
    with_reducible rfl
  rotate_left
  · simp only [Act.put, List.setIfInBounds_toArray, List.set_cons_zero, List.set_cons_succ, i64_w, i32_w]
    rfl
  refine pure_ (i := 3) (N := (some 49)) (v := ?_) (a' := ?_) #[true, true, true, true, false, false, false, false, false] rfl rfl (any_of HT_.out (by kernel_rfl)) (fun _ _ _ h => h) (Or.inl ⟨by rfl, ?_⟩) ?_ ?_
  rotate_left
  · intro w'
    go_simp
    simp only [i64_w, hw1]
    with_reducible rfl
  rotate_left
  · simp only [Act.put, List.setIfInBounds_toArray, List.set_cons_zero, List.set_cons_succ, i64_w, i32_w]
    rfl
  refine pure_ (i := 4) (N := (some 50)) (v := ?_) (a' := ?_) #[true, true, true, true, true, false, false, false, false] rfl rfl (any_of HT_.out (by kernel_rfl)) (fun _ _ _ h => h) (Or.inl ⟨by rfl, ?_⟩) ?_ ?_
  rotate_left
  · intro w'
    go_simp
    first | (with_reducible rfl) | (rw [if_pos ⟨by omega, by omega⟩, htn, if_neg hgi]; rfl) | (refine (if_pos ?c).trans ?_; (case c => exact ⟨by omega, by omega⟩); rfl) | (rw [if_pos (by omega), if_neg hci]; rfl) | (rw [if_neg hci]; rfl)
  rotate_left
  · simp only [Act.put, List.setIfInBounds_toArray, List.set_cons_zero, List.set_cons_succ, i64_w, i32_w]
    rfl
  refine pure_ (i := 5) (N := (some 51)) (v := ?_) (a' := ?_) #[true, true, true, true, true, true, false, false, false] rfl rfl (any_of HT_.out (by kernel_rfl)) (fun _ _ _ h => h) (Or.inl ⟨by rfl, ?_⟩) ?_ ?_
  rotate_left
  · intro w'
    go_simp
    with_reducible rfl
  rotate_left
  · simp only [Act.put, List.setIfInBounds_toArray, List.set_cons_zero, List.set_cons_succ, i64_w, i32_w]
    rfl
  refine pure_ (i := 6) (N := (some 52)) (v := ?_) (a' := ?_) #[true, true, true, true, true, true, true, false, false] rfl rfl (any_of HT_.out (by kernel_rfl)) (fun _ _ _ h => h) (Or.inl ⟨by rfl, ?_⟩) ?_ ?_
  rotate_left
  · intro w'
    go_simp
    with_reducible rfl
  rotate_left
  · simp only [Act.put, List.setIfInBounds_toArray, List.set_cons_zero, List.set_cons_succ, i64_w, i32_w]
    rfl
  refine pure_ (i := 7) (N := (some 53)) (v := ?_) (a' := ?_) #[true, true, true, true, true, true, true, true, false] rfl rfl (any_of HT_.out (by kernel_rfl)) (fun _ _ _ h => h) (Or.inl ⟨by rfl, ?_⟩) ?_ ?_
  rotate_left
  · intro w'
    go_simp
    first | (with_reducible rfl) | (rw [if_pos ⟨by omega, by omega⟩, htn, if_neg hgi]; rfl) | (refine (if_pos ?c).trans ?_; (case c => exact ⟨by omega, by omega⟩); rfl) | (rw [if_pos (by omega), if_neg hci]; rfl) | (rw [if_neg hci]; rfl)
  rotate_left
  · simp only [Act.put, List.setIfInBounds_toArray, List.set_cons_zero, List.set_cons_succ, i64_w, i32_w]
    rfl
  refine one_ (i := 8) (N := (some 54)) #[true, true, true, true, true, true, true, true, true] rfl rfl (one_of HT_.out (by kernel_rfl)) (by decide) (fun K hK => ?_)
  refine step_copyR rfl (.tmp 50) (.tmp 53) 25 25 rfl (.slice (some ⟨h, (i + 1) * 3, none⟩) (n - i) (G - (i + 1))) (.slice (some ⟨g, i * 3, none⟩) (n - i) (cap - i)) (by rfl) (by rfl) (CPB.out _ _ _) ?_
  refine hK.out _ _ trivial (fun hHeld => ?_)
  clear hK K
  refine norm_ (a' := ?_) ?_ ?_
  rotate_left
  · show Act.put _ (some 54) _ = _
    simp only [Act.put, List.setIfInBounds_toArray, List.set_cons_zero, List.set_cons_succ, i64_w, i32_w]
    rfl
  refine done_ (done_of HT_.out (by kernel_rfl)) ?_
  go_wp2
  go_ret
  exact HFIN.out
end Go.Proofs.Ytcfgpfappidkaaa.F
