/- How a law's arguments are opened where they are whole numbers in structs and arrays, or slices of such: over any program. -/
import Derived.WalkKit
import Derived.ProofKit
import Derived.OpenShut
import Derived.ShutString
import Derived.ChangeOld
import Derived.Below
import Derived.SizedLaws
import Derived.Deep.Slices
import Derived.Test.YtglkjeeiiflpjaaF0
namespace Go.Proofs.Ytglkjeeiiflpjaa.R
open Go.ChangeShapes Go.WideShapes Go.ChangeAt Go.RowKit Go.Deep
open Go.Proofs.YtglkjeeiiflpjaaW.PrintWords
set_option linter.unusedVariables false

theorem mapM_mem {α β : Type} {f : α → Option β} : ∀ {l : List α} {r : List β}, l.mapM f = some r → ∀ a ∈ l, ∃ b, f a = some b := by
  intro l
  induction l with
  | nil => intro r _ a ha; cases ha
  | cons x l ih =>
    intro r h a ha
    rw [List.mapM_cons] at h
    obtain ⟨y, hy, h⟩ := Option.bind_eq_some_iff.1 h
    obtain ⟨ys, hys, _⟩ := Option.bind_eq_some_iff.1 h
    rcases List.mem_cons.1 ha with rfl | ha
    · exact ⟨y, hy⟩
    · exact ih hys a ha
theorem mapM_at {α β : Type} {f : α → Option β} : ∀ {l : List α} {r : List β}, l.mapM f = some r → r.length = l.length ∧ ∀ (i : Nat) (a : α), l[i]? = some a → ∃ b : β, r[i]? = some b ∧ f a = some b := by
  intro l
  induction l with
  | nil =>
    intro r h
    have : r = [] := by simpa using h.symm
    subst this
    exact ⟨rfl, fun i a ha => by simp at ha⟩
  | cons x l ih =>
    intro r h
    rw [List.mapM_cons] at h
    obtain ⟨y, hy, h⟩ := Option.bind_eq_some_iff.1 h
    obtain ⟨ys, hys, h⟩ := Option.bind_eq_some_iff.1 h
    have : y :: ys = r := by simpa using h
    subst this
    obtain ⟨i1, i2⟩ := ih hys
    refine ⟨by simp [i1], fun i a ha => ?_⟩
    cases i with
    | zero =>
      have : x = a := by simpa using ha
      subst this
      exact ⟨y, rfl, hy⟩
    | succ i => exact i2 i a (by simpa using ha)

/-- A type of whole numbers alone: int, structs and arrays of such. -/
def intsB (P : Program) : Nat → TypeId → Bool
  | 0, _ => false
  | d + 1, t => match P.underlying t with
    | some (.int .i64) => true
    | some (.struct fs) => (fs.toList.all fun f => intsB P d f.type) && ((List.range (P.cellsOf t)).all fun i => fs.toList.any fun f => decide (f.offset ≤ i) && decide (i < f.offset + P.cellsOf f.type))
    | some (.array n e) => intsB P d e && ((List.range (P.cellsOf t)).all fun i => (List.range n).any fun j => decide (j * P.cellsOf e ≤ i) && decide (i < j * P.cellsOf e + P.cellsOf e))
    | _ => false

section
variable {H : Type} {enc : TypeId × Value → H} {P : Program} {w : World} {base : Nat} {spare : Nat → Bool} {held : Bool}

theorem cover_mem {cs : List Value} {i o n : Nat} (hi : i < cs.length) (h1 : o ≤ i) (h2 : i < o + n) : cs[i] ∈ (cs.drop o).take n := by
  rw [List.mem_iff_getElem]
  refine ⟨i - o, by simp; omega, ?_⟩
  simp [List.getElem_take, List.getElem_drop, show o + (i - o) = i by omega]

theorem trod_ints : ∀ (d fuel : Nat) (t : TypeId) (cs : List Value) (x : DataW H × List MemPlace), intsB P d t = true → DataW.trod enc P w base spare held fuel t cs = some x → ∀ v ∈ cs, ∃ n : Int, v = .int .i64 n ∧ (Lit.int .i64 n).wf = true := by
  intro d
  induction d with
  | zero => intro fuel t cs x h; simp [intsB] at h
  | succ d ih =>
    intro fuel t cs x hI h v hv
    cases fuel with
    | zero => simp [DataW.trod] at h
    | succ fuel =>
      unfold intsB at hI
      split at hI
      · rename_i hu
        simp only [DataW.trod, hu] at h
        split at h <;> simp_all
      · rename_i fs hu
        simp only [Bool.and_eq_true, List.all_eq_true] at hI
        obtain ⟨hI1, hI2⟩ := hI
        simp only [DataW.trod, hu] at h
        have h' : (if cs.length = P.cellsOf t then ((fs.toList.mapM fun f => DataW.trod enc P w base spare held fuel f.type ((cs.drop f.offset).take (P.cellsOf f.type))).map fun xs => ((DataW.agg (xs.map (·.1))), xs.flatMap (·.2))) else none) = some x := by
          first | exact h | (split at h <;> first | exact h | simp_all)
        split at h'
        · rename_i hlen
          obtain ⟨ys, hys, _⟩ := Option.map_eq_some_iff.1 h'
          obtain ⟨i, hi, rfl⟩ := List.getElem_of_mem hv
          have hc := hI2 i (List.mem_range.2 (by omega))
          obtain ⟨f, hf, hcov⟩ := List.any_eq_true.1 hc
          simp only [Bool.and_eq_true, decide_eq_true_eq] at hcov
          obtain ⟨b, hb⟩ := mapM_mem hys f hf
          exact ih fuel f.type _ b (hI1 f hf) hb _ (cover_mem hi hcov.1 hcov.2)
        · cases h'
      · rename_i n e hu
        simp only [Bool.and_eq_true, List.all_eq_true] at hI
        obtain ⟨hI1, hI2⟩ := hI
        simp only [DataW.trod, hu] at h
        have h' : (if cs.length = P.cellsOf t then ((List.range n).mapM fun i => DataW.trod enc P w base spare held fuel e ((cs.drop (i * P.cellsOf e)).take (P.cellsOf e))).map fun xs => ((DataW.agg (xs.map (·.1))), xs.flatMap (·.2)) else none) = some x := by
          first | exact h | (split at h <;> first | exact h | simp_all)
        split at h'
        · rename_i hlen
          obtain ⟨ys, hys, _⟩ := Option.map_eq_some_iff.1 h'
          obtain ⟨i, hi, rfl⟩ := List.getElem_of_mem hv
          have hc := hI2 i (List.mem_range.2 (by omega))
          obtain ⟨j, hj, hcov⟩ := List.any_eq_true.1 hc
          simp only [Bool.and_eq_true, decide_eq_true_eq] at hcov
          obtain ⟨b, hb⟩ := mapM_mem hys j hj
          exact ih fuel e _ b hI1 hb _ (cover_mem hi hcov.1 hcov.2)
        · cases h'
      · cases hI

/-- All cells as whole numbers. -/
theorem ints_of {cs : List Value} (h : ∀ v ∈ cs, ∃ n : Int, v = .int .i64 n ∧ (Lit.int .i64 n).wf = true) : ∃ ns : List Int, cs = ns.map (Value.int .i64) ∧ ∀ n ∈ ns, (Lit.int .i64 n).wf = true := by
  induction cs with
  | nil => exact ⟨[], rfl, fun n hn => by cases hn⟩
  | cons v cs ih =>
    obtain ⟨ns, rfl, h2⟩ := ih fun u hu => h u (List.mem_cons_of_mem _ hu)
    obtain ⟨n, rfl, hn⟩ := h v List.mem_cons_self
    refine ⟨n :: ns, rfl, fun m hm => ?_⟩
    rcases List.mem_cons.1 hm with rfl | hm
    · exact hn
    · exact h2 m hm

/-- A struct or an array of whole numbers, by value. -/
theorem open_flat {r : Reach} {b0 : Nat} {t : TypeId} {v : Value} {d : DataW H} {p : List MemPlace} {k : Nat} (n : Nat) (hI : intsB P k t = true) (hA : (∃ fs, P.underlying t = some (.struct fs)) ∨ ∃ m e, P.underlying t = some (.array m e)) (hC : P.cellsOf t = n)
    (hv : Value.okWide P w r b0 t v) (h : DataW.Trod enc P w base spare held t v d p) : ∃ ns : List Int, v = .agg (ns.map (Value.int .i64)).toArray ∧ ns.length = n ∧ ∀ x ∈ ns, (Lit.int .i64 x).wf = true := by
  have hs : ∃ cs, v = .agg cs ∧ cs.size = P.cellsOf t := by
    rcases hA with ⟨fs, hu⟩ | ⟨m, e, hu⟩
    · exact okWide_struct hu hv
    · simp only [Value.okWide, hu] at hv
      obtain ⟨cs, h1, h2, _⟩ := hv
      exact ⟨cs, h1, h2⟩
  obtain ⟨cs, rfl, hsz⟩ := hs
  obtain ⟨fuel, hf⟩ := h
  have hall := trod_ints k fuel t cs.toList _ hI (by simpa [Value.cells] using hf)
  obtain ⟨ns, hns, hw⟩ := ints_of hall
  refine ⟨ns, ?_, ?_, hw⟩
  · rw [← hns]
  · have : cs.toList.length = n := by simpa [hC] using hsz
    rw [hns] at this
    simpa using this

theorem wf_bounds {n : Int} (h : (Lit.int .i64 n).wf = true) : -9223372036854775808 ≤ n ∧ n ≤ 9223372036854775807 := by
  have hmin : IntKind.i64.min = -9223372036854775808 := rfl
  have hmax : IntKind.i64.max = 9223372036854775807 := rfl
  simp only [Lit.wf, Bool.and_eq_true, decide_eq_true_eq] at h
  omega

/-- What is known of a slice's elements of whole numbers: sz cells each. -/
def IsRows (w : World) (sz : Nat) (a : Option Addr) (len cap : Nat) (xs : List (List Int)) : Prop :=
  xs.length = len ∧ len ≤ cap ∧ cap ≤ maxLen ∧ (∀ x ∈ xs, x.length = sz ∧ ∀ n ∈ x, (Lit.int .i64 n).wf = true) ∧
    (0 < len → ∃ ad, a = some ad ∧ ∀ j x, xs[j]? = some x → ∀ i n, x[i]? = some n → w.cell? (ad.add (j * sz + i)) = some (.int .i64 n))

theorem cells_at {a : Addr} {n : Nat} {cs : List Value} (h : w.cells? base a n = some cs) : cs.length = n ∧ ∀ i v, cs[i]? = some v → w.cell? (a.add i) = some v := by
  unfold World.cells? at h
  split at h
  · obtain ⟨h1, h2⟩ := mapM_at h
    rw [List.length_range] at h1
    refine ⟨h1, fun i v hv => ?_⟩
    have hi : i < n := by have := (List.getElem?_eq_some_iff.1 hv).1; omega
    obtain ⟨b, hb, hc⟩ := h2 i i (by simp [hi])
    rw [hb] at hv
    injection hv with hv
    subst hv
    exact hc
  · cases h

theorem add_add (a : Addr) (i j : Nat) : (a.add i).add j = a.add (i + j) := by
  unfold Addr.add
  by_cases h1 : i = 0 <;> by_cases h2 : j = 0 <;> simp [h1, h2, Nat.add_assoc]

theorem open_rows {t e : TypeId} {a0 : Option Addr} {len cap k : Nat} {d : DataW H} {p : List MemPlace} (sz : Nat) (ht : P.underlying t = some (.slice e)) (hI : intsB P k e = true) (hC : P.cellsOf e = sz)
    (h : DataW.Trod enc P w base spare held t (.slice a0 len cap) d p) : ∃ xs, IsRows w sz a0 len cap xs := by
  obtain ⟨fuel, hf⟩ := h
  rcases open_slice ht hf with ⟨hcs, _⟩ | ⟨a, l, c, m, n, D, Pl, hcs, hb, hl, hm, hmm, hx, hel⟩
  · simp [Value.cells] at hcs
    obtain ⟨rfl, rfl, rfl⟩ := hcs
    exact ⟨[], rfl, Nat.le_refl _, Nat.zero_le _, (fun x hx => absurd hx (by simp)), fun h => absurd h (by omega)⟩
  · simp [Value.cells] at hcs
    obtain ⟨rfl, rfl, rfl⟩ := hcs
    have hlm : len ≤ m := by rw [hmm]; split <;> omega
    have each : ∀ i, i < len → ∃ ns : List Int, ns.length = sz ∧ (∀ n ∈ ns, (Lit.int .i64 n).wf = true) ∧ ∀ q u, ns[q]? = some u → w.cell? (a.add (i * sz + q)) = some (.int .i64 u) := by
      intro i hi
      obtain ⟨cs', h1, h2⟩ := hel i (by omega)
      obtain ⟨ns, hns, hw⟩ := ints_of (trod_ints k n e cs' _ hI h2)
      obtain ⟨g1, g2⟩ := cells_at h1
      rw [hC] at g1 g2
      refine ⟨ns, by rw [hns] at g1; simpa using g1, hw, fun q u hq => ?_⟩
      have := g2 q (.int .i64 u) (by rw [hns]; simp [hq])
      rwa [add_add] at this
    have main : ∀ k', k' ≤ len → ∃ xs : List (List Int), xs.length = k' ∧ (∀ x ∈ xs, x.length = sz ∧ ∀ n ∈ x, (Lit.int .i64 n).wf = true) ∧ ∀ j x, xs[j]? = some x → ∀ i n, x[i]? = some n → w.cell? (a.add (j * sz + i)) = some (.int .i64 n) := by
      intro k'
      induction k' with
      | zero => exact fun _ => ⟨[], rfl, (fun x hx => absurd hx (by simp)), fun j x hj => absurd hj (by simp)⟩
      | succ k' ih =>
        intro hk
        obtain ⟨xs, i1, i2, i3⟩ := ih (by omega)
        obtain ⟨ns, j1, j2, j3⟩ := each k' (by omega)
        refine ⟨xs ++ [ns], by simp [i1], fun x hx => ?_, fun j x hj => ?_⟩
        · rcases List.mem_append.1 hx with hx | hx
          · exact i2 x hx
          · rw [List.mem_singleton.1 hx]
            exact ⟨j1, j2⟩
        · rcases Nat.lt_or_ge j xs.length with hlt | hge
          · rw [List.getElem?_append_left hlt] at hj
            exact i3 j x hj
          · rw [List.getElem?_append_right hge] at hj
            have hj0 : j - xs.length = 0 := by
              have := (List.getElem?_eq_some_iff.1 hj).1
              simp at this
              omega
            rw [hj0] at hj
            have : ns = x := by simpa using hj
            subst this
            obtain rfl : j = k' := by omega
            exact j3
    obtain ⟨xs, x1, x2, x3⟩ := main len (Nat.le_refl _)
    exact ⟨xs, x1, hl, hm, x2, fun _ => ⟨a, rfl, x3⟩⟩

/-- As the printed words have it. -/
theorem IsRows.reads {α : Type} {kd : Kd α} {sz : Nat} {a : Option Addr} {len cap : Nat} {xs : List (List Int)} (h : IsRows w sz a len cap xs) (mk : List Int → α) (hsz : kd.sz = sz) (hmk : ∀ x : List Int, x.length = sz → kd.K w (mk x) (x.map (Value.int .i64))) :
    Kd.C kd w a (xs.map mk).length (xs.map mk) := by
  obtain ⟨h1, h2, h3, h4, h5⟩ := h
  refine ⟨rfl, by simp only [List.length_map]; unfold maxLen at h3; omega, fun hn => ?_⟩
  obtain ⟨ad, rfl, hc⟩ := h5 (by simpa [h1] using hn)
  refine ⟨ad, rfl, fun j p hj => ?_⟩
  rw [List.getElem?_map] at hj
  obtain ⟨x, hx, rfl⟩ := Option.map_eq_some_iff.1 hj
  have hl := (h4 x (List.mem_of_getElem? hx)).1
  refine ⟨x.map (Value.int .i64), by simp [hl, hsz], hmk x hl, fun i u hu => ?_⟩
  rw [List.getElem?_map] at hu
  obtain ⟨n, hn', rfl⟩ := Option.map_eq_some_iff.1 hu
  rw [hsz]
  exact hc j x hx i n hn'

theorem sized_rows {t e : TypeId} {a : Option Addr} {len cap : Nat} {d : DataW H} {ps : List MemPlace} {ts : List TypeId} {ds : List (DataW H)} {j : Nat}
    (hsz : (DataW.weightsEach P ts ds).all (· ≤ reachBytes) = true) (ht : ts[j]? = some t) (hd : ds[j]? = some d) (hu : P.underlying t = some (.slice e)) {B : Nat} (hB : P.bytesOf e = B)
    (h : DataW.Trod enc P w base spare held t (.slice a len cap) d ps) : len * B ≤ 140737488351232 := by
  obtain ⟨fuel, hf⟩ := h
  rcases open_slice hu hf with ⟨hcs, _⟩ | ⟨a', l, c, m, n, D, Pl, hcs, hb, hl, hm, hmm, hx, hel⟩
  · simp [Value.cells] at hcs
    obtain ⟨rfl, rfl, rfl⟩ := hcs
    simp
  · simp [Value.cells] at hcs
    obtain ⟨rfl, rfl, rfl⟩ := hcs
    obtain ⟨hx, _⟩ := Prod.mk.inj hx
    subst hx
    have z := sized_slice hsz ht hd hu
    rw [hB] at z
    refine Nat.le_trans (Nat.mul_le_mul_right _ ?_) z
    simp
end
end Go.Proofs.Ytglkjeeiiflpjaa.R
