/- What the printed functions of the order laws come to, in plain lists: no program, no memory. -/
import Derived.Test.YtfjhelbmopdbiaaOG
import Derived.Test.YtfjhelbmopdbiaaF12
import Derived.Test.YtfjhelbmopdbiaaF11
import Derived.Test.YtfjhelbmopdbiaaHSort
import Derived.Test.YtfjhelbmopdbiaaF13
namespace Go.Proofs.Ytfjhelbmopdbiaa.O1
open Go.RowKit Go.Proofs.Ytfjhelbmopdbiaa.F Go.Proofs.YtfjhelbmopdbiaaW.PrintWords Go.Proofs.YtfjhelbmopdbiaaW.PrintLast Go.Proofs.YtfjhelbmopdbiaaW.PrintMore Go.Proofs.Ytfjhelbmopdbiaa.Ord

theorem w64 {x : Int} (h0 : -9223372036854775808 ≤ x) (h1 : x ≤ 9223372036854775807) : wrap64 x = x := by unfold wrap64; omega
theorem rd26 (l : List S26) (j : Nat) (h : j < l.length) : rd_T26 l (j : Int) = l[j] := by
  simp [rd_T26, List.getD_eq_getElem?_getD, List.getElem?_eq_getElem h]
theorem S26.eta (x : S26) : (⟨x.f0, x.f1⟩ : S26) = x := rfl
theorem rdb (d : List Bool) (j : Nat) (h : j < d.length) : rdOf false d (j : Int) = d[j] := by
  simp [rdOf, List.getD_eq_getElem?_getD, List.getElem?_eq_getElem h]

/-- One thing is ahead of another one. -/
def ltI (a b : S26) : Bool := decide (a.f0 < b.f0)
theorem swoI : SWO ltI := ⟨fun a => by simp [ltI], fun a b h => by simp [ltI] at *; omega, fun a b c h1 h2 => by simp [ltI] at *; omega⟩

/-! ### same -/
theorem same_l0 (l : List S26) (hl : l.length < 4611686018427387904) : ∀ (d i : Nat), l.length - i = d → i ≤ l.length → Ev (fun k => cobweblaw07_same.l0 k l l (l.length : Int) (i : Int)) true := by
  intro d
  induction d with
  | zero =>
    intro i hd hi
    obtain rfl : i = l.length := by omega
    refine Ev.step (f := fun _ => some true) (fun k => ?_) (Ev.now _)
    simp only [cobweblaw07_same.l0]
    rw [if_neg (by omega)]
  | succ d ih =>
    intro i hd hi
    refine Ev.step (f := fun k => cobweblaw07_same.l0 k l l (l.length : Int) ((i + 1 : Nat) : Int)) (fun k => ?_) (ih (i + 1) (by omega) (by omega))
    simp only [cobweblaw07_same.l0]
    rw [if_pos (by omega), if_pos (by omega), if_pos (by omega), if_pos (by omega), if_neg (by simp), w64 (by omega) (by omega)]
    rfl
theorem same_refl (l : List S26) (hl : l.length < 4611686018427387904) : Ev (fun k => cobweblaw07_same.f k l l) true := by
  refine Ev.congr (f := fun k => cobweblaw07_same.l0 k l l (l.length : Int) ((0 : Nat) : Int)) (fun k => ?_) (same_l0 l hl _ 0 rfl (by omega))
  simp only [cobweblaw07_same.f]
  rfl

/-! ### the document's sort -/
/-- What the inner loop knows: the best one so far. -/
def Best (l : List S26) (d : List Bool) (j : Nat) (b : Int) : Prop :=
  (b = -1 ∧ ∀ i, ∀ h1 : i < l.length, ∀ h2 : i < d.length, i < j → d[i] = true) ∨
  ∃ n : Nat, b = n ∧ n < j ∧ ∃ h1 : n < l.length, ∃ h2 : n < d.length, d[n] = false ∧ (∀ i, ∀ g1 : i < l.length, ∀ g2 : i < d.length, i < j → d[i] = false → ltI l[i] l[n] = false) ∧ ∀ i, ∀ g1 : i < l.length, ∀ g2 : i < d.length, i < n → d[i] = false → ltI l[n] l[i] = true
theorem best_step {l : List S26} {d : List Bool} {j : Nat} {b : Int} (hj : j < l.length) (hd : l.length = d.length) (h : Best l d j b) :
    (d[j] = true → Best l d (j + 1) b) ∧ (d[j] = false → (b < 0 → Best l d (j + 1) j) ∧ (∀ n : Nat, b = n → ∀ hn : n < l.length, if ltI l[j] l[n] = true then Best l d (j + 1) j else Best l d (j + 1) b)) := by
  constructor
  · intro hdj
    rcases h with ⟨rfl, h⟩ | ⟨n, rfl, hnj, h1, h2, h3, h4, h5⟩
    · refine .inl ⟨rfl, fun i g1 g2 hi => ?_⟩
      rcases Nat.lt_or_ge i j with hij | hij
      · exact h i g1 g2 hij
      · obtain rfl : i = j := by omega
        exact hdj
    · refine .inr ⟨n, rfl, by omega, h1, h2, h3, fun i g1 g2 hi hf => ?_, h5⟩
      rcases Nat.lt_or_ge i j with hij | hij
      · exact h4 i g1 g2 hij hf
      · obtain rfl : i = j := by omega
        rw [hdj] at hf
        cases hf
  · intro hdj
    constructor
    · intro hb
      rcases h with ⟨rfl, h⟩ | ⟨n, rfl, _⟩
      · refine .inr ⟨j, rfl, by omega, hj, by omega, hdj, fun i g1 g2 hi hf => ?_, fun i g1 g2 hi hf => ?_⟩
        · rcases Nat.lt_or_ge i j with hij | hij
          · rw [h i g1 g2 hij] at hf
            cases hf
          · obtain rfl : i = j := by omega
            exact swoI.irr _
        · rw [h i g1 g2 hi] at hf
          cases hf
      · omega
    · intro n hbn hn
      rcases h with ⟨rfl, h⟩ | ⟨n', rfl, hnj, h1, h2, h3, h4, h5⟩
      · omega
      · obtain rfl : n' = n := by omega
        split
        · rename_i hlt
          refine .inr ⟨j, rfl, by omega, hj, by omega, hdj, fun i g1 g2 hi hf => ?_, fun i g1 g2 hi hf => ?_⟩
          · rcases Nat.lt_or_ge i j with hij | hij
            · have := h4 i g1 g2 hij hf
              exact swoI.neg _ _ _ this (swoI.asym _ _ hlt)
            · obtain rfl : i = j := by omega
              exact swoI.irr _
          · have := h4 i g1 g2 hi hf
            exact swoI.lt_le _ _ _ hlt this
        · rename_i hlt
          refine .inr ⟨n', rfl, by omega, h1, h2, h3, fun i g1 g2 hi hf => ?_, h5⟩
          rcases Nat.lt_or_ge i j with hij | hij
          · exact h4 i g1 g2 hij hf
          · obtain rfl : i = j := by omega
            simpa using hlt
theorem ref_l1 (l out : List S26) (d : List Bool) (i : Int) (hd : l.length = d.length) (hl : l.length < 8796093022208) (r : List S26)
    (hend : ∀ b, Best l d l.length b → Ev (fun k => if 0 ≤ b then (if b < (d.length : Int) then (if b < (l.length : Int) then (if out.length < 8796093022208 then (cobwebref07_Sort.l0 k l (out ++ [(⟨(rd_T26 l b).f0, (rd_T26 l b).f1⟩ : S26)]) (d.set (b : Int).toNat true) (wrap64 (i + 1))) else (none)) else (none)) else (none)) else (none)) r) :
    ∀ (m j : Nat) (b : Int), l.length - j = m → j ≤ l.length → Best l d j b → Ev (fun k => cobwebref07_Sort.l1 k l out d i b (j : Int)) r := by
  intro m
  induction m with
  | zero =>
    intro j b hm hj hb
    obtain rfl : j = l.length := by omega
    refine Ev.step (fun k => ?_) (hend b hb)
    simp only [cobwebref07_Sort.l1]
    rw [if_neg (by omega)]
  | succ m ih =>
    intro j b hm hj hb
    have hjl : j < l.length := by omega
    have hjd : j < d.length := by omega
    obtain ⟨s1, s2⟩ := best_step hjl hd hb
    have e1 : (wrap64 ((j : Int) + 1)) = ((j + 1 : Nat) : Int) := by rw [w64 (by omega) (by omega)]; rfl
    by_cases hdj : d[j] = true
    · refine Ev.step (f := fun k => cobwebref07_Sort.l1 k l out d i b ((j + 1 : Nat) : Int)) (fun k => ?_) (ih (j + 1) b (by omega) (by omega) (s1 hdj))
      simp only [cobwebref07_Sort.l1]
      rw [if_pos (by omega), if_pos (by omega), if_pos (by omega), if_pos (by rw [rdb d j hjd]; exact hdj), e1]
    · have hdj' : d[j] = false := by simpa using hdj
      obtain ⟨s3, s4⟩ := s2 hdj'
      by_cases hneg : b < 0
      · refine Ev.step (f := fun k => cobwebref07_Sort.l1 k l out d i (j : Int) ((j + 1 : Nat) : Int)) (fun k => ?_) (ih (j + 1) j (by omega) (by omega) (s3 hneg))
        simp only [cobwebref07_Sort.l1]
        rw [if_pos (by omega), if_pos (by omega), if_pos (by omega), if_neg (by rw [rdb d j hjd]; exact hdj), if_pos hneg, e1]
      · obtain ⟨n, rfl⟩ : ∃ n : Nat, b = n := ⟨b.toNat, by omega⟩
        have hn : n < l.length := by
          rcases hb with ⟨h, _⟩ | ⟨n', h, h1, h2, _⟩
          · omega
          · omega
        have s5 := s4 n rfl hn
        by_cases hlt : l[j].f0 < l[n].f0
        · have : ltI l[j] l[n] = true := by simpa [ltI] using hlt
          rw [if_pos this] at s5
          refine Ev.step (f := fun k => cobwebref07_Sort.l1 k l out d i (j : Int) ((j + 1 : Nat) : Int)) (fun k => ?_) (ih (j + 1) j (by omega) (by omega) s5)
          simp only [cobwebref07_Sort.l1]
          rw [if_pos (by omega), if_pos (by omega), if_pos (by omega), if_neg (by rw [rdb d j hjd]; exact hdj), if_neg hneg, if_pos (by omega), if_pos (by omega), if_pos (by rw [rd26 l j hjl, rd26 l n hn]; exact hlt), e1]
        · have : ¬ ltI l[j] l[n] = true := by simpa [ltI] using hlt
          rw [if_neg this] at s5
          refine Ev.step (f := fun k => cobwebref07_Sort.l1 k l out d i (n : Int) ((j + 1 : Nat) : Int)) (fun k => ?_) (ih (j + 1) n (by omega) (by omega) s5)
          simp only [cobwebref07_Sort.l1]
          rw [if_pos (by omega), if_pos (by omega), if_pos (by omega), if_neg (by rw [rdb d j hjd]; exact hdj), if_neg hneg, if_pos (by omega), if_pos (by omega), if_neg (by rw [rd26 l j hjl, rd26 l n hn]; exact hlt), e1]
theorem ref_l0 (l : List S26) (hl : l.length < 8796093022208) : ∀ (m i : Nat) (out : List S26) (d : List Bool), l.length - i = m → i ≤ l.length → Sel ltI l out d i →
    ∃ s, Ev (fun k => cobwebref07_Sort.l0 k l out d (i : Int)) s ∧ SortOf ltI l s := by
  intro m
  induction m with
  | zero =>
    intro i out d hm hi hs
    obtain rfl : i = l.length := by omega
    refine ⟨out, ?_, hs.done⟩
    refine Ev.step (f := fun _ => some out) (fun k => ?_) (Ev.now _)
    simp only [cobwebref07_Sort.l0]
    rw [if_neg (by omega)]
  | succ m ih =>
    intro i out d hm hi hs
    have hdl := hs.dl
    have key : ∃ b : Nat, ∃ hb : b < l.length, d[b]'(by omega) = false ∧ (∀ j, ∀ hj : j < l.length, d[j]'(by omega) = false → ltI l[j] l[b] = false) ∧ ∀ j, ∀ hj : j < b, d[j]'(by omega) = false → ltI l[b] (l[j]'(by omega)) = true := by
      have hm' := hs.m
      have hne : 0 < (rem l d).length := by omega
      -- the first least one
      suffices H : ∀ j, j ≤ l.length → (∃ b, Best l d j b) by
        obtain ⟨b, hb⟩ := H l.length (Nat.le_refl _)
        rcases hb with ⟨_, hall⟩ | ⟨n, rfl, _, h1, h2, h3, h4, h5⟩
        · obtain ⟨z, hz⟩ := List.exists_mem_of_length_pos hne
          obtain ⟨j, g1, g2, g3, _⟩ := mem_rem hz
          rw [hall j g1 g2 g1] at g3
          cases g3
        · exact ⟨n, h1, h3, fun j hj hf => h4 j hj (by omega) hj hf, fun j hj hf => h5 j (by omega) (by omega) hj hf⟩
      intro j
      induction j with
      | zero => exact fun _ => ⟨-1, .inl ⟨rfl, fun i _ _ hi => by omega⟩⟩
      | succ j ihj =>
        intro hj
        obtain ⟨b, hb⟩ := ihj (by omega)
        obtain ⟨s1, s2⟩ := best_step (by omega) hdl hb
        by_cases hdj : d[j]'(by omega) = true
        · exact ⟨b, s1 hdj⟩
        · obtain ⟨s3, s4⟩ := s2 (by simpa using hdj)
          by_cases hneg : b < 0
          · exact ⟨j, s3 hneg⟩
          · obtain ⟨n, rfl⟩ : ∃ n : Nat, b = n := ⟨b.toNat, by omega⟩
            have hn : n < l.length := by
              rcases hb with ⟨h, _⟩ | ⟨n', h, h1, h2, _⟩ <;> omega
            have s5 := s4 n rfl hn
            split at s5
            · exact ⟨j, s5⟩
            · exact ⟨n, s5⟩
    obtain ⟨b, hb, hdb, hmin, hfirst⟩ := key
    have hs' := hs.step swoI b hb hdb hmin hfirst
    obtain ⟨s, he, hso⟩ := ih (i + 1) (out ++ [l[b]]) (d.set b true) (by omega) (by omega) hs'
    refine ⟨s, ?_, hso⟩
    refine Ev.step (f := fun k => cobwebref07_Sort.l1 k l out d (i : Int) (-1) ((0 : Nat) : Int)) (fun k => ?_) ?_
    · simp only [cobwebref07_Sort.l0]
      rw [if_pos (by omega)]
      rfl
    · refine ref_l1 l out d (i : Int) hdl hl s (fun b' hb' => ?_) _ 0 (-1) rfl (by omega) (.inl ⟨rfl, fun i _ _ hi => by omega⟩)
      have hbb : b' = (b : Int) := by
        rcases hb' with ⟨_, hall⟩ | ⟨n, rfl, _, h1, h2, h3, h4, h5⟩
        · have := hall b hb (by omega) hb
          rw [hdb] at this
          cases this
        · have q1 : ¬ n < b := fun hnb => by
            have := hfirst n hnb h3
            have := swoI.asym _ _ this
            have := h4 b hb (by omega) hb hdb
            have q := hfirst n hnb h3
            rw [q] at this
            cases this
          have q2 : ¬ b < n := fun hbn => by
            have := h5 b hb (by omega) hbn hdb
            have q := hmin n h1 h3
            rw [q] at this
            cases this
          omega
      subst hbb
      refine Ev.congr (fun k => ?_) he
      have hlen := hs.n
      rw [if_pos (by omega), if_pos (by omega), if_pos (by omega), if_pos (by omega), rd26 l b hb, Int.toNat_natCast, w64 (by omega) (by omega)]
      rfl
theorem ref_sort (l : List S26) (hl : l.length < 8796093022208) : ∃ s, Ev (fun k => cobwebref07_Sort.f k l) s ∧ SortOf ltI l s := by
  obtain ⟨s, he, hs⟩ := ref_l0 l hl _ 0 [] (List.replicate l.length false) rfl (by omega) (Sel.start ltI l)
  refine ⟨s, Ev.congr (fun k => ?_) he, hs⟩
  simp only [cobwebref07_Sort.f]
  rw [if_pos (by omega), if_pos (by omega)]
  simp only [Int.toNat_natCast]
  rfl

/-! ### the program's merge and sort -/
theorem merge_l0 : ∀ (n : Nat) (a b out : List S26), a.length + b.length = n → out.length + n < 8796093022208 → Ev (fun k => cobwebref07_Item_14.l0 k a b out) (out ++ gmerge ltI a b) := by
  intro n
  induction n with
  | zero =>
    intro a b out hn ho
    obtain rfl : a = [] := List.eq_nil_of_length_eq_zero (by omega)
    obtain rfl : b = [] := List.eq_nil_of_length_eq_zero (by simpa using hn)
    refine Ev.step (f := fun k => cobwebref07_Item_14.j1 k [] [] out false) (fun k => ?_) (Ev.step (f := fun _ => some (out ++ gmerge ltI [] [])) (fun k => ?_) (Ev.now _))
    · simp only [cobwebref07_Item_14.l0]
      rw [if_neg (by simp)]
    · simp only [cobwebref07_Item_14.j1]
      rw [if_neg (by simp), if_pos (by simp; omega)]
      simp only [Option.bind_some]
      rw [if_pos (by simp; omega)]
      simp [gmerge_nil_left]
  | succ n ih =>
    intro a b out hn ho
    cases a with
    | nil =>
      refine Ev.step (f := fun k => cobwebref07_Item_14.j1 k [] b out false) (fun k => ?_) (Ev.step (f := fun _ => some (out ++ gmerge ltI [] b)) (fun k => ?_) (Ev.now _))
      · simp only [cobwebref07_Item_14.l0]
        rw [if_neg (by simp)]
      · simp only [cobwebref07_Item_14.j1]
        rw [if_neg (by simp), if_pos (by simp; omega)]
        simp only [Option.bind_some]
        rw [if_pos (by simp at hn ⊢; omega)]
        simp [gmerge_nil_left]
    | cons x a =>
      cases b with
      | nil =>
        refine Ev.step (f := fun k => cobwebref07_Item_14.j1 k (x :: a) [] out false) (fun k => ?_) (Ev.step (f := fun _ => some (out ++ gmerge ltI (x :: a) [])) (fun k => ?_) (Ev.now _))
        · simp only [cobwebref07_Item_14.l0]
          rw [if_pos (by simp)]
          simp
        · simp only [cobwebref07_Item_14.j1]
          rw [if_neg (by simp), if_pos (by simp at hn ⊢; omega)]
          simp only [Option.bind_some]
          rw [if_pos (by simp at hn ⊢; omega)]
          simp [gmerge_nil_right]
      | cons y b =>
        have r0 : rd_T26 (x :: a) 0 = x := rfl
        have r1 : rd_T26 (y :: b) 0 = y := rfl
        simp at hn
        refine Ev.step (f := fun k => cobwebref07_Item_14.j1 k (x :: a) (y :: b) out true) (fun k => ?_) ?_
        · simp only [cobwebref07_Item_14.l0]
          rw [if_pos (by simp)]
          congr 1
          simp
        · by_cases hlt : y.f0 < x.f0
          · have hb : ltI y x = true := by simpa [ltI] using hlt
            have := ih (x :: a) b (out ++ [y]) (by simp; omega) (by simp; omega)
            rw [gmerge_cons, hb, if_pos rfl]
            rw [List.append_assoc, List.singleton_append] at this
            refine Ev.step (fun k => ?_) this
            simp only [cobwebref07_Item_14.j1]
            rw [if_pos trivial, if_pos (by simp), if_pos (by simp)]
            simp only [cobweblaw07_ahead.f, Option.bind_some, r0, r1]
            rw [if_pos (by simpa using hlt), if_pos (by omega), if_pos (by simp; omega)]
            simp
          · have hb : ltI y x = false := by simpa [ltI] using hlt
            have := ih a (y :: b) (out ++ [x]) (by simp; omega) (by simp; omega)
            rw [gmerge_cons, hb, if_neg (by simp)]
            rw [List.append_assoc, List.singleton_append] at this
            refine Ev.step (fun k => ?_) this
            simp only [cobwebref07_Item_14.j1]
            rw [if_pos trivial, if_pos (by simp), if_pos (by simp)]
            simp only [cobweblaw07_ahead.f, Option.bind_some, r0, r1]
            rw [if_neg (by simpa using hlt), if_pos (by omega), if_pos (by simp; omega)]
            simp
theorem merge_f (a b : List S26) (h : a.length + b.length < 8796093022208) : Ev (fun k => cobwebref07_Item_14.f k a b) (gmerge ltI a b) := by
  have := merge_l0 _ a b [] rfl (by simpa using h)
  exact this
theorem sort_f : ∀ (n : Nat) (l : List S26), l.length ≤ n → l.length < 8796093022208 → ∃ s, Ev (fun k => sortItem_9.f k l) s ∧ SortOf ltI l s := by
  intro n
  induction n with
  | zero =>
    intro l hn hl
    refine ⟨l, Ev.step (f := fun _ => some l) (fun k => ?_) (Ev.now _), SortOf.of_short (by omega)⟩
    simp only [sortItem_9.f]
    rw [if_pos (by omega)]
    unfold cobwebref07_Item_23.f
    rw [if_pos hl]
  | succ n ih =>
    intro l hn hl
    by_cases h2 : l.length < 2
    · refine ⟨l, Ev.step (f := fun _ => some l) (fun k => ?_) (Ev.now _), SortOf.of_short h2⟩
      simp only [sortItem_9.f]
      rw [if_pos (by omega)]
      unfold cobwebref07_Item_23.f
      rw [if_pos hl]
    · obtain ⟨s1, e1, o1⟩ := ih (l.take (l.length / 2)) (by simp; omega) (by simp; omega)
      obtain ⟨s2, e2, o2⟩ := ih (l.drop (l.length / 2)) (by simp; omega) (by simp; omega)
      have hm := SortOf.merge swoI o1 o2
      rw [List.take_append_drop] at hm
      refine ⟨_, Ev.step (f := fun k => (sortItem_9.f k (l.take (l.length / 2))).bind fun a => (sortItem_9.f k (l.drop (l.length / 2))).bind fun b => cobwebref07_Item_14.f k a b) (fun k => ?_) (Ev.bind e1 (Ev.bind e2 (merge_f s1 s2 ?_))), hm⟩
      · simp only [sortItem_9.f]
        rw [if_neg h2]
      · have := o1.len
        have := o2.len
        simp at *
        omega

/-! ### is a row in order? -/
/-- From place i on, d steps: no one is ahead of the one before it. -/
def okFrom (l : List S26) : Nat → Nat → Bool
  | 0, _ => true
  | d + 1, i => decide ((rd_T26 l (i : Int)).f0 ≤ (rd_T26 l ((i + 1 : Nat) : Int)).f0) && okFrom l d (i + 1)
theorem okFrom_sorted {l : List S26} (h : Srt ltI l) : ∀ (d i : Nat), i + d < l.length ∨ d = 0 → okFrom l d i = true := by
  intro d
  induction d with
  | zero => exact fun _ _ => rfl
  | succ d ih =>
    intro i hi
    have hi' : i + 1 < l.length := by omega
    unfold okFrom
    rw [ih (i + 1) (by omega), rd26 l i (by omega), rd26 l (i + 1) hi']
    have := List.pairwise_iff_getElem.1 h i (i + 1) (by omega) hi' (by omega)
    simp [ltI] at this
    simpa using this
theorem is_l0 (l : List S26) (hl : l.length < 4611686018427387904) : ∀ (d i : Nat), l.length - 1 - i = d → i ≤ l.length → Ev (fun k => cobwebref07_Item_13.l0 k l ((l.length : Int) - 1) (i : Int)) (okFrom l d i) := by
  intro d
  induction d with
  | zero =>
    intro i hd hi
    refine Ev.step (f := fun _ => some true) (fun k => ?_) (Ev.now _)
    simp only [cobwebref07_Item_13.l0]
    rw [if_neg (by omega)]
  | succ d ih =>
    intro i hd hi
    have hi' : i + 1 < l.length := by omega
    have e1 : wrap64 ((i : Int) + 1) = ((i + 1 : Nat) : Int) := by rw [w64 (by omega) (by omega)]; rfl
    by_cases hle : (rd_T26 l (i : Int)).f0 ≤ (rd_T26 l ((i + 1 : Nat) : Int)).f0
    · have : okFrom l (d + 1) i = okFrom l d (i + 1) := by simp only [okFrom]; rw [decide_eq_true hle, Bool.true_and]
      rw [this]
      refine Ev.step (f := fun k => cobwebref07_Item_13.l0 k l ((l.length : Int) - 1) ((i + 1 : Nat) : Int)) (fun k => ?_) (ih (i + 1) (by omega) (by omega))
      simp only [cobwebref07_Item_13.l0, e1]
      rw [if_pos (by omega), if_pos (by omega), if_pos (by omega), if_pos (by omega), if_pos (by omega)]
      simp only [cobweblaw07_ahead.f, Option.bind_some]
      rw [if_neg (by rw [decide_eq_true_iff]; omega)]
    · have : okFrom l (d + 1) i = false := by simp only [okFrom]; rw [decide_eq_false hle, Bool.false_and]
      rw [this]
      refine Ev.step (f := fun _ => some false) (fun k => ?_) (Ev.now _)
      simp only [cobwebref07_Item_13.l0, e1]
      rw [if_pos (by omega), if_pos (by omega), if_pos (by omega), if_pos (by omega), if_pos (by omega)]
      simp only [cobweblaw07_ahead.f, Option.bind_some]
      rw [if_pos (decide_eq_true (show (rd_T26 l ((i + 1 : Nat) : Int)).f0 < (rd_T26 l (i : Int)).f0 by omega))]
theorem is_f (l : List S26) (hl : l.length < 4611686018427387904) : Ev (fun k => cobwebref07_Item_13.f k l) (okFrom l (l.length - 1) 0) := by
  refine Ev.congr (fun k => ?_) (is_l0 l hl _ 0 rfl (by omega))
  simp only [cobwebref07_Item_13.f]
  rw [w64 (by omega) (by omega)]
  rfl
end Go.Proofs.Ytfjhelbmopdbiaa.O1
