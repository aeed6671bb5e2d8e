/- Plain lists, no program: rows in order by a strict weak order; what is in order and has each class of likes as it came is one row alone; two rows put together. -/
namespace Go.Proofs.Ytfjhelbmopdbiaa.Ord
variable {α : Type}

/-- A strict weak order, as a test. -/
structure SWO (lt : α → α → Bool) : Prop where
  irr : ∀ a, lt a a = false
  asym : ∀ a b, lt a b = true → lt b a = false
  neg : ∀ a b c, lt a b = false → lt b c = false → lt a c = false

def Srt (lt : α → α → Bool) (s : List α) : Prop := s.Pairwise (fun a b => lt b a = false)
def cls (lt : α → α → Bool) (c : α) (s : List α) : List α := s.filter (fun a => !lt a c && !lt c a)
/-- s is l, put in order: stably. -/
structure SortOf (lt : α → α → Bool) (l s : List α) : Prop where
  srt : Srt lt s
  cl : ∀ c, cls lt c s = cls lt c l
  len : s.length = l.length

section
variable {lt : α → α → Bool} (h : SWO lt)
include h
theorem SWO.trans (a b c : α) (h1 : lt a b = true) (h2 : lt b c = true) : lt a c = true := by
  have := h.asym b c h2
  cases e : lt a c
  · have := h.neg a c b e this
    rw [this] at h1
    cases h1
  · rfl
/-- below or like, then below -/
theorem SWO.le_lt (a b c : α) (h1 : lt b a = false) (h2 : lt b c = true) : lt a c = true := by
  cases e : lt a c
  · have := h.neg b a c h1 e
    rw [this] at h2
    cases h2
  · rfl
theorem SWO.lt_le (a b c : α) (h1 : lt a b = true) (h2 : lt c b = false) : lt a c = true := by
  cases e : lt a c
  · have := h.neg a c b e h2
    rw [this] at h1
    cases h1
  · rfl
end

theorem mem_cls {lt : α → α → Bool} {c z : α} {s : List α} : z ∈ cls lt c s ↔ z ∈ s ∧ lt z c = false ∧ lt c z = false := by
  simp [cls, List.mem_filter]
theorem cls_self {lt : α → α → Bool} (h : SWO lt) (x : α) (s : List α) : cls lt x (x :: s) = x :: cls lt x s := by
  simp [cls, h.irr]
theorem cls_append (lt : α → α → Bool) (c : α) (s t : List α) : cls lt c (s ++ t) = cls lt c s ++ cls lt c t := by simp [cls]
theorem cls_nil_of {lt : α → α → Bool} {c : α} {s : List α} (hs : ∀ z ∈ s, lt c z = true ∨ lt z c = true) : cls lt c s = [] := by
  apply List.filter_eq_nil_iff.2
  intro z hz
  rcases hs z hz with e | e <;> simp [e]

theorem sorted_unique {lt : α → α → Bool} (h : SWO lt) : ∀ (s t : List α), Srt lt s → Srt lt t → (∀ c, cls lt c s = cls lt c t) → s = t := by
  intro s
  induction s with
  | nil =>
    intro t _ _ hc
    cases t with
    | nil => rfl
    | cons y t =>
      have := hc y
      rw [cls_self h] at this
      simp [cls] at this
  | cons x s ih =>
    intro t hs ht hc
    cases t with
    | nil =>
      have := hc x
      rw [cls_self h] at this
      simp [cls] at this
    | cons y t =>
      obtain ⟨hx, hs'⟩ := List.pairwise_cons.1 hs
      obtain ⟨hy, ht'⟩ := List.pairwise_cons.1 ht
      have m1 : y ∈ cls lt y (x :: s) := by rw [hc y, cls_self h]; exact List.mem_cons_self
      have m2 : x ∈ cls lt x (y :: t) := by rw [← hc x, cls_self h]; exact List.mem_cons_self
      have e1 : lt y x = false := by
        rcases List.mem_cons.1 (mem_cls.1 m1).1 with e | e
        · rw [e]; exact h.irr x
        · exact hx y e
      have e2 : lt x y = false := by
        rcases List.mem_cons.1 (mem_cls.1 m2).1 with e | e
        · rw [e]; exact h.irr y
        · exact hy x e
      have e3 : x = y := by
        have := hc x
        rw [cls_self h] at this
        simp [cls, e1, e2] at this
        exact this.1
      subst e3
      congr 1
      refine ih t hs' ht' fun c => ?_
      have := hc c
      simp only [cls, List.filter_cons] at this
      split at this
      · injection this
      · exact this

theorem SortOf.unique {lt : α → α → Bool} (h : SWO lt) {l s t : List α} (hs : SortOf lt l s) (ht : SortOf lt l t) : s = t :=
  sorted_unique h s t hs.srt ht.srt fun c => (hs.cl c).trans (ht.cl c).symm
theorem SortOf.refl {lt : α → α → Bool} {l : List α} (hs : Srt lt l) : SortOf lt l l := ⟨hs, fun _ => rfl, rfl⟩
theorem SortOf.of_short {lt : α → α → Bool} {l : List α} (hl : l.length < 2) : SortOf lt l l := by
  refine SortOf.refl ?_
  match l, hl with
  | [], _ => exact List.Pairwise.nil
  | [x], _ => exact List.pairwise_singleton _ _

/-- Two rows, put together: the second one's head is taken only if it is below. -/
def gmerge (lt : α → α → Bool) : List α → List α → List α
  | [], b => b
  | a, [] => a
  | x :: a, y :: b => if lt y x then y :: gmerge lt (x :: a) b else x :: gmerge lt a (y :: b)
  termination_by a b => a.length + b.length
theorem gmerge_nil_left (lt : α → α → Bool) (b : List α) : gmerge lt [] b = b := by rw [gmerge]
theorem gmerge_nil_right (lt : α → α → Bool) (a : List α) : gmerge lt a [] = a := by cases a <;> simp [gmerge]
theorem gmerge_cons (lt : α → α → Bool) (x y : α) (a b : List α) : gmerge lt (x :: a) (y :: b) = if lt y x then y :: gmerge lt (x :: a) b else x :: gmerge lt a (y :: b) := by rw [gmerge]

theorem gmerge_facts {lt : α → α → Bool} (h : SWO lt) : ∀ (n : Nat) (a b : List α), a.length + b.length = n → Srt lt a → Srt lt b →
    Srt lt (gmerge lt a b) ∧ (∀ c, cls lt c (gmerge lt a b) = cls lt c a ++ cls lt c b) ∧ (gmerge lt a b).length = a.length + b.length ∧ ∀ z, z ∈ gmerge lt a b → z ∈ a ∨ z ∈ b := by
  intro n
  induction n with
  | zero =>
    intro a b hn ha hb
    obtain rfl : a = [] := List.eq_nil_of_length_eq_zero (by omega)
    rw [gmerge_nil_left]
    exact ⟨hb, fun c => by simp [cls], by simp, fun z hz => .inr hz⟩
  | succ n ih =>
    intro a b hn ha hb
    cases a with
    | nil =>
      rw [gmerge_nil_left]
      exact ⟨hb, fun c => by simp [cls], by simp, fun z hz => .inr hz⟩
    | cons x a =>
      cases b with
      | nil =>
        rw [gmerge_nil_right]
        exact ⟨ha, fun c => by simp [cls], by simp, fun z hz => .inl hz⟩
      | cons y b =>
        rw [gmerge_cons]
        obtain ⟨hx, ha'⟩ := List.pairwise_cons.1 ha
        obtain ⟨hy, hb'⟩ := List.pairwise_cons.1 hb
        cases e : lt y x
        · obtain ⟨i1, i2, i3, i4⟩ := ih a (y :: b) (by simp at hn ⊢; omega) ha' hb
          simp only [Bool.false_eq_true, if_false]
          refine ⟨List.pairwise_cons.2 ⟨fun z hz => ?_, i1⟩, fun c => ?_, by simp [i3]; omega, fun z hz => ?_⟩
          · rcases i4 z hz with hz | hz
            · exact hx z hz
            · rcases List.mem_cons.1 hz with rfl | hz
              · exact e
              · exact h.neg _ _ _ (hy z hz) e
          · have := i2 c
            simp only [cls, List.filter_cons] at this ⊢
            rw [this]
            split <;> simp
          · rcases List.mem_cons.1 hz with rfl | hz
            · exact .inl List.mem_cons_self
            · rcases i4 z hz with hz | hz
              · exact .inl (List.mem_cons_of_mem _ hz)
              · exact .inr hz
        · obtain ⟨i1, i2, i3, i4⟩ := ih (x :: a) b (by simp at hn ⊢; omega) ha hb'
          simp only [if_true]
          refine ⟨List.pairwise_cons.2 ⟨fun z hz => ?_, i1⟩, fun c => ?_, by simp [i3]; omega, fun z hz => ?_⟩
          · rcases i4 z hz with hz | hz
            · rcases List.mem_cons.1 hz with rfl | hz
              · exact h.asym _ _ e
              · exact h.neg _ _ _ (hx z hz) (h.asym _ _ e)
            · exact hy z hz
          · have hc := i2 c
            have e1 : cls lt c (y :: gmerge lt (x :: a) b) = cls lt c [y] ++ cls lt c (gmerge lt (x :: a) b) := by rw [← cls_append]; rfl
            have e2 : cls lt c (y :: b) = cls lt c [y] ++ cls lt c b := by rw [← cls_append]; rfl
            rw [e1, e2, hc]
            by_cases hm : lt y c = false ∧ lt c y = false
            · have hn : cls lt c (x :: a) = [] := by
                refine cls_nil_of fun z hz => .inl ?_
                have hyz : lt y z = true := by
                  rcases List.mem_cons.1 hz with rfl | hz
                  · exact e
                  · exact h.lt_le _ _ _ e (hx z hz)
                exact h.le_lt _ _ _ hm.1 hyz
              rw [hn]
              simp
            · have : cls lt c [y] = [] := by
                simp only [cls, List.filter_cons, List.filter_nil]
                rw [if_neg]
                simpa using hm
              rw [this]
              simp
          · rcases List.mem_cons.1 hz with rfl | hz
            · exact .inr List.mem_cons_self
            · rcases i4 z hz with hz | hz
              · exact .inl hz
              · exact .inr (List.mem_cons_of_mem _ hz)

theorem SortOf.merge {lt : α → α → Bool} (h : SWO lt) {l m s t : List α} (hs : SortOf lt l s) (ht : SortOf lt m t) : SortOf lt (l ++ m) (gmerge lt s t) := by
  obtain ⟨i1, i2, i3, _⟩ := gmerge_facts h _ s t rfl hs.srt ht.srt
  exact ⟨i1, fun c => by rw [i2, hs.cl, ht.cl, cls_append], by rw [i3, hs.len, ht.len, List.length_append]⟩

/-- What is not done yet. -/
def rem (l : List α) (d : List Bool) : List α := ((l.zip d).filter (fun p => !p.2)).map (·.1)
theorem rem_append (l1 l2 : List α) (d1 d2 : List Bool) (hl : l1.length = d1.length) : rem (l1 ++ l2) (d1 ++ d2) = rem l1 d1 ++ rem l2 d2 := by
  unfold rem
  rw [List.zip_append hl, List.filter_append, List.map_append]
theorem rem_cons_false (x : α) (l : List α) (d : List Bool) : rem (x :: l) (false :: d) = x :: rem l d := by simp [rem]
theorem rem_cons_true (x : α) (l : List α) (d : List Bool) : rem (x :: l) (true :: d) = rem l d := by simp [rem]
theorem mem_rem {l : List α} {d : List Bool} {z : α} (hz : z ∈ rem l d) : ∃ j, ∃ h1 : j < l.length, ∃ h2 : j < d.length, d[j] = false ∧ z = l[j] := by
  unfold rem at hz
  obtain ⟨p, hp, rfl⟩ := List.mem_map.1 hz
  obtain ⟨hp1, hp2⟩ := List.mem_filter.1 hp
  obtain ⟨j, hj, rfl⟩ := List.getElem_of_mem hp1
  simp only [List.length_zip] at hj
  refine ⟨j, by omega, by omega, ?_, by simp⟩
  simpa using hp2
theorem rem_replicate (l : List α) : rem l (List.replicate l.length false) = l := by
  induction l with
  | nil => rfl
  | cons x l ih => rw [List.length_cons, List.replicate_succ, rem_cons_false, ih]
theorem rem_split (l : List α) (d : List Bool) (hl : l.length = d.length) (i : Nat) (hi : i < l.length) (hd : d[i] = false) :
    rem l d = rem (l.take i) (d.take i) ++ l[i] :: rem (l.drop (i + 1)) (d.drop (i + 1)) ∧ rem l (d.set i true) = rem (l.take i) (d.take i) ++ rem (l.drop (i + 1)) (d.drop (i + 1)) := by
  have e1 : l = l.take i ++ l[i] :: l.drop (i + 1) := by rw [List.getElem_cons_drop, List.take_append_drop]
  have e2 : d = d.take i ++ false :: d.drop (i + 1) := by
    have : d.take i ++ d[i] :: d.drop (i + 1) = d := by rw [List.getElem_cons_drop, List.take_append_drop]
    rw [hd] at this
    exact this.symm
  have e3 : d.set i true = d.take i ++ true :: d.drop (i + 1) := by
    rw [List.set_eq_take_append_cons_drop, if_pos (by omega)]
  constructor
  · conv => lhs; rw [e1, e2]
    rw [rem_append _ _ _ _ (by simp; omega), rem_cons_false]
  · rw [e3]
    conv => lhs; rw [e1]
    rw [rem_append _ _ _ _ (by simp; omega), rem_cons_true]

/-- How far a selection has come. -/
structure Sel (lt : α → α → Bool) (l out : List α) (d : List Bool) (i : Nat) : Prop where
  dl : l.length = d.length
  srt : Srt lt out
  le : ∀ z ∈ out, ∀ r ∈ rem l d, lt r z = false
  cl : ∀ c, cls lt c out ++ cls lt c (rem l d) = cls lt c l
  n : out.length = i
  m : (rem l d).length + i = l.length
theorem Sel.start (lt : α → α → Bool) (l : List α) : Sel lt l [] (List.replicate l.length false) 0 :=
  ⟨by simp, List.Pairwise.nil, fun z hz => by simp at hz, fun c => by rw [rem_replicate]; simp [cls], rfl, by rw [rem_replicate]; simp⟩
theorem Sel.done {lt : α → α → Bool} {l out : List α} {d : List Bool} (h : Sel lt l out d l.length) : SortOf lt l out := by
  have h0 : rem l d = [] := List.eq_nil_of_length_eq_zero (by have := h.m; omega)
  refine ⟨h.srt, fun c => ?_, h.n⟩
  have := h.cl c
  rw [h0] at this
  simpa [cls] using this
/-- The first one that none of the others that are left is below is taken. -/
theorem Sel.step {lt : α → α → Bool} (w : SWO lt) {l out : List α} {d : List Bool} {i : Nat} (h : Sel lt l out d i) (b : Nat) (hb : b < l.length) (hd : d[b]'(by have := h.dl; omega) = false)
    (h1 : ∀ j, ∀ hj : j < l.length, d[j]'(by have := h.dl; omega) = false → lt l[j] l[b] = false) (h2 : ∀ j, ∀ hj : j < b, d[j]'(by have := h.dl; omega) = false → lt l[b] (l[j]'(by omega)) = true) :
    Sel lt l (out ++ [l[b]]) (d.set b true) (i + 1) := by
  obtain ⟨e1, e2⟩ := rem_split l d h.dl b hb hd
  have hdl := h.dl
  have hmem : l[b] ∈ rem l d := by rw [e1]; simp
  refine ⟨by simpa using hdl, ?_, ?_, ?_, by simp [h.n], ?_⟩
  · refine List.pairwise_append.2 ⟨h.srt, List.pairwise_singleton _ _, fun z hz y hy => ?_⟩
    rw [List.mem_singleton.1 hy]
    exact h.le z hz _ hmem
  · intro z hz r hr
    have hr' : r ∈ rem l d := by
      rw [e2] at hr
      rw [e1]
      rcases List.mem_append.1 hr with hr | hr
      · exact List.mem_append_left _ hr
      · exact List.mem_append_right _ (List.mem_cons_of_mem _ hr)
    rcases List.mem_append.1 hz with hz | hz
    · exact h.le z hz r hr'
    · rw [List.mem_singleton.1 hz]
      obtain ⟨j, hj1, hj2, hj3, rfl⟩ := mem_rem hr'
      exact h1 j hj1 hj3
  · intro c
    have := h.cl c
    rw [e1] at this
    rw [e2]
    rw [← this]
    simp only [cls_append, List.append_assoc]
    congr 1
    have e3 : cls lt c (l[b] :: rem (l.drop (b + 1)) (d.drop (b + 1))) = cls lt c [l[b]] ++ cls lt c (rem (l.drop (b + 1)) (d.drop (b + 1))) := by rw [← cls_append]; rfl
    rw [e3]
    by_cases hm : lt l[b] c = false ∧ lt c l[b] = false
    · have hn : cls lt c (rem (l.take b) (d.take b)) = [] := by
        refine cls_nil_of fun z hz => .inl ?_
        obtain ⟨j, hj1, hj2, hj3, rfl⟩ := mem_rem hz
        have hjb : j < b := by simp at hj1; omega
        rw [List.getElem_take] at hj3 ⊢
        exact w.le_lt _ _ _ hm.1 (h2 j hjb hj3)
      rw [hn]
      simp
    · have : cls lt c [l[b]] = [] := by
        simp only [cls, List.filter_cons, List.filter_nil]
        rw [if_neg]
        simpa using hm
      rw [this]
      simp
  · have := h.m
    rw [e1] at this
    rw [e2]
    simp at this ⊢
    omega
end Go.Proofs.Ytfjhelbmopdbiaa.Ord
