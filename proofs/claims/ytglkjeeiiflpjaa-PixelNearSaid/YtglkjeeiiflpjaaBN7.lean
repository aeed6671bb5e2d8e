/- The document's Meets: the places that it tries are enough, so it tells what pixel.Meets tells. -/
import Derived.Test.YtglkjeeiiflpjaaBN6
import Derived.Test.YtglkjeeiiflpjaaF29
namespace Go.Proofs.Ytglkjeeiiflpjaa.BN
open Go.RowKit Go.Proofs.Ytglkjeeiiflpjaa.F Go.Proofs.YtglkjeeiiflpjaaW.PrintWords Go.Proofs.YtglkjeeiiflpjaaW.PrintLast Go.Proofs.YtglkjeeiiflpjaaW.PrintMore
/-- The number of a fraction. -/
def qv (x : S58) : Rat := (sval (x.f0.f0, x.f0.f1) : Rat) / (sval (x.f1.f0, x.f1.f1) : Rat)
theorem Fr.eq {c e : Bool × List Int} {q : Rat} {n : Nat} (h : Fr c e q n) : q = (sval c : Rat) / (sval e : Rat) := by
  obtain ⟨a, d, h1, h2, h3, h4⟩ := h.out
  have hd' : (0 : Rat) < (d : Rat) := by exact_mod_cast h3
  rw [h1.val, h2.val, ← h4, Rat.mul_div_cancel (by grind)]
/-- A place of the list. -/
structure Ok (x : S58) : Prop where
  fr : Fr (x.f0.f0, x.f0.f1) (x.f1.f0, x.f1.f1) (qv x) 20
  lo : 0 ≤ qv x
  hi : qv x ≤ 1
theorem Fr.mono {c e : Bool × List Int} {q : Rat} {n m : Nat} (h : Fr c e q n) (hm : n ≤ m) : Fr c e q m := by
  obtain ⟨a, d, h1, h2, h3, h4⟩ := h.out
  exact ⟨a, d, h1.mono hm, h2.mono hm, h3, h4⟩
theorem qv_mk {c e : Bool × List Int} {q : Rat} {n : Nat} (h : Fr c e q n) : qv ⟨⟨c.1, c.2⟩, ⟨e.1, e.2⟩⟩ = q := h.eq.symm
/-- A place of the list's head: of few digits. -/
structure Ok0 (x : S58) : Prop where
  fr : Fr (x.f0.f0, x.f0.f1) (x.f1.f0, x.f1.f1) (qv x) 5
  lo : 0 ≤ qv x
  hi : qv x ≤ 1
theorem Ok0.ok {x : S58} (h : Ok0 x) : Ok x := ⟨h.fr.mono (by decide), h.lo, h.hi⟩
theorem ok0_mk {c e : Bool × List Int} {a d : Int} (h1 : Num c a 5) (h2 : Num e d 5) (hd : 0 < d) (ha : 0 ≤ a) (hle : a ≤ d) : Ok0 ⟨⟨c.1, c.2⟩, ⟨e.1, e.2⟩⟩ ∧ qv ⟨⟨c.1, c.2⟩, ⟨e.1, e.2⟩⟩ * (d : Rat) = (a : Rat) := by
  have hd' : (0 : Rat) < (d : Rat) := by exact_mod_cast hd
  have ha' : (0 : Rat) ≤ (a : Rat) := by exact_mod_cast ha
  have hl' : (a : Rat) ≤ (d : Rat) := by exact_mod_cast hle
  have f : Fr c e ((a : Rat) / (d : Rat)) 5 := ⟨a, d, h1, h2, hd, by rw [Rat.div_mul_cancel (by grind)]⟩
  have e1 := qv_mk f
  have e2 : (a : Rat) / (d : Rat) * (d : Rat) = (a : Rat) := Rat.div_mul_cancel (by grind)
  refine ⟨⟨by rw [e1]; exact f, ?_, ?_⟩, by rw [e1, e2]⟩
  · rw [e1]
    exact Rat.le_of_mul_le_mul_right (by rw [e2, Rat.zero_mul]; exact ha') hd'
  · rw [e1]
    exact Rat.le_of_mul_le_mul_right (by rw [e2, Rat.one_mul]; exact hl') hd'
theorem num_ev' {v : Int} (h0 : -9223372036854775808 ≤ v) (h1 : v ≤ 9223372036854775807) : ∃ c, Ev (fun k => cobwebref06_num.f k v) c ∧ Num c v 5 := num_ev h0 h1
/-- How far on the way a number is as great as a limit. -/
structure Ways (a b l : Int) (L : List S58) : Prop where
  ok : ∀ x ∈ L, Ok0 x
  all : a ≠ b → ∀ s : Rat, 0 ≤ s → s ≤ 1 → PxM.at2 a b s = (l : Rat) → ∃ x ∈ L, qv x = s
  len : L.length ≤ 1
theorem ways_j1 {n d : Int} (hn : -9223372036854775808 ≤ n ∧ n ≤ 9223372036854775807) (hd : -9223372036854775808 ≤ d ∧ d ≤ 9223372036854775807) (h0 : 0 < d) (h1 : 0 ≤ n) (h2 : n ≤ d) :
    ∃ x, Ev (fun k => cobwebref06_ways.j1 k n d false) [x] ∧ Ok0 x ∧ qv x * (d : Rat) = (n : Rat) := by
  obtain ⟨c, c1, c2⟩ := num_ev hn.1 hn.2
  obtain ⟨e, e1, e2⟩ := num_ev hd.1 hd.2
  obtain ⟨k1, k2⟩ := ok0_mk c2 e2 h0 h1 h2
  refine ⟨_, Ev.step (f := fun k => (cobwebref06_num.f k n).bind fun bt101 => ((cobwebref06_num.f k d).bind fun bt105 => (Option.some (([(⟨(⟨bt101.1, bt101.2⟩ : S55), (⟨bt105.1, bt105.2⟩ : S55)⟩ : S58)] : List (S58)))))) (fun k => ?_) (Ev.bind c1 (Ev.bind e1 (Ev.now _))), k1, k2⟩
  rw [cobwebref06_ways.j1, if_neg (by decide)]
theorem ways_j1t (n d : Int) : Ev (fun k => cobwebref06_ways.j1 k n d true) [] :=
  Ev.step (f := fun _ => Option.some []) (fun k => by rw [cobwebref06_ways.j1, if_pos rfl]) (Ev.now _)
theorem ways_j0 {n d : Int} (hn : -9223372036854775808 ≤ n ∧ n ≤ 9223372036854775807) (hd : 0 ≤ d ∧ d ≤ 9223372036854775807) :
    ∃ L, Ev (fun k => cobwebref06_ways.j0 k n d) L ∧ (∀ x ∈ L, Ok0 x) ∧ L.length ≤ 1 ∧ (0 < d → ∀ s : Rat, 0 ≤ s → s ≤ 1 → s * (d : Rat) = (n : Rat) → ∃ x ∈ L, qv x = s) := by
  by_cases h0 : d = 0
  · exact ⟨[], Ev.step (f := fun k => cobwebref06_ways.j1 k n d true) (fun k => by rw [cobwebref06_ways.j0, if_pos h0]) (ways_j1t n d), fun x hx => by simp at hx, by simp, fun h => by omega⟩
  have hd0 : 0 < d := by omega
  have hd' : (0 : Rat) < (d : Rat) := by exact_mod_cast hd0
  by_cases h1 : n < 0
  · refine ⟨[], Ev.step (f := fun k => cobwebref06_ways.j1 k n d true) (fun k => by rw [cobwebref06_ways.j0, if_neg h0, if_pos h1]) (ways_j1t n d), fun x hx => by simp at hx, by simp, fun _ s s0 s1 hs => ?_⟩
    have : (0 : Rat) ≤ (n : Rat) := by rw [← hs]; exact Rat.mul_nonneg s0 (Rat.le_of_lt hd')
    have : (0 : Int) ≤ n := by exact_mod_cast this
    omega
  by_cases h2 : n > d
  · refine ⟨[], Ev.step (f := fun k => cobwebref06_ways.j1 k n d true) (fun k => by rw [cobwebref06_ways.j0, if_neg h0, if_neg h1, decide_eq_true h2]) (ways_j1t n d), fun x hx => by simp at hx, by simp, fun _ s s0 s1 hs => ?_⟩
    have h3 : s * (d : Rat) ≤ 1 * (d : Rat) := Rat.mul_le_mul_of_nonneg_right s1 (Rat.le_of_lt hd')
    rw [hs, Rat.one_mul] at h3
    have : n ≤ d := by exact_mod_cast h3
    omega
  · obtain ⟨x, e1, e2, e3⟩ := ways_j1 hn (by omega) hd0 (by omega) (by omega : n ≤ d)
    refine ⟨[x], Ev.step (f := fun k => cobwebref06_ways.j1 k n d false) (fun k => by rw [cobwebref06_ways.j0, if_neg h0, if_neg h1, decide_eq_false h2]) e1, fun y hy => by rw [List.mem_singleton.1 hy]; exact e2, by simp, fun _ s s0 s1 hs => ⟨x, List.mem_singleton.2 rfl, ?_⟩⟩
    have : (qv x - s) * (d : Rat) = 0 := by grind
    rcases Rat.mul_eq_zero.1 this with h | h
    · grind
    · grind
theorem w64' {x : Int} (h0 : -9223372036854775808 ≤ x) (h1 : x ≤ 9223372036854775807) : wrap64 x = x := w64 h0 h1
theorem at2_int {a b l : Int} {s : Rat} (h : PxM.at2 a b s = (l : Rat)) : s * ((2 * (b - a) : Int) : Rat) = ((l - 2 * a : Int) : Rat) := by
  unfold PxM.at2 at h
  push_cast
  grind
theorem ways_ev {a b l : Int} (ha : -134217728 ≤ a ∧ a ≤ 134217728) (hb : -134217728 ≤ b ∧ b ≤ 134217728) (hl : -536870912 ≤ l ∧ l ≤ 536870912) : ∃ L, Ev (fun k => cobwebref06_ways.f k a b l) L ∧ Ways a b l L := by
  have w1 : wrap64 (b - a) = b - a := w64 (by omega) (by omega)
  have w2 : wrap64 (2 * (b - a)) = 2 * (b - a) := w64 (by omega) (by omega)
  have w3 : wrap64 (2 * a) = 2 * a := w64 (by omega) (by omega)
  have w4 : wrap64 (l - 2 * a) = l - 2 * a := w64 (by omega) (by omega)
  have w5 : wrap64 (-(l - 2 * a)) = -(l - 2 * a) := w64 (by omega) (by omega)
  have w6 : wrap64 (-(2 * (b - a))) = -(2 * (b - a)) := w64 (by omega) (by omega)
  unfold cobwebref06_ways.f
  rw [w1, w2, w3, w4, w5, w6]
  by_cases h : 2 * (b - a) < 0
  · obtain ⟨L, h1, h2, h3, h4⟩ := ways_j0 (n := -(l - 2 * a)) (d := -(2 * (b - a))) (by omega) (by omega)
    refine ⟨L, ?_, h2, fun hne s s0 s1 hs => h4 (by omega) s s0 s1 ?_, h3⟩
    · simp only [if_pos h]
      exact h1
    · have := at2_int hs
      rw [Rat.intCast_neg, Rat.intCast_neg, ← this]
      grind
  · obtain ⟨L, h1, h2, h3, h4⟩ := ways_j0 (n := l - 2 * a) (d := 2 * (b - a)) (by omega) (by omega)
    refine ⟨L, ?_, h2, fun hne s s0 s1 hs => h4 (by omega) s s0 s1 (at2_int hs), h3⟩
    simp only [if_neg h]
    exact h1
/-- The middle of two places. -/
theorem mid_ev {x y : S58} (hx : Ok0 x) (hy : Ok0 y) : ∃ s d, Ev (fun k => cobwebref06_sum.f k x.f0.f0 x.f0.f1 x.f1.f0 x.f1.f1 y.f0.f0 y.f0.f1 y.f1.f0 y.f1.f1) s ∧ Ev (fun k => cobwebref01_Add.f k s.2.2.1 s.2.2.2 s.2.2.1 s.2.2.2) d ∧
    Ok ⟨⟨s.1, s.2.1⟩, ⟨d.1, d.2⟩⟩ ∧ qv ⟨⟨s.1, s.2.1⟩, ⟨d.1, d.2⟩⟩ * 2 = qv x + qv y := by
  obtain ⟨s, s1, s2⟩ := sum_ev hx.fr hy.fr (by omega)
  obtain ⟨n, d, h1, h2, h3, h4⟩ := s2.out
  obtain ⟨e, e1, e2⟩ := Add_num h2 h2 (by omega) (by omega)
  have f : Fr (s.1, s.2.1) e ((qv x + qv y) / 2) 20 := ⟨n, d + d, h1.mono (by decide), e2.mono (by decide), by omega, by push_cast; rw [← h4]; grind⟩
  have q := qv_mk f
  have x0 := hx.lo
  have x1 := hx.hi
  have y0 := hy.lo
  have y1 := hy.hi
  refine ⟨s, e, s1, e1, ⟨by rw [q]; exact f, by rw [q]; grind, by rw [q]; grind⟩, by rw [q]; grind⟩

/-! ### Between two places that are next to each other nothing changes -/
theorem low_ex (L : List S58) (t : Rat) (h : ∃ c ∈ L, qv c < t) : ∃ p ∈ L, qv p < t ∧ ∀ c ∈ L, qv c < t → qv c ≤ qv p := by
  induction L with
  | nil => obtain ⟨c, hc, _⟩ := h; simp at hc
  | cons a L ih =>
    by_cases hL : ∃ c ∈ L, qv c < t
    · obtain ⟨p, p1, p2, p3⟩ := ih hL
      by_cases ha : qv a < t ∧ qv p ≤ qv a
      · refine ⟨a, List.mem_cons_self, ha.1, fun c hc hct => ?_⟩
        rcases List.mem_cons.1 hc with rfl | hc
        · exact Rat.le_refl
        · exact Rat.le_trans (p3 c hc hct) ha.2
      · refine ⟨p, List.mem_cons_of_mem _ p1, p2, fun c hc hct => ?_⟩
        rcases List.mem_cons.1 hc with rfl | hc
        · rcases Rat.le_total (a := qv c) (b := qv p) with h | h
          · exact h
          · exact absurd ⟨hct, h⟩ ha
        · exact p3 c hc hct
    · obtain ⟨c, hc, hct⟩ := h
      rcases List.mem_cons.1 hc with rfl | hc
      · refine ⟨c, List.mem_cons_self, hct, fun e he het => ?_⟩
        rcases List.mem_cons.1 he with rfl | he
        · exact Rat.le_refl
        · exact absurd ⟨e, he, het⟩ hL
      · exact absurd ⟨c, hc, hct⟩ hL
theorem high_ex (L : List S58) (t : Rat) (h : ∃ c ∈ L, t < qv c) : ∃ p ∈ L, t < qv p ∧ ∀ c ∈ L, t < qv c → qv p ≤ qv c := by
  induction L with
  | nil => obtain ⟨c, hc, _⟩ := h; simp at hc
  | cons a L ih =>
    by_cases hL : ∃ c ∈ L, t < qv c
    · obtain ⟨p, p1, p2, p3⟩ := ih hL
      by_cases ha : t < qv a ∧ qv a ≤ qv p
      · refine ⟨a, List.mem_cons_self, ha.1, fun c hc hct => ?_⟩
        rcases List.mem_cons.1 hc with rfl | hc
        · exact Rat.le_refl
        · exact Rat.le_trans ha.2 (p3 c hc hct)
      · refine ⟨p, List.mem_cons_of_mem _ p1, p2, fun c hc hct => ?_⟩
        rcases List.mem_cons.1 hc with rfl | hc
        · rcases Rat.le_total (a := qv p) (b := qv c) with h | h
          · exact h
          · exact absurd ⟨hct, h⟩ ha
        · exact p3 c hc hct
    · obtain ⟨c, hc, hct⟩ := h
      rcases List.mem_cons.1 hc with rfl | hc
      · refine ⟨c, List.mem_cons_self, hct, fun e he het => ?_⟩
        rcases List.mem_cons.1 he with rfl | he
        · exact Rat.le_refl
        · exact absurd ⟨e, he, het⟩ hL
      · exact absurd ⟨c, hc, hct⟩ hL
theorem sg_pos {D u v : Rat} (h : (0 < u ∧ 0 < v) ∨ (u < 0 ∧ v < 0)) (hu : 0 < D * u) : 0 < D * v := by
  rcases h with ⟨h1, h2⟩ | ⟨h1, h2⟩
  · exact Rat.mul_pos ((Rat.mul_pos_iff_of_pos_right h1).1 hu) h2
  · have e1 : D * u = (-D) * (-u) := by grind
    have e2 : D * v = (-D) * (-v) := by grind
    rw [e1] at hu
    rw [e2]
    exact Rat.mul_pos ((Rat.mul_pos_iff_of_pos_right (by grind)).1 hu) (by grind)
theorem at2_root {a b l : Int} (h : a ≠ b) : ∃ s : Rat, PxM.at2 a b s = (l : Rat) ∧ ∀ t, PxM.at2 a b t = (l : Rat) + (2 * ((b : Rat) - (a : Rat))) * (t - s) := by
  have hd : (2 * ((b : Rat) - (a : Rat))) ≠ 0 := by
    intro h0
    have : (b : Rat) = (a : Rat) := by grind
    have : b = a := by exact_mod_cast this
    exact h this.symm
  have e : (((l : Rat) - 2 * (a : Rat)) / (2 * ((b : Rat) - (a : Rat)))) * (2 * ((b : Rat) - (a : Rat))) = (l : Rat) - 2 * (a : Rat) := Rat.div_mul_cancel hd
  generalize ((l : Rat) - 2 * (a : Rat)) / (2 * ((b : Rat) - (a : Rat))) = s at e
  refine ⟨s, ?_, fun t => ?_⟩
  · unfold PxM.at2; grind
  · unfold PxM.at2; grind
theorem keep {a b l : Int} {p q t m : Rat} (h0 : p < t) (h1 : t < q) (h2 : p < m) (h3 : m < q) (hs : a ≠ b → ∀ s, PxM.at2 a b s = (l : Rat) → s ≤ p ∨ q ≤ s) :
    ((l : Rat) < PxM.at2 a b t → (l : Rat) < PxM.at2 a b m) ∧ (PxM.at2 a b t < (l : Rat) → PxM.at2 a b m < (l : Rat)) ∧ ((l : Rat) = PxM.at2 a b t → (l : Rat) = PxM.at2 a b m) := by
  by_cases hab : a = b
  · subst hab
    have e : ∀ x, PxM.at2 a a x = 2 * (a : Rat) := fun x => by unfold PxM.at2; grind
    rw [e, e]
    exact ⟨id, id, id⟩
  · obtain ⟨s, s1, s2⟩ := at2_root (l := l) hab
    have hps := hs hab s s1
    have hsg : (0 < t - s ∧ 0 < m - s) ∨ (t - s < 0 ∧ m - s < 0) := by
      rcases hps with h | h
      · exact .inl ⟨by grind, by grind⟩
      · exact .inr ⟨by grind, by grind⟩
    rw [s2 t, s2 m]
    generalize 2 * ((b : Rat) - (a : Rat)) = D at *
    refine ⟨fun h => ?_, fun h => ?_, fun h => ?_⟩
    · have := sg_pos (D := D) hsg (by grind)
      grind
    · have := sg_pos (D := -D) hsg (by grind)
      grind
    · have hz : D * (t - s) = 0 := by grind
      rcases Rat.mul_eq_zero.1 hz with h | h
      · rw [h]; grind
      · rcases hsg with ⟨k, _⟩ | ⟨k, _⟩
        · rw [h] at k; exact absurd k (by decide)
        · rw [h] at k; exact absurd k (by decide)
/-- What is asked of a place. -/
def Box (ax ay bx yb lx ly hx hy k : Int) (t : Rat) : Prop := PxM.T (PxM.at2 ax bx t) (lx : Rat) (k != 2) ∧ PxM.T (PxM.at2 ay yb t) (ly : Rat) (k != 2) ∧ PxM.Hi (PxM.at2 ax bx t) (hx : Rat) (k == 1) ∧ PxM.Hi (PxM.at2 ay yb t) (hy : Rat) (k == 1)
/-- The list's head: the ends, and where the numbers are as great as the limits. -/
structure Base (ax ay bx yb lx ly hx hy : Int) (B : List S58) : Prop where
  ok : ∀ x ∈ B, Ok0 x
  zero : ∃ x ∈ B, qv x = 0
  one : ∃ x ∈ B, qv x = 1
  r1 : ax ≠ bx → ∀ s : Rat, 0 ≤ s → s ≤ 1 → PxM.at2 ax bx s = (lx : Rat) → ∃ x ∈ B, qv x = s
  r2 : ax ≠ bx → ∀ s : Rat, 0 ≤ s → s ≤ 1 → PxM.at2 ax bx s = (hx : Rat) → ∃ x ∈ B, qv x = s
  r3 : ay ≠ yb → ∀ s : Rat, 0 ≤ s → s ≤ 1 → PxM.at2 ay yb s = (ly : Rat) → ∃ x ∈ B, qv x = s
  r4 : ay ≠ yb → ∀ s : Rat, 0 ≤ s → s ≤ 1 → PxM.at2 ay yb s = (hy : Rat) → ∃ x ∈ B, qv x = s
theorem place_iff {ax ay bx yb lx ly hx hy k : Int} {B L : List S58} (hB : Base ax ay bx yb lx ly hx hy B) (hL : ∀ x ∈ L, Ok x) (hin : ∀ x ∈ B, x ∈ L)
    (hmid : ∀ i j (hi : i < B.length) (hj : j < i), ∃ x ∈ L, qv x * 2 = qv B[i] + qv (B[j]'(Nat.lt_trans hj hi))) :
    (∃ x ∈ L, Box ax ay bx yb lx ly hx hy k (qv x)) ↔ PxM.Place ax ay bx yb lx ly hx hy k := by
  constructor
  · rintro ⟨x, hx, h⟩
    exact ⟨qv x, (hL x hx).lo, (hL x hx).hi, h⟩
  · rintro ⟨t, t0, t1, h⟩
    by_cases hC : ∃ x ∈ B, qv x = t
    · obtain ⟨x, hx, rfl⟩ := hC
      exact ⟨x, hin x hx, h⟩
    · obtain ⟨z, hz, ez⟩ := hB.zero
      obtain ⟨o, ho, eo⟩ := hB.one
      have hne : ∀ x ∈ B, qv x ≠ t := fun x hx e => hC ⟨x, hx, e⟩
      have hz' := hne z hz
      have ho' := hne o ho
      obtain ⟨p, p1, p2, p3⟩ := low_ex B t ⟨z, hz, by grind⟩
      obtain ⟨q, q1, q2, q3⟩ := high_ex B t ⟨o, ho, by grind⟩
      have hpq : qv p < qv q := by grind
      have hroot : ∀ s : Rat, (0 ≤ s → s ≤ 1 → ∃ x ∈ B, qv x = s) → s ≤ qv p ∨ qv q ≤ s := by
        intro s hs
        have p0 := (hB.ok p p1).lo
        have q0 := (hB.ok q q1).hi
        by_cases s0 : 0 ≤ s
        · by_cases s1 : s ≤ 1
          · obtain ⟨x, hx, e⟩ := hs s0 s1
            have := hne x hx
            by_cases hlt : qv x < t
            · exact .inl (by have := p3 x hx hlt; grind)
            · exact .inr (by have := q3 x hx (by grind); grind)
          · exact .inr (by grind)
        · exact .inl (by grind)
      have hm : ∃ x ∈ L, qv x * 2 = qv p + qv q := by
        obtain ⟨i, hi, ei⟩ := List.getElem_of_mem p1
        obtain ⟨j, hj, ej⟩ := List.getElem_of_mem q1
        rcases Nat.lt_trichotomy i j with h | h | h
        · obtain ⟨x, x1, x2⟩ := hmid j i hj h
          rw [ei, ej] at x2
          exact ⟨x, x1, by rw [x2]; grind⟩
        · subst h
          rw [ei] at ej
          rw [ej] at hpq
          grind
        · obtain ⟨x, x1, x2⟩ := hmid i j hi h
          rw [ei, ej] at x2
          exact ⟨x, x1, x2⟩
      obtain ⟨x, x1, x2⟩ := hm
      have m1 : qv p < qv x := by grind
      have m2 : qv x < qv q := by grind
      refine ⟨x, x1, ?_⟩
      obtain ⟨b1, b2, b3, b4⟩ := h
      have k1 := keep (t := t) p2 q2 m1 m2 (fun hn s e => hroot s fun s0 s1 => hB.r1 hn s s0 s1 e)
      have k2 := keep (t := t) p2 q2 m1 m2 (fun hn s e => hroot s fun s0 s1 => hB.r2 hn s s0 s1 e)
      have k3 := keep (t := t) p2 q2 m1 m2 (fun hn s e => hroot s fun s0 s1 => hB.r3 hn s s0 s1 e)
      have k4 := keep (t := t) p2 q2 m1 m2 (fun hn s e => hroot s fun s0 s1 => hB.r4 hn s s0 s1 e)
      refine ⟨b1.imp k1.1 (fun h => ⟨k1.2.2 h.1, h.2⟩), b2.imp k3.1 (fun h => ⟨k3.2.2 h.1, h.2⟩), b3.imp k2.2.1 (fun h => ⟨(k2.2.2 h.1.symm).symm, h.2⟩), b4.imp k4.2.1 (fun h => ⟨(k4.2.2 h.1.symm).symm, h.2⟩)⟩
end Go.Proofs.Ytglkjeeiiflpjaa.BN
