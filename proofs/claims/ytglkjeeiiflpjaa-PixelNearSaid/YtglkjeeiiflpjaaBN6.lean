/- The document's places on a segment: fractions, and what they are told to be. -/
import Derived.Test.YtglkjeeiiflpjaaBN4
import Derived.Test.YtglkjeeiiflpjaaF29
import Derived.Test.YtglkjeeiiflpjaaF32
import Derived.Test.YtglkjeeiiflpjaaF33
import Derived.Test.YtglkjeeiiflpjaaPM
namespace Go.Proofs.Ytglkjeeiiflpjaa.BN
open Go.RowKit Go.Proofs.Ytglkjeeiiflpjaa.F Go.Proofs.YtglkjeeiiflpjaaW.PrintWords Go.Proofs.YtglkjeeiiflpjaaW.PrintLast Go.Proofs.YtglkjeeiiflpjaaW.PrintMore
theorem num_ev {v : Int} (h0 : -9223372036854775808 ≤ v) (h1 : v ≤ 9223372036854775807) : ∃ c, Ev (fun k => cobwebref06_num.f k v) c ∧ Num c v 5 := by
  obtain ⟨c, c1, c2⟩ := Of_num h0 h1
  exact ⟨c, Ev.bind c1 (Ev.now _), c2⟩
/-- A fraction of the document's: over one above 0. -/
structure Fr (c e : Bool × List Int) (q : Rat) (n : Nat) : Prop where
  out : ∃ a d : Int, Num c a n ∧ Num e d n ∧ 0 < d ∧ q * (d : Rat) = (a : Rat)
theorem sum_ev {c e c' e' : Bool × List Int} {q q' : Rat} {n : Nat} (h : Fr c e q n) (h' : Fr c' e' q' n) (hn : n ≤ 1000) :
    ∃ r, Ev (fun k => cobwebref06_sum.f k c.1 c.2 e.1 e.2 c'.1 c'.2 e'.1 e'.2) r ∧ Fr (r.1, r.2.1) (r.2.2.1, r.2.2.2) (q + q') (2 * n + 2) := by
  obtain ⟨a, d, h1, h2, h3, h4⟩ := h.out
  obtain ⟨a', d', k1, k2, k3, k4⟩ := h'.out
  obtain ⟨x, x1, x2⟩ := Mul_num h1 k2 (by omega) (by omega)
  obtain ⟨y, y1, y2⟩ := Mul_num k1 h2 (by omega) (by omega)
  obtain ⟨s, s1, s2⟩ := Add_num x2 y2 (by omega) (by omega)
  obtain ⟨z, z1, z2⟩ := Mul_num h2 k2 (by omega) (by omega)
  refine ⟨(s.1, s.2, z.1, z.2), Ev.bind x1 (Ev.bind y1 (Ev.bind s1 (Ev.bind z1 (Ev.now _)))), ⟨a * d' + a' * d, d * d', s2.mono (by omega), z2.mono (by omega), Int.mul_pos h3 k3, ?_⟩⟩
  push_cast
  rw [← h4, ← k4]
  grind
theorem Cmp02_ev {c e c' e' : Bool × List Int} {a d a' d' : Int} {n : Nat} (h1 : Num c a n) (h2 : Num e d n) (k1 : Num c' a' n) (k2 : Num e' d' n) (hn : n ≤ 1000) :
    Ev (fun k => cobwebref02_Cmp.f k c.1 c.2 e.1 e.2 c'.1 c'.2 e'.1 e'.2) (sgn (a * d' - a' * d)) := by
  obtain ⟨x, x1, x2⟩ := Mul_num h1 k2 (by omega) (by omega)
  obtain ⟨y, y1, y2⟩ := Mul_num k1 h2 (by omega) (by omega)
  exact Ev.bind x1 (Ev.bind y1 (Ev.bind (Cmp_num x2 y2 (by omega) (by omega)) (Ev.now _)))
/-- A place on the way: its number, twice. -/
theorem on_ev {a b : Int} {c e : Bool × List Int} {q : Rat} {n : Nat} (h : Fr c e q n) (h5 : 5 ≤ n) (hn : n ≤ 100) (ha : -134217728 ≤ a ∧ a ≤ 134217728) (hb : -134217728 ≤ b ∧ b ≤ 134217728) :
    ∃ r, Ev (fun k => cobwebref06_on.f k a b c.1 c.2 e.1 e.2) r ∧ Fr (r.1, r.2.1) (r.2.2.1, r.2.2.2) (PxM.at2 a b q) (2 * (n + 6) + 2) := by
  obtain ⟨x, d, h1, h2, h3, h4⟩ := h.out
  have w1 : wrap64 (b - a) = b - a := w64 (by omega) (by omega)
  have w2 : wrap64 (2 * (b - a)) = 2 * (b - a) := w64 (by omega) (by omega)
  have w3 : wrap64 (2 * a) = 2 * a := w64 (by omega) (by omega)
  obtain ⟨u, u1, u2⟩ := num_ev (v := 2 * (b - a)) (by omega) (by omega)
  obtain ⟨m, m1, m2⟩ := Mul_num h1 u2 (by omega) (by omega)
  obtain ⟨v, v1, v2⟩ := num_ev (v := 2 * a) (by omega) (by omega)
  obtain ⟨o, o1, o2⟩ := num_ev (v := 1) (by omega) (by omega)
  have f1 : Fr v o ((2 * a : Int) : Rat) (n + 6) := ⟨2 * a, 1, v2.mono (by omega), o2.mono (by omega), by decide, by push_cast; grind⟩
  have f2 : Fr m e (q * ((2 * (b - a) : Int) : Rat)) (n + 6) := ⟨x * (2 * (b - a)), d, m2.mono (by omega), h2.mono (by omega), h3, by push_cast; rw [← h4]; grind⟩
  obtain ⟨s, s1, s2⟩ := sum_ev f1 f2 (by omega)
  refine ⟨(s.1, s.2.1, s.2.2.1, s.2.2.2), ?_, ?_⟩
  · unfold cobwebref06_on.f
    rw [w1, w2, w3]
    exact Ev.bind u1 (Ev.bind m1 (Ev.bind v1 (Ev.bind o1 (Ev.bind s1 (Ev.now _)))))
  · have e : ((2 * a : Int) : Rat) + q * ((2 * (b - a) : Int) : Rat) = PxM.at2 a b q := by unfold PxM.at2; push_cast; grind
    rw [e] at s2
    exact s2
/-- Is a number from low to high, as the kind has it? -/
def wiB (v : Rat) (lo hi k : Int) : Bool := (decide ((lo : Rat) < v) || (decide ((lo : Rat) = v) && (k != 2))) && (decide (v < (hi : Rat)) || (decide (v = (hi : Rat)) && (k == 1)))
theorem wiB_iff (v : Rat) (lo hi k : Int) : wiB v lo hi k = true ↔ PxM.T v lo (k != 2) ∧ PxM.Hi v hi (k == 1) := by
  unfold wiB PxM.T PxM.Hi
  simp only [Bool.and_eq_true, Bool.or_eq_true, decide_eq_true_eq]
theorem cmp_lo {q : Rat} {a d lo : Int} (hd : 0 < d) (h : q * (d : Rat) = (a : Rat)) : ((lo : Rat) < q ↔ lo * d - a * 1 < 0) ∧ ((lo : Rat) = q ↔ lo * d - a * 1 = 0) := by
  have hd' : (0 : Rat) < (d : Rat) := by exact_mod_cast hd
  have e : q = (a : Rat) / (d : Rat) := by
    rw [← h, Rat.mul_div_cancel (by grind)]
  constructor
  · rw [e, Rat.lt_div_iff hd', ← Rat.intCast_mul, Rat.intCast_lt_intCast]
    omega
  · constructor
    · intro hq
      rw [← hq, ← Rat.intCast_mul] at h
      have : lo * d = a := by exact_mod_cast h
      omega
    · intro hz
      have : lo * d = a := by omega
      rw [e, ← this, Rat.intCast_mul, Rat.mul_div_cancel (by grind)]
theorem cmp_hi {q : Rat} {a d hi : Int} (hd : 0 < d) (h : q * (d : Rat) = (a : Rat)) : (q < (hi : Rat) ↔ a * 1 - hi * d < 0) ∧ (q = (hi : Rat) ↔ a * 1 - hi * d = 0) := by
  have hd' : (0 : Rat) < (d : Rat) := by exact_mod_cast hd
  have e : q = (a : Rat) / (d : Rat) := by
    rw [← h, Rat.mul_div_cancel (by grind)]
  have h2 := (cmp_lo (lo := hi) hd h).2
  constructor
  · rw [e, Rat.div_lt_iff hd', ← Rat.intCast_mul, Rat.intCast_lt_intCast]
    omega
  · constructor
    · intro hq
      have := h2.1 hq.symm
      omega
    · intro hz
      exact (h2.2 (by omega)).symm
theorem sgn_lt (x : Int) : sgn x < 0 ↔ x < 0 := by unfold sgn; split <;> (try split) <;> omega
theorem sgn_eq (x : Int) : sgn x = 0 ↔ x = 0 := by unfold sgn; split <;> (try split) <;> omega
theorem within_ev {c e : Bool × List Int} {q : Rat} {n : Nat} (h : Fr c e q n) (h5 : 5 ≤ n) (hn : n ≤ 1000) {lo hi k : Int} (hl : -9223372036854775808 ≤ lo ∧ lo ≤ 9223372036854775807) (hh : -9223372036854775808 ≤ hi ∧ hi ≤ 9223372036854775807) :
    Ev (fun j => cobwebref06_within.f j c.1 c.2 e.1 e.2 lo hi k) (wiB q lo hi k) := by
  obtain ⟨a, d, h1, h2, h3, h4⟩ := h.out
  obtain ⟨l, l1, l2⟩ := num_ev hl.1 hl.2
  obtain ⟨u, u1, u2⟩ := num_ev hh.1 hh.2
  obtain ⟨o, o1, o2⟩ := num_ev (v := 1) (by omega) (by omega)
  have c1 := Cmp02_ev (l2.mono h5) (o2.mono h5) h1 h2 hn
  have c2 := Cmp02_ev h1 h2 (u2.mono h5) (o2.mono h5) hn
  obtain ⟨p1, p2⟩ := cmp_lo (lo := lo) h3 h4
  obtain ⟨p3, p4⟩ := cmp_hi (hi := hi) h3 h4
  unfold cobwebref06_within.f
  refine Ev.bind l1 (Ev.bind o1 (Ev.bind c1 (Ev.bind u1 (Ev.bind o1 (Ev.bind c2 ?_)))))
  simp only [sgn_lt, sgn_eq]
  rw [show wiB q lo hi k = ((decide (lo * d - a * 1 < 0) || (decide (lo * d - a * 1 = 0) && (k != 2))) && (decide (a * 1 - hi * d < 0) || (decide (a * 1 - hi * d = 0) && (k == 1)))) from by
    unfold wiB
    simp only [p1, p2, p3, p4]]
  clear p1 p2 p3 p4 c1 c2
  generalize lo * d - a * 1 = x at *
  generalize a * 1 - hi * d = y at *
  have key : ∀ s : Bool, (s = true ↔ (x < 0 ∨ (x = 0 ∧ ¬ k = 2)) ∧ (y < 0 ∨ (y = 0 ∧ k = 1))) →
      (if x < 0 then (if y < 0 then (some true) else (if y = 0 then (some (k == 1)) else (some false))) else (if x = 0 then (if k = 2 then (some false) else (if y < 0 then (some true) else (if y = 0 then (some (k == 1)) else (some false)))) else (some false))) = some s := by
    intro s hs
    cases s with
    | true =>
      have h := hs.1 rfl
      repeat' split
      all_goals first | rfl | (exfalso; omega) | (congr 1; rw [beq_iff_eq]; omega)
    | false =>
      have h : ¬ ((x < 0 ∨ (x = 0 ∧ ¬ k = 2)) ∧ (y < 0 ∨ (y = 0 ∧ k = 1))) := fun h => by have := hs.2 h; cases this
      repeat' split
      all_goals first | rfl | (exfalso; omega) | (congr 1; rw [beq_eq_false_iff_ne]; omega)
  rw [key ((decide (x < 0) || (decide (x = 0) && (k != 2))) && (decide (y < 0) || (decide (y = 0) && (k == 1)))) (by simp only [Bool.and_eq_true, Bool.or_eq_true, decide_eq_true_eq, bne_iff_ne, beq_iff_eq, ne_eq])]
  exact Ev.now _
end Go.Proofs.Ytglkjeeiiflpjaa.BN
