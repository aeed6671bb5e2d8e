/- The document's In: is a pixel near enough? As grid.In has it. -/
import Derived.Test.YtglkjeeiiflpjaaBN4
import Derived.Test.YtglkjeeiiflpjaaF16
import Derived.Test.YtglkjeeiiflpjaaPG
namespace Go.Proofs.Ytglkjeeiiflpjaa.BN
open Go.RowKit Go.Proofs.Ytglkjeeiiflpjaa.F Go.Proofs.YtglkjeeiiflpjaaW.PrintWords Go.Proofs.YtglkjeeiiflpjaaW.PrintLast Go.Proofs.YtglkjeeiiflpjaaW.PrintMore
theorem sgn_ge (x : Int) : sgn x ≥ 0 ↔ 0 ≤ x := by unfold sgn; split <;> (try split) <;> omega
theorem sgn_le (x : Int) : sgn x ≤ 0 ↔ x ≤ 0 := by unfold sgn; split <;> (try split) <;> omega
theorem near_ev {c : Bool × List Int} {v : Int} {n : Nat} (h : Num c v n) (hn : n ≤ 1000) (j : Nat) (hj : j ≤ 28) :
    Ev (fun k => cobwebref03_near.f k c.1 c.2 (j : Int)) (decide (-134217728 ≤ v * 2 ^ j) && decide (v * 2 ^ j ≤ 134217728)) := by
  obtain ⟨p, p1, p2⟩ := Power_num (a0 := j) (by omega)
  obtain ⟨q, q1, q2⟩ := Power_num (a0 := 27) (by omega)
  obtain ⟨m, m1, m2⟩ := Mul_num h p2 (by omega) (by omega)
  obtain ⟨g, g1, g2⟩ := Neg_num q2 (by omega)
  have c1 := Cmp_num m2 g2 (by omega) (by omega)
  have c2 := Cmp_num m2 q2 (by omega) (by omega)
  have e : (2 : Int) ^ 27 = 134217728 := by decide
  rw [e] at c1 c2
  generalize v * 2 ^ j = x at *
  unfold cobwebref03_near.f
  refine Ev.bind p1 (Ev.bind m1 (Ev.bind q1 (Ev.bind g1 (Ev.bind c1 ?_))))
  by_cases hx : -134217728 ≤ x
  · rw [decide_eq_true hx, Bool.true_and]
    have : sgn (x - -134217728) ≥ 0 := (sgn_ge _).2 (by omega)
    simp only [if_pos this]
    refine Ev.bind q1 (Ev.bind c2 ?_)
    have e2 : decide (sgn (x - 134217728) ≤ 0) = decide (x ≤ 134217728) := decide_eq_decide.2 (by rw [sgn_le]; omega)
    rw [e2]
    exact Ev.now _
  · rw [decide_eq_false hx, Bool.false_and]
    have : ¬ sgn (x - -134217728) ≥ 0 := fun h => hx (by have := (sgn_ge _).1 h; omega)
    simp only [if_neg this]
    exact Ev.now _
open Go.Proofs.Ytglkjeeiiflpjaa.PxM in
theorem nearB_iff {k q : Int} (h0 : 0 ≤ k) (h1 : k ≤ 28) : nearB k q = (decide (-134217728 ≤ q * 2 ^ k.toNat) && decide (q * 2 ^ k.toNat ≤ 134217728)) := by
  have hs := sz_bounds h0 h1
  have e : mostAt k = 134217728 / sz k := by unfold mostAt sz; rw [rung_id h0 h1]
  unfold nearB
  rw [e]
  change _ = (decide (-134217728 ≤ q * sz k) && decide (q * sz k ≤ 134217728))
  generalize sz k = n at *
  have a1 : q ≤ 134217728 / n ↔ q * n ≤ 134217728 := Int.le_ediv_iff_mul_le (by omega)
  have a2 : -q ≤ 134217728 / n ↔ -q * n ≤ 134217728 := Int.le_ediv_iff_mul_le (by omega)
  rw [Int.neg_mul] at a2
  generalize 134217728 / n = m at *
  generalize q * n = x at *
  rw [Bool.eq_iff_iff]
  simp only [Bool.and_eq_true, decide_eq_true_eq]
  omega
theorem In_ev {k x y : Int} (h0 : 0 ≤ k) (h1 : k ≤ 28) (hx : -9223372036854775808 ≤ x ∧ x ≤ 9223372036854775807) (hy : -9223372036854775808 ≤ y ∧ y ≤ 9223372036854775807) :
    Ev (fun n => cobwebref03_In.f n x y k) (nearB k x && nearB k y) := by
  obtain ⟨c, c1, c2⟩ := Of_num hx.1 hx.2
  obtain ⟨d, d1, d2⟩ := Of_num hy.1 hy.2
  have e : ((k.toNat : Nat) : Int) = k := Int.toNat_of_nonneg h0
  have n1 := near_ev c2 (by omega) k.toNat (by omega)
  have n2 := near_ev d2 (by omega) k.toNat (by omega)
  rw [e, ← nearB_iff h0 h1] at n1 n2
  have hr : cobwebref03_Rung.f k = some k := by unfold cobwebref03_Rung.f; rw [if_neg (by omega), if_neg (by omega)]
  unfold cobwebref03_In.f
  simp only [hr, Option.bind_some]
  refine Ev.bind c1 (Ev.bind n1 ?_)
  cases nearB k x with
  | true =>
    simp only [if_true, Bool.true_and]
    exact Ev.bind d1 (Ev.bind n2 (Ev.now _))
  | false =>
    simp only [Bool.false_eq_true, if_false, Bool.false_and]
    exact Ev.now _
end Go.Proofs.Ytglkjeeiiflpjaa.BN
