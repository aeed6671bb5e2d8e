/- PixelBetween, in plain numbers. -/
import Derived.Test.YtglkjeeiiflpjaaBN5
import Derived.Test.YtglkjeeiiflpjaaF9
namespace Go.Proofs.Ytglkjeeiiflpjaa.PxM
open Go.RowKit Go.Proofs.Ytglkjeeiiflpjaa.F Go.Proofs.YtglkjeeiiflpjaaW.PrintWords Go.Proofs.YtglkjeeiiflpjaaW.PrintLast Go.Proofs.YtglkjeeiiflpjaaW.PrintMore
theorem right9 (x y : Int) : cobwebref05_Right.f x y = Option.some (rightB 134217728 x y) := by
  unfold cobwebref05_Right.f rightB
  repeat' split
  all_goals first | (congr 1; exact decide_eq_decide.2 ⟨fun _ => by omega, fun _ => by omega⟩) | (congr 1; exact (decide_eq_false (by omega)).symm)
theorem hits9 (ax ay bx yb x y k : Int) : Ev (fun n => pixel_Hits.f n ax ay bx yb x y k) (hitsB ax ay bx yb x y k) :=
  ⟨1, fun n hn => by obtain ⟨m, rfl⟩ : ∃ m, n = m + 1 := ⟨n - 1, by omega⟩; exact Hits_eq m _ _ _ _ _ _ _⟩
theorem gap9 {p q k : Int} (h0 : 0 ≤ k) (h1 : k ≤ 28) (h : p < q) : 2 * (p * sz k) + sz k ≤ 2 * (q * sz k) - sz k := by
  have hs := sz_bounds h0 h1
  have : (p + 1) * sz k ≤ q * sz k := Int.mul_le_mul_of_nonneg_right (by omega) (by omega)
  rw [Int.add_mul] at this
  omega
theorem castle {a b : Int} (h : a ≤ b) : (a : Rat) ≤ (b : Rat) := by exact_mod_cast h
theorem castlt {a b : Int} (h : a < b) : (a : Rat) < (b : Rat) := by exact_mod_cast h
/-- A place on the way is between the ends. -/
theorem at2_ends {a b : Int} {t : Rat} (h0 : 0 ≤ t) (h1 : t ≤ 1) {l h : Int} (hl : l ≤ 2 * a ∧ l ≤ 2 * b) (hh : 2 * a < h ∧ 2 * b < h) : (l : Rat) ≤ at2 a b t ∧ at2 a b t < (h : Rat) := by
  have ea : ((2 * a : Int) : Rat) = 2 * (a : Rat) := by push_cast; rfl
  have eb : ((2 * b : Int) : Rat) = 2 * (b : Rat) := by push_cast; rfl
  have l1 := castle hl.1
  have l2 := castle hl.2
  have l3 := castlt hh.1
  have l4 := castlt hh.2
  rw [ea] at l1 l3
  rw [eb] at l2 l4
  unfold at2
  rcases Rat.le_total (a := (a : Rat)) (b := (b : Rat)) with c | c
  · have h3 : ((b : Rat) - a) * 0 ≤ ((b : Rat) - a) * t := Rat.mul_le_mul_of_nonneg_left h0 (by grind)
    have h4 : ((b : Rat) - a) * t ≤ ((b : Rat) - a) * 1 := Rat.mul_le_mul_of_nonneg_left h1 (by grind)
    constructor <;> grind
  · have h3 : ((a : Rat) - b) * 0 ≤ ((a : Rat) - b) * t := Rat.mul_le_mul_of_nonneg_left h0 (by grind)
    have h4 : ((a : Rat) - b) * t ≤ ((a : Rat) - b) * 1 := Rat.mul_le_mul_of_nonneg_left h1 (by grind)
    constructor <;> grind
theorem T9 (x l : Rat) : T x l ((0 : Int) != 2) ↔ l ≤ x := by
  have e : ((0 : Int) != 2) = true := by decide
  rw [e]; unfold T; grind
theorem Hi9 (x h : Rat) : Hi x h ((0 : Int) == 1) ↔ x < h := by
  have e : ((0 : Int) == 1) = false := by decide
  rw [e]; unfold Hi; simp
/-- One number of a pixel that is met, and those of the ends. -/
theorem one9 {a b p q x k : Int} {t : Rat} (h0 : 0 ≤ k) (h1 : k ≤ 28) (t0 : 0 ≤ t) (t1 : t ≤ 1) (hp : 2 * (p * sz k) - sz k ≤ 2 * a ∧ 2 * a < 2 * (p * sz k) + sz k) (hq : 2 * (q * sz k) - sz k ≤ 2 * b ∧ 2 * b < 2 * (q * sz k) + sz k)
    (hl : ((2 * (x * sz k) - sz k : Int) : Rat) ≤ at2 a b t) (hh : at2 a b t < ((2 * (x * sz k) + sz k : Int) : Rat)) : mn p q ≤ x ∧ x ≤ mx p q := by
  have hs := sz_bounds h0 h1
  have e1 : ∀ u : Int, x < u → 2 * (x * sz k) + sz k ≤ 2 * (u * sz k) - sz k := fun u h => gap9 h0 h1 h
  have e2 : ∀ u : Int, u < x → 2 * (u * sz k) + sz k ≤ 2 * (x * sz k) - sz k := fun u h => gap9 h0 h1 h
  constructor
  · rcases Int.lt_or_le x (mn p q) with c | c
    · exfalso
      have hp1 : x < p := by simp only [mn] at c; split at c <;> omega
      have hq1 : x < q := by simp only [mn] at c; split at c <;> omega
      have f1 := e1 p hp1
      have f2 := e1 q hq1
      have := (at2_ends (a := a) (b := b) t0 t1 (l := 2 * (x * sz k) + sz k) (h := if a ≤ b then 2 * b + 1 else 2 * a + 1) ⟨by omega, by omega⟩ ⟨by split <;> omega, by split <;> omega⟩).1
      grind
    · exact c
  · rcases Int.lt_or_le (mx p q) x with c | c
    · exfalso
      have hp1 : p < x := by simp only [mx] at c; split at c <;> omega
      have hq1 : q < x := by simp only [mx] at c; split at c <;> omega
      have f1 := e2 p hp1
      have f2 := e2 q hq1
      have := (at2_ends (a := a) (b := b) t0 t1 (l := if a ≤ b then 2 * a else 2 * b) (h := 2 * (x * sz k) - sz k) ⟨by split <;> omega, by split <;> omega⟩ ⟨by omega, by omega⟩).2
      grind
    · exact c
theorem fit9 {qx qy k : Int} (h0 : 0 ≤ k) (h1 : k ≤ 28) (hi : (nearB k qx && nearB k qy) = true) :
    rightB 536870912 (2 * (qx * sz k) - sz k) (2 * (qy * sz k) - sz k) = true ∧ rightB 536870912 (2 * (qx * sz k) + sz k) (2 * (qy * sz k) + sz k) = true := by
  have hs := sz_bounds h0 h1
  simp only [Bool.and_eq_true] at hi
  have hx := near_of h0 h1 hi.1
  have hy := near_of h0 h1 hi.2
  rw [rightB_iff, rightB_iff]
  omega
/-- A pixel of a place of the segment is hit, where it is not too far. -/
theorem end9 {ax ay bx yb qx qy k : Int} {t : Rat} (h0 : 0 ≤ k) (h1 : k ≤ 28) (ga : rightB 134217728 ax ay = true) (gb : rightB 134217728 bx yb = true) (t0 : 0 ≤ t) (t1 : t ≤ 1)
    (hx : ((2 * (qx * sz k) - sz k : Int) : Rat) ≤ at2 ax bx t ∧ at2 ax bx t < ((2 * (qx * sz k) + sz k : Int) : Rat)) (hy : ((2 * (qy * sz k) - sz k : Int) : Rat) ≤ at2 ay yb t ∧ at2 ay yb t < ((2 * (qy * sz k) + sz k : Int) : Rat)) :
    hitsB ax ay bx yb qx qy k = (nearB k qx && nearB k qy) := by
  unfold hitsB
  rw [decide_eq_true h0, decide_eq_true h1]
  cases hi : (nearB k qx && nearB k qy) with
  | false => rfl
  | true =>
    have hf := fit9 h0 h1 hi
    simp only [Bool.true_and]
    rw [meetsB_iff]
    exact ⟨⟨ga, gb, hf.1, hf.2, by decide, by decide⟩, t, t0, t1, (T9 _ _).2 hx.1, (T9 _ _).2 hy.1, (Hi9 _ _).2 hx.2, (Hi9 _ _).2 hy.2⟩
theorem at2_zero (a b : Int) : at2 a b 0 = ((2 * a : Int) : Rat) := by unfold at2; push_cast; grind
theorem at2_one (a b : Int) : at2 a b 1 = ((2 * b : Int) : Rat) := by unfold at2; push_cast; grind
theorem PixelBetween_pure {ax ay bx yb qx qy k : Int} : ∃ n, cobweblaw06_PixelBetween.f n ax ay bx yb qx qy k = Option.some true := by
  have no : cobweblaw06_PixelBetween.j0 1 k true ax ay bx yb qx qy = Option.some true := by simp [cobweblaw06_PixelBetween.j0, cobweblaw06_alive.f]
  by_cases h0 : 0 ≤ k
  · by_cases h1 : k ≤ 28
    · have hr : cobwebref03_Rung.f k = Option.some k := by unfold cobwebref03_Rung.f; rw [if_neg (by omega), if_neg (by omega)]
      by_cases ga : rightB 134217728 ax ay = true
      · by_cases gb : rightB 134217728 bx yb = true
        · refine Ev.rounds (Ev.congr (f := fun n => cobweblaw06_PixelBetween.j0 n k false ax ay bx yb qx qy) (fun n => ?_) ?_)
          · simp [cobweblaw06_PixelBetween.f, right9, ga, gb, hr]
          have ga' := rightB_iff.1 ga
          have gb' := rightB_iff.1 gb
          obtain ⟨px, epx, p1, p2, p3, p4⟩ := Snap_eq (v := ax) h0 h1 ⟨ga'.1, ga'.2.1⟩
          obtain ⟨py, epy, p5, p6, p7, p8⟩ := Snap_eq (v := ay) h0 h1 ⟨ga'.2.2.1, ga'.2.2.2⟩
          obtain ⟨sx, esx, s1, s2, s3, s4⟩ := Snap_eq (v := bx) h0 h1 ⟨gb'.1, gb'.2.1⟩
          obtain ⟨sy, esy, s5, s6, s7, s8⟩ := Snap_eq (v := yb) h0 h1 ⟨gb'.2.2.1, gb'.2.2.2⟩
          have hp := end9 (t := 0) (qx := px) (qy := py) h0 h1 ga gb (by grind) (by grind) (by rw [at2_zero]; exact ⟨castle p1, castlt p2⟩) (by rw [at2_zero]; exact ⟨castle p5, castlt p6⟩)
          have hs := end9 (t := 1) (qx := sx) (qy := sy) h0 h1 ga gb (by grind) (by grind) (by rw [at2_one]; exact ⟨castle s1, castlt s2⟩) (by rw [at2_one]; exact ⟨castle s5, castlt s6⟩)
          have ip := BN.In_ev (x := px) (y := py) h0 h1 (by omega) (by omega)
          have is := BN.In_ev (x := sx) (y := sy) h0 h1 (by omega) (by omega)
          have fin : Ev (fun n => cobweblaw06_PixelBetween.j2 n k false ax ay bx yb px py sx sy) true := by
            refine Ev.step (f := fun n => ((pixel_Hits.f n ax ay bx yb px py k).bind fun t115 => ((cobwebref03_In.f n px py k).bind fun t116 => (if (t115 == t116) = true then ((pixel_Hits.f n ax ay bx yb sx sy k).bind fun t117 => ((cobwebref03_In.f n sx sy k).bind fun t118 => (Option.some (t117 == t118)))) else (Option.some false))))) (fun n => ?_) ?_
            · simp [cobweblaw06_PixelBetween.j2, cobweblaw06_alive.f]
            · refine Ev.bind (hits9 _ _ _ _ _ _ _) (Ev.bind ip ?_)
              rw [hp]
              simp only [beq_self_eq_true, if_true]
              refine Ev.bind (hits9 _ _ _ _ _ _ _) (Ev.bind is ?_)
              rw [hs]
              simp only [beq_self_eq_true]
              exact Ev.now true
          have mid : ∀ b : Bool, (hitsB ax ay bx yb qx qy k = true → b = true) → Ev (fun n => cobweblaw06_PixelBetween.j1 n k b ax ay bx yb qx qy px py sx sy) true := by
            intro b hb
            refine Ev.step (f := fun n => (pixel_Hits.f n ax ay bx yb qx qy k).bind fun t113 => (if t113 = true then (cobweblaw06_PixelBetween.j2 n k (!b) ax ay bx yb px py sx sy) else (cobweblaw06_PixelBetween.j2 n k false ax ay bx yb px py sx sy))) (fun n => by simp only [cobweblaw06_PixelBetween.j1]) (Ev.bind (hits9 _ _ _ _ _ _ _) ?_)
            cases hh : hitsB ax ay bx yb qx qy k with
            | false => simpa using fin
            | true =>
              rw [hb hh]
              simpa using fin
          have key : hitsB ax ay bx yb qx qy k = true → (mn px sx ≤ qx ∧ qx ≤ mx px sx) ∧ mn py sy ≤ qy ∧ qy ≤ mx py sy := by
            intro h
            unfold hitsB at h
            rw [Bool.and_eq_true, meetsB_iff] at h
            obtain ⟨_, _, t, t0, t1, a1, a2, a3, a4⟩ := h
            exact ⟨one9 h0 h1 t0 t1 ⟨p1, p2⟩ ⟨s1, s2⟩ ((T9 _ _).1 a1) ((Hi9 _ _).1 a3), one9 h0 h1 t0 t1 ⟨p5, p6⟩ ⟨s5, s6⟩ ((T9 _ _).1 a2) ((Hi9 _ _).1 a4)⟩
          refine Ev.step (f := fun n => if (mn px sx) ≤ qx then (if qx ≤ (mx px sx) then (if (mn py sy) ≤ qy then (cobweblaw06_PixelBetween.j1 n k (decide (qy ≤ (mx py sy))) ax ay bx yb qx qy px py sx sy) else (cobweblaw06_PixelBetween.j1 n k false ax ay bx yb qx qy px py sx sy)) else (cobweblaw06_PixelBetween.j1 n k false ax ay bx yb qx qy px py sx sy)) else (cobweblaw06_PixelBetween.j1 n k false ax ay bx yb qx qy px py sx sy)) (fun n => ?_) ?_
          · simp [cobweblaw06_PixelBetween.j0, grid_Of.f, epx, epy, esx, esy]
          · split
            · split
              · split
                · exact mid _ fun h => decide_eq_true (key h).2.2
                · rename_i c; exact mid _ fun h => absurd (key h).2.1 c
              · rename_i c; exact mid _ fun h => absurd (key h).1.2 c
            · rename_i c; exact mid _ fun h => absurd (key h).1.1 c
        · refine ⟨1, ?_⟩
          simp only [Bool.not_eq_true] at gb
          simp [cobweblaw06_PixelBetween.f, right9, ga, gb, hr, no]
      · refine ⟨1, ?_⟩
        simp only [Bool.not_eq_true] at ga
        simp [cobweblaw06_PixelBetween.f, right9, ga, hr, no]
    · refine ⟨1, ?_⟩
      simp [cobweblaw06_PixelBetween.f, cobwebref03_Rung.f, show ¬ k < 0 by omega, show k > 28 by omega, show ¬ k = 28 by omega, no]
  · refine ⟨1, ?_⟩
    simp [cobweblaw06_PixelBetween.f, cobwebref03_Rung.f, show k < 0 by omega, show ¬ k = 0 by omega, no]
end Go.Proofs.Ytglkjeeiiflpjaa.PxM
