/- PixelTiles, in plain numbers. -/
import Derived.Test.YtglkjeeiiflpjaaPG
import Derived.Test.YtglkjeeiiflpjaaF10
namespace Go.Proofs.Ytglkjeeiiflpjaa.PxM
open Go.RowKit Go.Proofs.Ytglkjeeiiflpjaa.F Go.Proofs.YtglkjeeiiflpjaaW.PrintWords Go.Proofs.YtglkjeeiiflpjaaW.PrintLast Go.Proofs.YtglkjeeiiflpjaaW.PrintMore
theorem right05' (x y : Int) : cobwebref05_Right.f x y = Option.some (rightB 134217728 x y) := by
  unfold cobwebref05_Right.f rightB
  repeat' split
  all_goals first | (congr 1; exact decide_eq_decide.2 ⟨fun _ => by omega, fun _ => by omega⟩) | (congr 1; exact (decide_eq_false (by omega)).symm)
theorem hits_ev (ax ay bx yb x y k : Int) : Ev (fun n => pixel_Hits.f n ax ay bx yb x y k) (hitsB ax ay bx yb x y k) :=
  ⟨1, fun n hn => by obtain ⟨m, rfl⟩ : ∃ m, n = m + 1 := ⟨n - 1, by omega⟩; exact Hits_eq m _ _ _ _ _ _ _⟩
theorem at2_point (a : Int) (t : Rat) : at2 a a t = ((2 * a : Int) : Rat) := by unfold at2; push_cast; grind
theorem Place_point (px py lx ly hx hy : Int) : Place px py px py lx ly hx hy 0 ↔ lx ≤ 2 * px ∧ ly ≤ 2 * py ∧ 2 * px < hx ∧ 2 * py < hy := by
  unfold Place
  simp only [at2_point]
  have e1 : ∀ a b : Int, T (b : Rat) (a : Rat) ((0 : Int) != 2) ↔ a ≤ b := by
    intro a b
    unfold T
    constructor
    · rintro (h | ⟨h, _⟩)
      · have : a < b := by exact_mod_cast h
        omega
      · have : a = b := by exact_mod_cast h
        omega
    · intro h
      by_cases c : a = b
      · exact .inr ⟨by exact_mod_cast c, by decide⟩
      · exact .inl (by have : a < b := by omega
                       exact_mod_cast this)
  have e2 : ∀ a b : Int, Hi (a : Rat) (b : Rat) ((0 : Int) == 1) ↔ a < b := by
    intro a b
    unfold Hi
    constructor
    · rintro (h | ⟨_, h⟩)
      · exact_mod_cast h
      · exact absurd h (by decide)
    · intro h; exact .inl (by exact_mod_cast h)
  simp only [e1, e2]
  constructor
  · rintro ⟨t, _, _, h⟩; exact h
  · intro h; exact ⟨0, by decide, by decide, h⟩
theorem side_fit {x y k : Int} (h0 : 0 ≤ k) (h1 : k ≤ 28) (hi : (nearB k x && nearB k y) = true) :
    rightB 536870912 (2 * (x * sz k) - sz k) (2 * (y * sz k) - sz k) = true ∧ rightB 536870912 (2 * (x * sz k) + sz k) (2 * (y * sz k) + sz k) = true := by
  have hs := sz_bounds h0 h1
  simp only [Bool.and_eq_true] at hi
  have hx := near_of h0 h1 hi.1
  have hy := near_of h0 h1 hi.2
  rw [rightB_iff, rightB_iff]
  omega
theorem hits_iff {ax ay bx yb x y k : Int} (h0 : 0 ≤ k) (h1 : k ≤ 28) (ga : rightB 134217728 ax ay = true) (gb : rightB 134217728 bx yb = true) :
    hitsB ax ay bx yb x y k = true ↔ (nearB k x && nearB k y) = true ∧ Place ax ay bx yb (2 * (x * sz k) - sz k) (2 * (y * sz k) - sz k) (2 * (x * sz k) + sz k) (2 * (y * sz k) + sz k) 0 := by
  unfold hitsB
  rw [Bool.and_eq_true, Bool.and_eq_true, Bool.and_eq_true, meetsB_iff]
  constructor
  · rintro ⟨⟨_, hi⟩, _, hp⟩; exact ⟨hi, hp⟩
  · rintro ⟨hi, hp⟩
    have hf := side_fit h0 h1 hi
    exact ⟨⟨⟨decide_eq_true h0, decide_eq_true h1⟩, hi⟩, ⟨ga, gb, hf.1, hf.2, by decide, by decide⟩, hp⟩
/-- A point hits the one pixel that it lies in. -/
theorem hits_point {px py qx qy k : Int} (dx dy : Int) (h0 : 0 ≤ k) (h1 : k ≤ 28) (g : rightB 134217728 px py = true)
    (hx : 2 * (qx * sz k) - sz k ≤ 2 * px ∧ 2 * px < 2 * (qx * sz k) + sz k) (hy : 2 * (qy * sz k) - sz k ≤ 2 * py ∧ 2 * py < 2 * (qy * sz k) + sz k) :
    hitsB px py px py (qx + dx) (qy + dy) k = ((nearB k qx && nearB k qy) && (dx == 0 && dy == 0)) := by
  have hs := sz_bounds h0 h1
  have one : ∀ {v q d : Int}, 2 * (q * sz k) - sz k ≤ 2 * v → 2 * v < 2 * (q * sz k) + sz k → 2 * ((q + d) * sz k) - sz k ≤ 2 * v → 2 * v < 2 * ((q + d) * sz k) + sz k → d = 0 := by
    intro v q d a1 a2 a3 a4
    rw [Int.add_mul] at a3 a4
    rcases Int.lt_trichotomy d 0 with c | c | c
    · have := Int.mul_le_mul_of_nonneg_right (show d ≤ -1 by omega) (show 0 ≤ sz k by omega)
      omega
    · exact c
    · have := Int.mul_le_mul_of_nonneg_right (show 1 ≤ d by omega) (show 0 ≤ sz k by omega)
      omega
  rw [Bool.eq_iff_iff, hits_iff h0 h1 g g, Place_point]
  constructor
  · rintro ⟨hi, a, b, c, d⟩
    have e1 := one hx.1 hx.2 a c
    have e2 := one hy.1 hy.2 b d
    subst e1 e2
    simp only [Int.add_zero] at hi
    simp [hi]
  · intro h
    simp only [Bool.and_eq_true, beq_iff_eq] at h
    obtain ⟨hi, rfl, rfl⟩ := h
    simp only [Int.add_zero]
    exact ⟨by simp [hi], hx.1, hy.1, hx.2, hy.2⟩
section
variable {ax ay bx yb px py qx qy k : Int} {r : Bool}
theorem l1_step {x8 x9 x10 : Int} {b : Bool} (h8 : 0 ≤ x8 ∧ x8 ≤ 100) (h9 : -1 ≤ x9 ∧ x9 ≤ 1) (h10 : -1 ≤ x10 ∧ x10 ≤ 1) (hq : (-134217729 ≤ qx ∧ qx ≤ 134217729) ∧ -134217729 ≤ qy ∧ qy ≤ 134217729)
    (hb : hitsB px py px py (qx + x9) (qy + x10) k = b) (h : Ev (fun n => cobweblaw06_PixelTiles.l1 n k (if b = true then x8 + 1 else x8) x9 (x10 + 1) ax ay bx yb px py qx qy) r) :
    Ev (fun n => cobweblaw06_PixelTiles.l1 n k x8 x9 x10 ax ay bx yb px py qx qy) r := by
  have w1 : wrap64 (qx + x9) = qx + x9 := wneg (by omega) (by omega)
  have w2 : wrap64 (qy + x10) = qy + x10 := wneg (by omega) (by omega)
  have w3 : wrap64 (x10 + 1) = x10 + 1 := wneg (by omega) (by omega)
  have w4 : wrap64 (x8 + 1) = x8 + 1 := wneg (by omega) (by omega)
  refine Ev.step (f := fun n => (pixel_Hits.f n px py px py (qx + x9) (qy + x10) k).bind fun t => if t = true then cobweblaw06_PixelTiles.l1 n k (x8 + 1) x9 (x10 + 1) ax ay bx yb px py qx qy else cobweblaw06_PixelTiles.l1 n k x8 x9 (x10 + 1) ax ay bx yb px py qx qy) (fun n => ?_) ?_
  · simp only [cobweblaw06_PixelTiles.l1, w1, w2, w3, w4]
    rw [if_pos (by omega)]
  · refine Ev.bind (hits_ev _ _ _ _ _ _ _) ?_
    rw [hb]
    cases b <;> simpa using h
theorem l1_end {x8 x9 : Int} (h9 : -1 ≤ x9 ∧ x9 ≤ 1) (h : Ev (fun n => cobweblaw06_PixelTiles.l0 n k x8 (x9 + 1) ax ay bx yb px py qx qy) r) :
    Ev (fun n => cobweblaw06_PixelTiles.l1 n k x8 x9 2 ax ay bx yb px py qx qy) r := by
  have w3 : wrap64 (x9 + 1) = x9 + 1 := wneg (by omega) (by omega)
  refine Ev.step (fun n => ?_) h
  simp only [cobweblaw06_PixelTiles.l1, w3]
  rw [if_neg (by omega)]
/-- One column. -/
theorem column {x8 x9 : Int} {i : Bool} (h8 : 0 ≤ x8 ∧ x8 ≤ 90) (h9 : -1 ≤ x9 ∧ x9 ≤ 1) (hq : (-134217729 ≤ qx ∧ qx ≤ 134217729) ∧ -134217729 ≤ qy ∧ qy ≤ 134217729)
    (hh : ∀ dx dy, hitsB px py px py (qx + dx) (qy + dy) k = (i && (dx == 0 && dy == 0)))
    (h : Ev (fun n => cobweblaw06_PixelTiles.l0 n k (if (i && x9 == 0) = true then x8 + 1 else x8) (x9 + 1) ax ay bx yb px py qx qy) r) :
    Ev (fun n => cobweblaw06_PixelTiles.l0 n k x8 x9 ax ay bx yb px py qx qy) r := by
  refine Ev.step (f := fun n => cobweblaw06_PixelTiles.l1 n k x8 x9 (-1) ax ay bx yb px py qx qy) (fun n => ?_) ?_
  · simp only [cobweblaw06_PixelTiles.l0]
    rw [if_pos (by omega)]
  · refine l1_step (b := false) (by omega) h9 (by omega) hq (by rw [hh]; simp) ?_
    simp only [Bool.false_eq_true, if_false]
    refine l1_step (b := (i && x9 == 0)) (by omega) h9 (by omega) hq (by rw [hh]; simp) ?_
    refine l1_step (b := false) (by split <;> omega) h9 (by omega) hq (by rw [hh]; simp) ?_
    simp only [Bool.false_eq_true, if_false]
    exact l1_end h9 h
end
theorem T_true (x l : Rat) : T x l ((0 : Int) != 2) ↔ l ≤ x := by
  have e : ((0 : Int) != 2) = true := by decide
  rw [e]; unfold T; grind
theorem Hi_false (x h : Rat) : Hi x h ((0 : Int) == 1) ↔ x < h := by
  have e : ((0 : Int) == 1) = false := by decide
  rw [e]; unfold Hi; simp
theorem Place_quarters {ax ay bx yb lx ly mx my hx hy : Int} (h1 : lx ≤ mx) (h2 : mx ≤ hx) (h3 : ly ≤ my) (h4 : my ≤ hy) :
    Place ax ay bx yb lx ly hx hy 0 ↔ (Place ax ay bx yb lx ly mx my 0 ∨ Place ax ay bx yb mx my hx hy 0 ∨ Place ax ay bx yb lx my mx hy 0 ∨ Place ax ay bx yb mx ly hx my 0) := by
  have r1 : (lx : Rat) ≤ (mx : Rat) := by exact_mod_cast h1
  have r2 : (mx : Rat) ≤ (hx : Rat) := by exact_mod_cast h2
  have r3 : (ly : Rat) ≤ (my : Rat) := by exact_mod_cast h3
  have r4 : (my : Rat) ≤ (hy : Rat) := by exact_mod_cast h4
  unfold Place
  simp only [T_true, Hi_false]
  constructor
  · rintro ⟨t, h0, h1, a, b, c, d⟩
    by_cases e1 : at2 ax bx t < (mx : Rat) <;> by_cases e2 : at2 ay yb t < (my : Rat)
    · exact .inl ⟨t, h0, h1, a, b, e1, e2⟩
    · exact .inr (.inr (.inl ⟨t, h0, h1, a, by grind, e1, d⟩))
    · exact .inr (.inr (.inr ⟨t, h0, h1, by grind, b, c, e2⟩))
    · exact .inr (.inl ⟨t, h0, h1, by grind, by grind, c, d⟩)
  · rintro (⟨t, h0, h1, a, b, c, d⟩ | ⟨t, h0, h1, a, b, c, d⟩ | ⟨t, h0, h1, a, b, c, d⟩ | ⟨t, h0, h1, a, b, c, d⟩)
    all_goals exact ⟨t, h0, h1, by grind, by grind, by grind, by grind⟩
theorem meetsB_quarters {ax ay bx yb lx ly mx my hx hy : Int} (h1 : lx ≤ mx) (h2 : mx ≤ hx) (h3 : ly ≤ my) (h4 : my ≤ hy) (g1 : rightB 536870912 lx ly = true) (g2 : rightB 536870912 hx hy = true) :
    meetsB ax ay bx yb lx ly hx hy 0 = (((meetsB ax ay bx yb lx ly mx my 0 || meetsB ax ay bx yb mx my hx hy 0) || meetsB ax ay bx yb lx my mx hy 0) || meetsB ax ay bx yb mx ly hx my 0) := by
  have f1 : rightB 536870912 mx my = true := by rw [rightB_iff] at *; omega
  have f2 : rightB 536870912 lx my = true := by rw [rightB_iff] at *; omega
  have f3 : rightB 536870912 mx hy = true := by rw [rightB_iff] at *; omega
  have f4 : rightB 536870912 mx ly = true := by rw [rightB_iff] at *; omega
  have f5 : rightB 536870912 hx my = true := by rw [rightB_iff] at *; omega
  rw [Bool.eq_iff_iff, Bool.or_eq_true, Bool.or_eq_true, Bool.or_eq_true, meetsB_iff, meetsB_iff, meetsB_iff, meetsB_iff, meetsB_iff, Place_quarters h1 h2 h3 h4]
  constructor
  · rintro ⟨⟨a, b, _, _, e, f⟩, h | h | h | h⟩
    · exact .inl (.inl (.inl ⟨⟨a, b, g1, f1, e, f⟩, h⟩))
    · exact .inl (.inl (.inr ⟨⟨a, b, f1, g2, e, f⟩, h⟩))
    · exact .inl (.inr ⟨⟨a, b, f2, f3, e, f⟩, h⟩)
    · exact .inr ⟨⟨a, b, f4, f5, e, f⟩, h⟩
  · rintro (((⟨⟨a, b, _, _, e, f⟩, h⟩ | ⟨⟨a, b, _, _, e, f⟩, h⟩) | ⟨⟨a, b, _, _, e, f⟩, h⟩) | ⟨⟨a, b, _, _, e, f⟩, h⟩)
    · exact ⟨⟨a, b, g1, g2, e, f⟩, .inl h⟩
    · exact ⟨⟨a, b, g1, g2, e, f⟩, .inr (.inl h)⟩
    · exact ⟨⟨a, b, g1, g2, e, f⟩, .inr (.inr (.inl h))⟩
    · exact ⟨⟨a, b, g1, g2, e, f⟩, .inr (.inr (.inr h))⟩
def quarters (lx ly mx my hx hy : Int) : List S26 := [⟨⟨lx, ly⟩, ⟨mx, my⟩⟩, ⟨⟨mx, my⟩, ⟨hx, hy⟩⟩, ⟨⟨lx, my⟩, ⟨mx, hy⟩⟩, ⟨⟨mx, ly⟩, ⟨hx, my⟩⟩]
theorem l2_run {ax ay bx yb qx qy k lx ly mx my hx hy : Int}
    (H : hitsB ax ay bx yb qx qy k = (((meetsB ax ay bx yb lx ly mx my 0 || meetsB ax ay bx yb mx my hx hy 0) || meetsB ax ay bx yb lx my mx hy 0) || meetsB ax ay bx yb mx ly hx my 0)) :
    Ev (fun n => cobweblaw06_PixelTiles.l2 n k 1 false (quarters lx ly mx my hx hy) 4 0 ax ay bx yb qx qy) true := by
  have w0 : wrap64 (0 + 1) = 1 := by unfold wrap64; omega
  have w1 : wrap64 (1 + 1) = 2 := by unfold wrap64; omega
  have w2 : wrap64 (2 + 1) = 3 := by unfold wrap64; omega
  have w3 : wrap64 (3 + 1) = 4 := by unfold wrap64; omega
  generalize hm1 : meetsB ax ay bx yb lx ly mx my 0 = m1 at *
  generalize hm2 : meetsB ax ay bx yb mx my hx hy 0 = m2 at *
  generalize hm3 : meetsB ax ay bx yb lx my mx hy 0 = m3 at *
  generalize hm4 : meetsB ax ay bx yb mx ly hx my 0 = m4 at *
  have e0 : ∀ n, cobweblaw06_PixelTiles.l2 (n + 1) k 1 false (quarters lx ly mx my hx hy) 4 0 ax ay bx yb qx qy = cobweblaw06_PixelTiles.l2 n k 1 m1 (quarters lx ly mx my hx hy) 4 1 ax ay bx yb qx qy := by
    intro n
    simp only [cobweblaw06_PixelTiles.l2, w0]
    simp [rd_T26, quarters, pixel_Meets.f, hm1]
  have e1 : ∀ n b, cobweblaw06_PixelTiles.l2 (n + 1) k 1 b (quarters lx ly mx my hx hy) 4 1 ax ay bx yb qx qy = cobweblaw06_PixelTiles.l2 n k 1 (b || m2) (quarters lx ly mx my hx hy) 4 2 ax ay bx yb qx qy := by
    intro n b
    simp only [cobweblaw06_PixelTiles.l2, w1]
    cases b <;> simp [rd_T26, quarters, pixel_Meets.f, hm2]
  have e2 : ∀ n b, cobweblaw06_PixelTiles.l2 (n + 1) k 1 b (quarters lx ly mx my hx hy) 4 2 ax ay bx yb qx qy = cobweblaw06_PixelTiles.l2 n k 1 (b || m3) (quarters lx ly mx my hx hy) 4 3 ax ay bx yb qx qy := by
    intro n b
    simp only [cobweblaw06_PixelTiles.l2, w2]
    cases b <;> simp [rd_T26, quarters, pixel_Meets.f, hm3]
  have e3 : ∀ n b, cobweblaw06_PixelTiles.l2 (n + 1) k 1 b (quarters lx ly mx my hx hy) 4 3 ax ay bx yb qx qy = cobweblaw06_PixelTiles.l2 n k 1 (b || m4) (quarters lx ly mx my hx hy) 4 4 ax ay bx yb qx qy := by
    intro n b
    simp only [cobweblaw06_PixelTiles.l2, w3]
    cases b <;> simp [rd_T26, quarters, pixel_Meets.f, hm4]
  refine Ev.step e0 (Ev.step (fun n => e1 n _) (Ev.step (fun n => e2 n _) (Ev.step (fun n => e3 n _) ?_)))
  rw [← H]
  refine Ev.step (f := fun n => (pixel_Hits.f n ax ay bx yb qx qy k).bind fun t128 => Option.some (hitsB ax ay bx yb qx qy k == t128)) (fun n => ?_) ?_
  · simp only [cobweblaw06_PixelTiles.l2]
    simp [cobweblaw06_alive.f]
  · refine Ev.bind (hits_ev _ _ _ _ _ _ _) ?_
    simp only [beq_self_eq_true]
    exact Ev.now true
theorem PixelTiles_pure (ax ay bx yb px py k : Int) : ∃ n, cobweblaw06_PixelTiles.f n ax ay bx yb px py k = Option.some true := by
  have no : cobweblaw06_PixelTiles.j0 1 k true ax ay bx yb px py = Option.some true := by simp [cobweblaw06_PixelTiles.j0, cobweblaw06_alive.f]
  by_cases h0 : 0 ≤ k
  · by_cases h1 : k ≤ 20
    · by_cases ga : rightB 134217728 ax ay = true
      · by_cases gb : rightB 134217728 bx yb = true
        · by_cases gp : rightB 134217728 px py = true
          · refine Ev.rounds (Ev.congr (f := fun n => cobweblaw06_PixelTiles.j0 n k false ax ay bx yb px py) (fun n => ?_) ?_)
            · simp [cobweblaw06_PixelTiles.f, right05', ga, gb, gp, show ¬ k < 0 by omega, show ¬ k > 20 by omega]
            have gp' := rightB_iff.1 gp
            obtain ⟨qx, eqx, x1, x2, x3, x4⟩ := Snap_eq (v := px) h0 (show k ≤ 28 by omega) ⟨gp'.1, gp'.2.1⟩
            obtain ⟨qy, eqy, y1, y2, y3, y4⟩ := Snap_eq (v := py) h0 (show k ≤ 28 by omega) ⟨gp'.2.2.1, gp'.2.2.2⟩
            refine Ev.step (f := fun n => cobweblaw06_PixelTiles.l0 n k 0 (-1) ax ay bx yb px py qx qy) (fun n => ?_) ?_
            · simp [cobweblaw06_PixelTiles.j0, grid_Of.f, eqx, eqy]
            have hq : (-134217729 ≤ qx ∧ qx ≤ 134217729) ∧ -134217729 ≤ qy ∧ qy ≤ 134217729 := ⟨⟨x3, x4⟩, y3, y4⟩
            have hh := fun dx dy => hits_point (qx := qx) (qy := qy) dx dy h0 (show k ≤ 28 by omega) gp ⟨x1, x2⟩ ⟨y1, y2⟩
            refine column (by omega) (by omega) hq hh (column (by split <;> omega) (by omega) hq hh (column (by split <;> split <;> omega) (by omega) hq hh ?_))
            cases hi : (nearB k qx && nearB k qy) with
            | false =>
              refine ⟨1, fun n hn => ?_⟩
              obtain ⟨m, rfl⟩ : ∃ m, n = m + 1 := ⟨n - 1, by omega⟩
              simp [cobweblaw06_PixelTiles.l0, grid_Sides.f, grid_In.f, hi, cobweblaw06_alive.f]
            | true =>
              have hs := sz_bounds h0 (show k ≤ 28 by omega)
              have hi' := hi
              simp only [Bool.and_eq_true] at hi'
              have hx := near_of h0 (show k ≤ 28 by omega) hi'.1
              have hy := near_of h0 (show k ≤ 28 by omega) hi'.2
              have hf := side_fit h0 (show k ≤ 28 by omega) hi
              have eS := Sides_eq h0 (show k ≤ 28 by omega) hi
              have H : hitsB ax ay bx yb qx qy k = meetsB ax ay bx yb (2 * (qx * sz k) - sz k) (2 * (qy * sz k) - sz k) (2 * (qx * sz k) + sz k) (2 * (qy * sz k) + sz k) 0 := by
                unfold hitsB
                rw [hi, decide_eq_true h0, decide_eq_true (show k ≤ 28 by omega)]
                rfl
              rw [meetsB_quarters (mx := 2 * (qx * sz k)) (my := 2 * (qy * sz k)) (by omega) (by omega) (by omega) (by omega) hf.1 hf.2] at H
              refine Ev.step (fun n => ?_) (l2_run H)
              have w : ∀ X : Int, -134217728 ≤ X → X ≤ 134217728 → wrap64 (Int.tdiv (wrap64 (2 * X - sz k + (2 * X + sz k))) 2) = 2 * X := by
                intro X a b
                rw [wneg (x := 2 * X - sz k + (2 * X + sz k)) (by omega) (by omega), show 2 * X - sz k + (2 * X + sz k) = (2 * X) * 2 by omega, Int.mul_tdiv_cancel _ (by decide)]
                exact wneg (by omega) (by omega)
              have wx := w _ hx.1 hx.2
              have wy := w _ hy.1 hy.2
              simp only [cobweblaw06_PixelTiles.l0, eS, Option.bind_some, grid_In.f, hi, if_true, wx, wy]
              simp [quarters]
          · refine ⟨1, ?_⟩
            simp only [Bool.not_eq_true] at gp
            simp [cobweblaw06_PixelTiles.f, right05', ga, gb, gp, no]
        · refine ⟨1, ?_⟩
          simp only [Bool.not_eq_true] at gb
          simp [cobweblaw06_PixelTiles.f, right05', ga, gb, no]
      · refine ⟨1, ?_⟩
        simp only [Bool.not_eq_true] at ga
        simp [cobweblaw06_PixelTiles.f, right05', ga, no]
    · refine ⟨1, ?_⟩
      simp [cobweblaw06_PixelTiles.f, show k > 20 by omega, no]
  · refine ⟨1, ?_⟩
    simp [cobweblaw06_PixelTiles.f, show k < 0 by omega, no]
end Go.Proofs.Ytglkjeeiiflpjaa.PxM
