/- PixelNear: in plain numbers, and the walk as the row wants it. -/
import Derived.Test.YtglkjeeiiflpjaaBN8
import Derived.Test.YtglkjeeiiflpjaaF5
namespace Go.Proofs.Ytglkjeeiiflpjaa.PxM
open Go.RowKit Go.Proofs.Ytglkjeeiiflpjaa.F Go.Proofs.YtglkjeeiiflpjaaW.PrintWords Go.Proofs.YtglkjeeiiflpjaaW.PrintLast Go.Proofs.YtglkjeeiiflpjaaW.PrintMore
theorem n64 {x : Int} (h0 : -9223372036854775808 ≤ x) (h1 : x ≤ 9223372036854775807) : wrap64 x = x := BN.w64 h0 h1
theorem cross5 (x y : Int) : cross_Right.f x y = Option.some (rightB 134217728 x y) := by
  unfold cross_Right.f rightB
  repeat' split
  all_goals first | (congr 1; exact decide_eq_decide.2 ⟨fun _ => by omega, fun _ => by omega⟩) | (congr 1; exact (decide_eq_false (by omega)).symm)
/-- pixel.Near. -/
def nearQ (ax ay bx yb px py far : Int) : Bool := rightB 134217728 px py && decide (0 ≤ far) && decide (far ≤ 268435456) && meetsB ax ay bx yb (2 * px - far) (2 * py - far) (2 * px + far) (2 * py + far) 1
theorem wr5 {p far : Int} (hp : -134217728 ≤ p ∧ p ≤ 134217728) (h0 : 0 ≤ far) (h1 : far ≤ 268435456) : wrap64 (wrap64 (2 * p) - far) = 2 * p - far ∧ wrap64 (wrap64 (2 * p) + far) = 2 * p + far := by
  rw [n64 (x := 2 * p) (by omega) (by omega), n64 (x := 2 * p - far) (by omega) (by omega), n64 (x := 2 * p + far) (by omega) (by omega)]
  exact ⟨rfl, rfl⟩
theorem Near_eq (ax ay bx yb px py far : Int) : pixel_Near.f ax ay bx yb px py far = Option.some (nearQ ax ay bx yb px py far) := by
  unfold pixel_Near.f nearQ
  rw [cross5]
  cases hr : rightB 134217728 px py with
  | false => simp
  | true =>
    have hp := BN.far_of hr
    by_cases h0 : far < 0
    · simp [h0, show ¬ 0 ≤ far by omega]
    · by_cases h1 : far > 268435456
      · simp [h0, h1, show ¬ far ≤ 268435456 by omega]
      · have e1 := wr5 hp.1 (by omega) (by omega : far ≤ 268435456)
        have e2 := wr5 hp.2 (by omega) (by omega : far ≤ 268435456)
        simp [h0, h1, e1.1, e1.2, e2.1, e2.2, pixel_Meets.f, show 0 ≤ far by omega, show far ≤ 268435456 by omega]
theorem ratlt {a b : Int} (h : a < b) : (a : Rat) < (b : Rat) := by exact_mod_cast h
theorem T_less {x : Rat} {l m : Int} (h : T x (l : Rat) ((1 : Int) != 2)) (hm : m < l) : T x (m : Rat) ((1 : Int) != 2) := by
  have := ratlt hm
  rcases h with h | ⟨h, _⟩
  · exact .inl (by grind)
  · exact .inl (by grind)
theorem Hi_more {x : Rat} {l m : Int} (h : Hi x (l : Rat) ((1 : Int) == 1)) (hm : l < m) : Hi x (m : Rat) ((1 : Int) == 1) := by
  have := ratlt hm
  rcases h with h | ⟨h, _⟩
  · exact .inl (by grind)
  · exact .inl (by grind)
theorem fit5 {p q far : Int} (h : rightB 134217728 p q = true) (h0 : 0 ≤ far) (h1 : far ≤ 268435456) : rightB 536870912 (2 * p - far) (2 * q - far) = true ∧ rightB 536870912 (2 * p + far) (2 * q + far) = true := by
  have hp := BN.far_of h
  rw [rightB_iff, rightB_iff]
  omega
theorem nearQ_iff {ax ay bx yb px py far : Int} (ga : rightB 134217728 ax ay = true) (gb : rightB 134217728 bx yb = true) (gp : rightB 134217728 px py = true) (h0 : 0 ≤ far) (h1 : far ≤ 268435456) :
    nearQ ax ay bx yb px py far = meetsB ax ay bx yb (2 * px - far) (2 * py - far) (2 * px + far) (2 * py + far) 1 ∧ (nearQ ax ay bx yb px py far = true ↔ Place ax ay bx yb (2 * px - far) (2 * py - far) (2 * px + far) (2 * py + far) 1) := by
  have e : nearQ ax ay bx yb px py far = meetsB ax ay bx yb (2 * px - far) (2 * py - far) (2 * px + far) (2 * py + far) 1 := by
    unfold nearQ
    rw [gp, decide_eq_true h0, decide_eq_true h1]
    rfl
  refine ⟨e, ?_⟩
  rw [e, meetsB_iff]
  have hf := fit5 gp h0 h1
  exact ⟨fun h => h.2, fun h => ⟨⟨ga, gb, hf.1, hf.2, by decide, by decide⟩, h⟩⟩
theorem near_more {ax ay bx yb px py far : Int} (ga : rightB 134217728 ax ay = true) (gb : rightB 134217728 bx yb = true) (gp : rightB 134217728 px py = true) (h0 : 0 ≤ far) (h1 : far < 268435456) (h : nearQ ax ay bx yb px py far = true) : nearQ ax ay bx yb px py (far + 1) = true := by
  rw [(nearQ_iff ga gb gp h0 (by omega)).2] at h
  rw [(nearQ_iff ga gb gp (by omega) (by omega)).2]
  obtain ⟨t, t0, t1, a, b, c, d⟩ := h
  exact ⟨t, t0, t1, T_less a (by omega), T_less b (by omega), Hi_more c (by omega), Hi_more d (by omega)⟩
theorem at_eq {x : Rat} {p : Int} (h : x = ((2 * p : Int) : Rat)) : T x ((2 * p - 0 : Int) : Rat) ((1 : Int) != 2) ∧ Hi x ((2 * p + 0 : Int) : Rat) ((1 : Int) == 1) := by
  rw [Int.sub_zero, Int.add_zero, h]
  exact ⟨.inr ⟨rfl, by decide⟩, .inr ⟨rfl, by decide⟩⟩
theorem at2_0 (a b : Int) : at2 a b 0 = ((2 * a : Int) : Rat) := by unfold at2; push_cast; grind
theorem at2_1 (a b : Int) : at2 a b 1 = ((2 * b : Int) : Rat) := by unfold at2; push_cast; grind
theorem near_a {ax ay bx yb : Int} (ga : rightB 134217728 ax ay = true) (gb : rightB 134217728 bx yb = true) : nearQ ax ay bx yb ax ay 0 = true := by
  rw [(nearQ_iff ga gb ga (by decide) (by decide)).2]
  have e1 := at_eq (at2_0 ax bx)
  have e2 := at_eq (at2_0 ay yb)
  exact ⟨0, by decide, by decide, e1.1, e2.1, e1.2, e2.2⟩
theorem near_b {ax ay bx yb : Int} (ga : rightB 134217728 ax ay = true) (gb : rightB 134217728 bx yb = true) : nearQ ax ay bx yb bx yb 0 = true := by
  rw [(nearQ_iff ga gb gb (by decide) (by decide)).2]
  have e1 := at_eq (at2_1 ax bx)
  have e2 := at_eq (at2_1 ay yb)
  exact ⟨1, by decide, by decide, e1.1, e2.1, e1.2, e2.2⟩
theorem no5 {ax ay bx yb px py far : Int} (h : nearQ ax ay bx yb px py far = false) : Ev (fun n => cobweblaw06_PixelNear.j0 n far (nearQ ax ay bx yb px py far) true ax ay bx yb px py) true := by
  refine Ev.step (f := fun _ => Option.some true) (fun n => ?_) (Ev.now _)
  simp [cobweblaw06_PixelNear.j0, cobweblaw06_alive.f, h]
theorem nearQ_no {ax ay bx yb px py far : Int} (h : ¬ (rightB 134217728 ax ay = true ∧ rightB 134217728 bx yb = true ∧ rightB 134217728 px py = true ∧ 0 ≤ far ∧ far ≤ 268435456)) : nearQ ax ay bx yb px py far = false := by
  rw [Bool.eq_false_iff]
  intro hh
  unfold nearQ at hh
  simp only [Bool.and_eq_true, decide_eq_true_eq, meetsB_iff] at hh
  exact h ⟨hh.2.1.1, hh.2.1.2.1, hh.1.1.1, hh.1.1.2, hh.1.2⟩
theorem j1_5 {ax ay bx yb px py far : Int} (ga : rightB 134217728 ax ay = true) (gb : rightB 134217728 bx yb = true) (gp : rightB 134217728 px py = true) (h0 : 0 ≤ far) (h1 : far ≤ 268435456) (m : Bool) (hm : nearQ ax ay bx yb px py far = true → m = true) :
    Ev (fun n => cobweblaw06_PixelNear.j1 n (nearQ ax ay bx yb px py far) m ax ay bx yb (2 * px - far) (2 * py - far) (2 * px + far) (2 * py + far)) true := by
  have e := (nearQ_iff ga gb gp h0 h1).1
  refine Ev.step (f := fun n => (cobwebref06_Meets.f n ax ay bx yb (2 * px - far) (2 * py - far) (2 * px + far) (2 * py + far) 1).bind fun t112 => if (nearQ ax ay bx yb px py far == t112) = true then Option.some true else Option.some false) (fun n => ?_) (Ev.bind BN.Meets_ev ?_)
  · simp only [cobweblaw06_PixelNear.j1, cobweblaw06_alive.f, Option.bind_some, if_true, Near_eq, near_a ga gb, near_b ga gb]
    cases hq : nearQ ax ay bx yb px py far with
    | true => rw [hm hq]; simp
    | false => simp
  · rw [← e, beq_self_eq_true]
    simp only [if_true]
    exact Ev.now _
theorem PixelNear_pure {ax ay bx yb px py far : Int} : ∃ n, cobweblaw06_PixelNear.f n ax ay bx yb px py far = Option.some true := by
  refine Ev.rounds ?_
  unfold cobweblaw06_PixelNear.f
  simp only [Near_eq, BN.r05, Option.bind_some]
  by_cases ga : rightB 134217728 ax ay = true
  · by_cases gb : rightB 134217728 bx yb = true
    · by_cases gp : rightB 134217728 px py = true
      · simp only [ga, gb, gp, if_true]
        by_cases h0 : far < 0
        · simp only [if_pos h0]
          exact no5 (nearQ_no (by omega))
        · simp only [if_neg h0]
          by_cases h1 : far > 268435456
          · rw [decide_eq_true h1]
            exact no5 (nearQ_no (by omega))
          · rw [decide_eq_false h1]
            have hp := BN.far_of gp
            have e1 := wr5 hp.1 (by omega) (by omega : far ≤ 268435456)
            have e2 := wr5 hp.2 (by omega) (by omega : far ≤ 268435456)
            by_cases h2 : far = 268435456
            · refine Ev.step (f := fun n => cobweblaw06_PixelNear.j1 n (nearQ ax ay bx yb px py far) true ax ay bx yb (2 * px - far) (2 * py - far) (2 * px + far) (2 * py + far)) (fun n => ?_) (j1_5 ga gb gp (by omega) (by omega) true fun _ => rfl)
              rw [cobweblaw06_PixelNear.j0, if_neg (by decide), if_pos h2, e1.1, e1.2, e2.1, e2.2]
            · have w : wrap64 (far + 1) = far + 1 := n64 (by omega) (by omega)
              refine Ev.step (f := fun n => cobweblaw06_PixelNear.j1 n (nearQ ax ay bx yb px py far) (nearQ ax ay bx yb px py (far + 1)) ax ay bx yb (2 * px - far) (2 * py - far) (2 * px + far) (2 * py + far)) (fun n => ?_) (j1_5 ga gb gp (by omega) (by omega) _ fun h => near_more ga gb gp (by omega) (by omega) h)
              rw [cobweblaw06_PixelNear.j0, if_neg (by decide), if_neg h2, w, Near_eq, Option.bind_some, e1.1, e1.2, e2.1, e2.2]
      · simp only [ga, gb, gp, if_true, Bool.false_eq_true, if_false]
        exact no5 (nearQ_no fun h => gp h.2.2.1)
    · simp only [ga, gb, if_true, Bool.false_eq_true, if_false]
      exact no5 (nearQ_no fun h => gb h.2.1)
  · simp only [ga, Bool.false_eq_true, if_false]
    exact no5 (nearQ_no fun h => ga h.1)
end Go.Proofs.Ytglkjeeiiflpjaa.PxM
namespace Go.Proofs.Ytglkjeeiiflpjaa.R
open Go.RowKit Go.Proofs.Ytglkjeeiiflpjaa.F
theorem PixelNear_walk (a b c d e f k : Int) (w : World) (_ : (Lit.int .i64 a).wf = true) (_ : (Lit.int .i64 b).wf = true) (_ : (Lit.int .i64 c).wf = true) (_ : (Lit.int .i64 d).wf = true) (_ : (Lit.int .i64 e).wf = true) (_ : (Lit.int .i64 f).wf = true) (_ : (Lit.int .i64 k).wf = true) :
    Calls Try.prog 5 #[.agg #[.int .i64 a, .int .i64 b, .int .i64 c, .int .i64 d], .agg #[.int .i64 e, .int .i64 f], .int .i64 k] w fun e w' => e = .returned (.bool true) ∧ Below w.heap.size w w' := by
  obtain ⟨n, hn⟩ := PxM.PixelNear_pure (ax := a) (ay := b) (bx := c) (yb := d) (px := e) (py := f) (far := k)
  exact cobweblaw06_PixelNear.calls n a b c d e f k true w hn
end Go.Proofs.Ytglkjeeiiflpjaa.R
