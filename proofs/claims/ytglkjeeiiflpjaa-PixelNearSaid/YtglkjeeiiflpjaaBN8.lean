/- The document's Meets: its loops, and that it tells what pixel.Meets tells. -/
import Derived.Test.YtglkjeeiiflpjaaBN7
import Derived.Test.YtglkjeeiiflpjaaF12
namespace Go.Proofs.Ytglkjeeiiflpjaa.BN
open Go.RowKit Go.Proofs.Ytglkjeeiiflpjaa.F Go.Proofs.YtglkjeeiiflpjaaW.PrintWords Go.Proofs.YtglkjeeiiflpjaaW.PrintLast Go.Proofs.YtglkjeeiiflpjaaW.PrintMore
theorem rd58 {L : List S58} {i : Nat} (h : i < L.length) : rd_T58 L (i : Int) = L[i] := by
  unfold rd_T58
  rw [Int.toNat_natCast, List.getD_eq_getElem?_getD, List.getElem?_eq_getElem h]
  rfl
theorem sb1 {a i d : Nat} (h : a - i = d + 1) : a - (i + 1) = d := by omega
theorem sb2 {a i d : Nat} (h : a - i = d + 1) : i < a := by omega
section
variable {ax ay bx yb lx ly hx hy k : Int}
/-- Does a place do? -/
def doB (ax ay bx yb lx ly hx hy k : Int) (x : S58) : Bool := wiB (PxM.at2 ax bx (qv x)) lx hx k && wiB (PxM.at2 ay yb (qv x)) ly hy k
theorem doB_iff (x : S58) : doB ax ay bx yb lx ly hx hy k x = true ↔ Box ax ay bx yb lx ly hx hy k (qv x) := by
  unfold doB Box
  rw [Bool.and_eq_true, wiB_iff, wiB_iff]
  constructor
  · rintro ⟨⟨a, b⟩, c, d⟩; exact ⟨a, c, b, d⟩
  · rintro ⟨a, c, b, d⟩; exact ⟨⟨a, b⟩, c, d⟩
theorem far_of {l x y : Int} (h : rightB l x y = true) : (-l ≤ x ∧ x ≤ l) ∧ (-l ≤ y ∧ y ≤ l) := by rw [PxM.rightB_iff] at h; omega
theorem l2_ev (ga : rightB 134217728 ax ay = true) (gb : rightB 134217728 bx yb = true) (gl : rightB 536870912 lx ly = true) (gh : rightB 536870912 hx hy = true) (L : List S58) (hL : ∀ x ∈ L, Ok x) (hn : L.length ≤ 1000) :
    ∀ d i : Nat, L.length - i = d → i ≤ L.length → Ev (fun n => cobwebref06_Meets.l2 n k L (i : Int) ax ay bx yb lx ly hx hy) ((L.drop i).any (doB ax ay bx yb lx ly hx hy k)) := by
  have a1 := far_of ga
  have b1 := far_of gb
  have l1 := far_of gl
  have h1 := far_of gh
  have z1 : -9223372036854775808 ≤ lx ∧ lx ≤ 9223372036854775807 := by omega
  have z2 : -9223372036854775808 ≤ hx ∧ hx ≤ 9223372036854775807 := by omega
  have z3 : -9223372036854775808 ≤ ly ∧ ly ≤ 9223372036854775807 := by omega
  have z4 : -9223372036854775808 ≤ hy ∧ hy ≤ 9223372036854775807 := by omega
  clear l1 h1
  intro d
  induction d with
  | zero =>
    intro i hd hi
    rw [List.drop_eq_nil_of_le (by omega)]
    refine Ev.step (f := fun _ => Option.some false) (fun n => ?_) (Ev.now _)
    rw [cobwebref06_Meets.l2, if_neg (by omega)]
  | succ d ih =>
    intro i hd hi
    have hlt : i < L.length := sb2 hd
    have hi1 : wrap64 ((i : Int) + 1) = ((i + 1 : Nat) : Int) := w64j i (Nat.lt_of_lt_of_le hlt (Nat.le_trans hn (by decide)))
    have nx := ih (i + 1) (sb1 hd) hlt
    have t1 : (i : Int) < (L.length : Int) := Int.ofNat_lt.2 hlt
    have t2 : (0 : Int) ≤ (i : Int) := Int.natCast_nonneg i
    have hok := hL _ (List.getElem_mem hlt)
    obtain ⟨p, p1, p2⟩ := on_ev (a := ax) (b := bx) hok.fr (by decide) (by decide) a1.1 b1.1
    obtain ⟨q, q1, q2⟩ := on_ev (a := ay) (b := yb) hok.fr (by decide) (by decide) a1.2 b1.2
    have c1 := within_ev (k := k) p2 (by decide) (by decide) (lo := lx) (hi := hx) z1 z2
    have c2 := within_ev (k := k) q2 (by decide) (by decide) (lo := ly) (hi := hy) z3 z4
    rw [List.drop_eq_getElem_cons hlt, List.any_cons]
    refine Ev.step (f := fun n => (cobwebref06_on.f n ax bx L[i].f0.f0 L[i].f0.f1 L[i].f1.f0 L[i].f1.f1).bind fun bt171 => ((cobwebref06_within.f n bt171.1 bt171.2.1 bt171.2.2.1 bt171.2.2.2 lx hx k).bind fun t179 => (if t179 = true then ((cobwebref06_on.f n ay yb L[i].f0.f0 L[i].f0.f1 L[i].f1.f0 L[i].f1.f1).bind fun bt181 => ((cobwebref06_within.f n bt181.1 bt181.2.1 bt181.2.2.1 bt181.2.2.2 ly hy k).bind fun t189 => (if t189 = true then (Option.some true) else (cobwebref06_Meets.l2 n k L ((i + 1 : Nat) : Int) ax ay bx yb lx ly hx hy)))) else (cobwebref06_Meets.l2 n k L ((i + 1 : Nat) : Int) ax ay bx yb lx ly hx hy)))) (fun n => ?_) (Ev.bind p1 (Ev.bind c1 ?_))
    · rw [cobwebref06_Meets.l2, if_pos t1, if_pos t2, rd58 hlt, hi1]
    · unfold doB
      cases wiB (PxM.at2 ax bx (qv L[i])) lx hx k with
      | false =>
        simp only [Bool.false_and, Bool.false_or, Bool.false_eq_true, if_false]
        exact nx
      | true =>
        simp only [Bool.true_and, if_true]
        refine Ev.bind q1 (Ev.bind c2 ?_)
        cases wiB (PxM.at2 ay yb (qv L[i])) ly hy k with
        | true => simp only [Bool.true_or, if_true]; exact Ev.now _
        | false => simp only [Bool.false_or, Bool.false_eq_true, if_false]; exact nx
/-- The middles between one place and those ahead of it. -/
theorem l1_ev {B : List S58} (hB : ∀ x ∈ B, Ok0 x) (hn : B.length ≤ 100) {i : Nat} (hi : i < B.length) :
    ∀ (d j : Nat) (M : List S58), i - j = d → j ≤ i → (∀ x ∈ M, Ok x) → M.length + (i - j) ≤ 10000 →
    ∃ M' : List S58, (∀ x ∈ M', Ok x) ∧ (∀ x ∈ M, x ∈ M') ∧ M'.length = M.length + (i - j) ∧ (∀ j' (hj : j' < i), j ≤ j' → ∃ x ∈ M', qv x * 2 = qv B[i] + qv (B[j']'(Nat.lt_trans hj hi))) ∧
      ∀ r, Ev (fun n => cobwebref06_Meets.l0 n k (B ++ M') (B.length : Int) ((i + 1 : Nat) : Int) ax ay bx yb lx ly hx hy) r → Ev (fun n => cobwebref06_Meets.l1 n k (B ++ M) (B.length : Int) (i : Int) (j : Int) ax ay bx yb lx ly hx hy) r := by
  have hi1 : wrap64 ((i : Int) + 1) = ((i + 1 : Nat) : Int) := w64j i (by omega)
  intro d
  induction d with
  | zero =>
    intro j M hd hj hM hl
    refine ⟨M, hM, fun x hx => hx, by omega, fun j' h1 h2 => by omega, fun r hr => Ev.step (fun n => ?_) hr⟩
    rw [cobwebref06_Meets.l1, if_neg (by omega), hi1]
  | succ d ih =>
    intro j M hd hj hM hl
    have hji : j < i := by omega
    have hjB : j < B.length := by omega
    have hj1 : wrap64 ((j : Int) + 1) = ((j + 1 : Nat) : Int) := w64j j (by omega)
    have li : i < (B ++ M).length := by rw [List.length_append]; omega
    have lj : j < (B ++ M).length := by rw [List.length_append]; omega
    have ei : (B ++ M)[i] = B[i] := List.getElem_append_left hi
    have ej : (B ++ M)[j] = B[j] := List.getElem_append_left hjB
    obtain ⟨s, e, s1, e1, o1, o2⟩ := mid_ev (hB _ (List.getElem_mem hi)) (hB _ (List.getElem_mem hjB))
    obtain ⟨M', m1, m2, m3, m4, m5⟩ := ih (j + 1) (M ++ [⟨⟨s.1, s.2.1⟩, ⟨e.1, e.2⟩⟩]) (by omega) (by omega) (fun x hx => by
      rcases List.mem_append.1 hx with hx | hx
      · exact hM x hx
      · rw [List.mem_singleton.1 hx]; exact o1) (by simp; omega)
    refine ⟨M', m1, fun x hx => m2 x (List.mem_append_left _ hx), by rw [m3]; simp; omega, fun j' h1 h2 => ?_, fun r hr => ?_⟩
    · by_cases hjj : j' = j
      · subst hjj
        exact ⟨_, m2 _ (List.mem_append_right _ (List.mem_singleton.2 rfl)), o2⟩
      · exact m4 j' h1 (by omega)
    · refine Ev.step (f := fun n => (cobwebref06_sum.f n B[i].f0.f0 B[i].f0.f1 B[i].f1.f0 B[i].f1.f1 B[j].f0.f0 B[j].f0.f1 B[j].f1.f0 B[j].f1.f1).bind fun bt154 => ((cobwebref01_Add.f n bt154.2.2.1 bt154.2.2.2 bt154.2.2.1 bt154.2.2.2).bind fun bt163 => cobwebref06_Meets.l1 n k (B ++ (M ++ [⟨⟨bt154.1, bt154.2.1⟩, ⟨bt163.1, bt163.2⟩⟩])) (B.length : Int) (i : Int) ((j + 1 : Nat) : Int) ax ay bx yb lx ly hx hy)) (fun n => ?_) (Ev.bind s1 (Ev.bind e1 (m5 r hr)))
      have hlen : (B ++ M).length < 2199023255552 := by rw [List.length_append]; omega
      rw [cobwebref06_Meets.l1, if_pos (by omega), if_pos (by omega), if_pos (by omega), if_pos (by omega), if_pos (by omega), rd58 li, rd58 lj, ei, ej, hj1]
      simp only [if_pos hlen, List.append_assoc]
theorem l0_ev {B : List S58} (hB : ∀ x ∈ B, Ok0 x) (hn : B.length ≤ 50) :
    ∀ (d i : Nat) (M : List S58), B.length - i = d → i ≤ B.length → (∀ x ∈ M, Ok x) → M.length ≤ 100 * i →
    ∃ M' : List S58, (∀ x ∈ M', Ok x) ∧ (∀ x ∈ M, x ∈ M') ∧ M'.length ≤ 100 * B.length ∧ (∀ i' j' (hi : i' < B.length) (hj : j' < i'), i ≤ i' → ∃ x ∈ M', qv x * 2 = qv B[i'] + qv (B[j']'(Nat.lt_trans hj hi))) ∧
      ∀ r, Ev (fun n => cobwebref06_Meets.l2 n k (B ++ M') ((0 : Nat) : Int) ax ay bx yb lx ly hx hy) r → Ev (fun n => cobwebref06_Meets.l0 n k (B ++ M) (B.length : Int) (i : Int) ax ay bx yb lx ly hx hy) r := by
  intro d
  induction d with
  | zero =>
    intro i M hd hi hM hl
    refine ⟨M, hM, fun x hx => hx, by omega, fun i' j' h1 h2 h3 => by omega, fun r hr => Ev.step (fun n => ?_) hr⟩
    rw [cobwebref06_Meets.l0, if_neg (by omega)]
    rfl
  | succ d ih =>
    intro i M hd hi hM hl
    have hlt : i < B.length := by omega
    obtain ⟨M1, m1, m2, m3, m4, m5⟩ := l1_ev (k := k) (ax := ax) (ay := ay) (bx := bx) (yb := yb) (lx := lx) (ly := ly) (hx := hx) (hy := hy) hB (by omega) hlt _ 0 M rfl (by omega) hM (by omega)
    obtain ⟨M', p1, p2, p3, p4, p5⟩ := ih (i + 1) M1 (by omega) (by omega) m1 (by omega)
    refine ⟨M', p1, fun x hx => p2 x (m2 x hx), p3, fun i' j' h1 h2 h3 => ?_, fun r hr => Ev.step (f := fun n => cobwebref06_Meets.l1 n k (B ++ M) (B.length : Int) (i : Int) ((0 : Nat) : Int) ax ay bx yb lx ly hx hy) (fun n => ?_) (m5 r (p5 r hr))⟩
    · by_cases e : i' = i
      · subst e
        obtain ⟨x, x1, x2⟩ := m4 j' h2 (by omega)
        exact ⟨x, p2 x x1, x2⟩
      · exact p4 i' j' h1 h2 (by omega)
    · rw [cobwebref06_Meets.l0, if_pos (by omega)]
      rfl

theorem ok0_two {c e : Bool × List Int} {a : Int} (h1 : Num c a 5) (h2 : Num e 1 5) (h : a = 0 ∨ a = 1) : Ok0 ⟨⟨c.1, c.2⟩, ⟨e.1, e.2⟩⟩ ∧ qv ⟨⟨c.1, c.2⟩, ⟨e.1, e.2⟩⟩ = (a : Rat) := by
  obtain ⟨k1, k2⟩ := ok0_mk h1 h2 (by decide) (by omega) (by omega)
  refine ⟨k1, ?_⟩
  rw [← k2]
  grind
theorem base_mk {z o : S58} {L1 L2 L3 L4 : List S58} (hz : Ok0 z) (ez : qv z = 0) (ho : Ok0 o) (eo : qv o = 1) (h1 : Ways ax bx lx L1) (h2 : Ways ax bx hx L2) (h3 : Ways ay yb ly L3) (h4 : Ways ay yb hy L4) :
    Base ax ay bx yb lx ly hx hy ([z, o] ++ L1 ++ L2 ++ L3 ++ L4) := by
  have m1 : ∀ x ∈ L1, x ∈ [z, o] ++ L1 ++ L2 ++ L3 ++ L4 := fun x h => by simp [h]
  have m2 : ∀ x ∈ L2, x ∈ [z, o] ++ L1 ++ L2 ++ L3 ++ L4 := fun x h => by simp [h]
  have m3 : ∀ x ∈ L3, x ∈ [z, o] ++ L1 ++ L2 ++ L3 ++ L4 := fun x h => by simp [h]
  have m4 : ∀ x ∈ L4, x ∈ [z, o] ++ L1 ++ L2 ++ L3 ++ L4 := fun x h => by simp [h]
  refine ⟨fun x hx => ?_, ⟨z, by simp, ez⟩, ⟨o, by simp, eo⟩, ?_, ?_, ?_, ?_⟩
  · simp only [List.mem_append, List.mem_cons, List.not_mem_nil, or_false] at hx
    rcases hx with ((((rfl | rfl) | h) | h) | h) | h
    · exact hz
    · exact ho
    · exact h1.ok x h
    · exact h2.ok x h
    · exact h3.ok x h
    · exact h4.ok x h
  · intro hn s s0 s1 e
    obtain ⟨x, x1, x2⟩ := h1.all hn s s0 s1 e
    exact ⟨x, m1 x x1, x2⟩
  · intro hn s s0 s1 e
    obtain ⟨x, x1, x2⟩ := h2.all hn s s0 s1 e
    exact ⟨x, m2 x x1, x2⟩
  · intro hn s s0 s1 e
    obtain ⟨x, x1, x2⟩ := h3.all hn s s0 s1 e
    exact ⟨x, m3 x x1, x2⟩
  · intro hn s s0 s1 e
    obtain ⟨x, x1, x2⟩ := h4.all hn s s0 s1 e
    exact ⟨x, m4 x x1, x2⟩
theorem j0_ev (ga : rightB 134217728 ax ay = true) (gb : rightB 134217728 bx yb = true) (gl : rightB 536870912 lx ly = true) (gh : rightB 536870912 hx hy = true) :
    ∃ b : Bool, Ev (fun n => cobwebref06_Meets.j0 n k false ax ay bx yb lx ly hx hy) b ∧ (b = true ↔ PxM.Place ax ay bx yb lx ly hx hy k) := by
  have a1 := far_of ga
  have b1 := far_of gb
  have c1 := far_of gl
  have d1 := far_of gh
  obtain ⟨z, z1, z2⟩ := num_ev (v := 0) (by decide) (by decide)
  obtain ⟨o, o1, o2⟩ := num_ev (v := 1) (by decide) (by decide)
  obtain ⟨hz, ez⟩ := ok0_two z2 o2 (.inl rfl)
  obtain ⟨ho, eo⟩ := ok0_two o2 o2 (.inr rfl)
  obtain ⟨L1, w1, v1⟩ := ways_ev (l := lx) a1.1 b1.1 c1.1
  obtain ⟨L2, w2, v2⟩ := ways_ev (l := hx) a1.1 b1.1 d1.1
  obtain ⟨L3, w3, v3⟩ := ways_ev (l := ly) a1.2 b1.2 c1.2
  obtain ⟨L4, w4, v4⟩ := ways_ev (l := hy) a1.2 b1.2 d1.2
  have hB := base_mk hz ez ho eo v1 v2 v3 v4
  have n1 := v1.len
  have n2 := v2.len
  have n3 := v3.len
  have n4 := v4.len
  clear a1 b1 c1 d1
  have q1 : [(⟨⟨z.1, z.2⟩, ⟨o.1, o.2⟩⟩ : S58), ⟨⟨o.1, o.2⟩, ⟨o.1, o.2⟩⟩].length + L1.length < 2199023255552 := by simp; omega
  have q2 : ([(⟨⟨z.1, z.2⟩, ⟨o.1, o.2⟩⟩ : S58), ⟨⟨o.1, o.2⟩, ⟨o.1, o.2⟩⟩] ++ L1).length + L2.length < 2199023255552 := by simp; omega
  have q3 : ([(⟨⟨z.1, z.2⟩, ⟨o.1, o.2⟩⟩ : S58), ⟨⟨o.1, o.2⟩, ⟨o.1, o.2⟩⟩] ++ L1 ++ L2).length + L3.length < 2199023255552 := by simp; omega
  have q4 : ([(⟨⟨z.1, z.2⟩, ⟨o.1, o.2⟩⟩ : S58), ⟨⟨o.1, o.2⟩, ⟨o.1, o.2⟩⟩] ++ L1 ++ L2 ++ L3).length + L4.length < 2199023255552 := by simp; omega
  have q5 : ([(⟨⟨z.1, z.2⟩, ⟨o.1, o.2⟩⟩ : S58), ⟨⟨o.1, o.2⟩, ⟨o.1, o.2⟩⟩] ++ L1 ++ L2 ++ L3 ++ L4).length ≤ 6 := by simp; omega
  generalize hBe : [(⟨⟨z.1, z.2⟩, ⟨o.1, o.2⟩⟩ : S58), ⟨⟨o.1, o.2⟩, ⟨o.1, o.2⟩⟩] ++ L1 ++ L2 ++ L3 ++ L4 = B at hB q5
  obtain ⟨M, m1, m2, m3, m4, m5⟩ := l0_ev (k := k) (ax := ax) (ay := ay) (bx := bx) (yb := yb) (lx := lx) (ly := ly) (hx := hx) (hy := hy) hB.ok (Nat.le_trans q5 (by decide)) _ 0 [] rfl (Nat.zero_le _) (fun x h => by simp at h) (Nat.zero_le _)
  have hL : ∀ x ∈ B ++ M, Ok x := fun x h => by
    rcases List.mem_append.1 h with h | h
    · exact (hB.ok x h).ok
    · exact m1 x h
  have e2 := l2_ev (k := k) ga gb gl gh (B ++ M) hL (by rw [List.length_append]; omega) _ 0 rfl (Nat.zero_le _)
  have e0 := m5 _ e2
  rw [List.append_nil] at e0
  refine ⟨((B ++ M).drop 0).any (doB ax ay bx yb lx ly hx hy k), Ev.step (f := fun n => (cobwebref06_num.f n 0).bind fun bt109 => ((cobwebref06_num.f n 1).bind fun bt113 => ((cobwebref06_num.f n 1).bind fun bt117 => ((cobwebref06_num.f n 1).bind fun bt121 => ((Option.some (([(⟨(⟨bt109.1, bt109.2⟩ : S55), (⟨bt113.1, bt113.2⟩ : S55)⟩ : S58), (⟨(⟨bt117.1, bt117.2⟩ : S55), (⟨bt121.1, bt121.2⟩ : S55)⟩ : S58)] : List (S58)) : List (S58))).bind fun y125 => ((cobwebref06_ways.f n ax bx lx).bind fun t128 => (if y125.length + t128.length < 2199023255552 then ((Option.some (y125 ++ t128 : List (S58))).bind fun y131 => ((cobwebref06_ways.f n ax bx hx).bind fun t134 => (if y131.length + t134.length < 2199023255552 then ((Option.some (y131 ++ t134 : List (S58))).bind fun y137 => ((cobwebref06_ways.f n ay yb ly).bind fun t140 => (if y137.length + t140.length < 2199023255552 then ((Option.some (y137 ++ t140 : List (S58))).bind fun y143 => ((cobwebref06_ways.f n ay yb hy).bind fun t146 => (if y143.length + t146.length < 2199023255552 then ((Option.some (y143 ++ t146 : List (S58))).bind fun y149 => (cobwebref06_Meets.l0 n k y149 (y149.length : Int) 0 ax ay bx yb lx ly hx hy)) else (none)))) else (none)))) else (none)))) else (none)))))))) (fun n => ?_)
    (Ev.bind z1 (Ev.bind o1 (Ev.bind o1 (Ev.bind o1 (Ev.bind (Ev.now _) (Ev.bind w1 ?_)))))), ?_⟩
  · rw [cobwebref06_Meets.j0, if_neg (by decide)]
  · simp only [if_pos q1]
    refine Ev.bind (Ev.now _) (Ev.bind w2 ?_)
    simp only [if_pos q2]
    refine Ev.bind (Ev.now _) (Ev.bind w3 ?_)
    simp only [if_pos q3]
    refine Ev.bind (Ev.now _) (Ev.bind w4 ?_)
    simp only [if_pos q4]
    refine Ev.bind (Ev.now _) ?_
    rw [hBe]
    exact e0
  · rw [← place_iff (k := k) hB hL (fun x h => List.mem_append_left _ h) (fun i j h1 h2 => by
      obtain ⟨x, x1, x2⟩ := m4 i j h1 h2 (Nat.zero_le _)
      exact ⟨x, List.mem_append_right _ x1, x2⟩), List.drop_zero, List.any_eq_true]
    simp only [doB_iff]
theorem r05 (x y : Int) : cobwebref05_Right.f x y = Option.some (rightB 134217728 x y) := by
  unfold cobwebref05_Right.f rightB
  repeat' split
  all_goals first | (congr 1; exact decide_eq_decide.2 ⟨fun _ => by omega, fun _ => by omega⟩) | (congr 1; exact (decide_eq_false (by omega)).symm)
theorem r06 (x y : Int) : cobwebref06_right.f x y = Option.some (rightB 536870912 x y) := by
  unfold cobwebref06_right.f rightB
  repeat' split
  all_goals first | (congr 1; exact decide_eq_decide.2 ⟨fun _ => by omega, fun _ => by omega⟩) | (congr 1; exact (decide_eq_false (by omega)).symm)
theorem j0_true : Ev (fun n => cobwebref06_Meets.j0 n k true ax ay bx yb lx ly hx hy) false :=
  Ev.step (f := fun _ => Option.some false) (fun n => by rw [cobwebref06_Meets.j0, if_pos rfl]) (Ev.now _)
/-- The document's Meets is pixel.Meets. -/
theorem Meets_ev : Ev (fun n => cobwebref06_Meets.f n ax ay bx yb lx ly hx hy k) (meetsB ax ay bx yb lx ly hx hy k) := by
  unfold cobwebref06_Meets.f
  simp only [r05, r06, Option.bind_some]
  have no : ¬ PxM.Fit ax ay bx yb lx ly hx hy k → meetsB ax ay bx yb lx ly hx hy k = false := fun h => by
    rw [Bool.eq_false_iff]
    intro h2
    exact h (PxM.meetsB_iff.1 h2).1
  by_cases ga : rightB 134217728 ax ay = true
  · by_cases gb : rightB 134217728 bx yb = true
    · by_cases gl : rightB 536870912 lx ly = true
      · by_cases gh : rightB 536870912 hx hy = true
        · simp only [ga, gb, gl, gh, if_true]
          by_cases k0 : k < 0
          · simp only [if_pos k0]
            rw [no (fun h => by have := h.2.2.2.2.1; omega)]
            exact j0_true
          · simp only [if_neg k0]
            by_cases k2 : k > 2
            · rw [decide_eq_true k2, no (fun h => by have := h.2.2.2.2.2; omega)]
              exact j0_true
            · rw [decide_eq_false k2]
              obtain ⟨b, b1, b2⟩ := j0_ev (k := k) ga gb gl gh
              have e : meetsB ax ay bx yb lx ly hx hy k = b := by
                rw [Bool.eq_iff_iff, PxM.meetsB_iff, b2]
                exact ⟨fun h => h.2, fun h => ⟨⟨ga, gb, gl, gh, by omega, by omega⟩, h⟩⟩
              rw [e]
              exact b1
        · rw [no (fun h => gh h.2.2.2.1)]
          simp only [ga, gb, gl, gh, if_true, Bool.false_eq_true, if_false]
          exact j0_true
      · rw [no (fun h => gl h.2.2.1)]
        simp only [ga, gb, gl, if_true, Bool.false_eq_true, if_false]
        exact j0_true
    · rw [no (fun h => gb h.2.1)]
      simp only [ga, gb, if_true, Bool.false_eq_true, if_false]
      exact j0_true
  · rw [no (fun h => ga h.1)]
    simp only [ga, Bool.false_eq_true, if_false]
    exact j0_true
end
end Go.Proofs.Ytglkjeeiiflpjaa.BN
