/- The plain law of near.Index: a put, a get and what stands between, against the document's row. Conditions: the row rises. -/
import Derived.Test.YtcfgpfappidkaaaN5
import Derived.Test.YtcfgpfappidkaaaF9
import Derived.Test.YtcfgpfappidkaaaF10
import Derived.Test.YtcfgpfappidkaaaF13
import Derived.Test.YtcfgpfappidkaaaF18
namespace Go.Proofs.Ytcfgpfappidkaaa.F
open Go.RowKit Go.Proofs.YtcfgpfappidkaaaW.PrintWords Go.Proofs.YtcfgpfappidkaaaW.PrintLast Go.Proofs.YtcfgpfappidkaaaW.PrintMore
set_option linter.unusedVariables false
set_option linter.unusedSimpArgs false
theorem lessQ_asymm {ax ay bx yb : Int} (h : lessQ ax ay bx yb = true) : lessQ bx yb ax ay = false := by
  unfold lessQ at *
  simp only [Bool.or_eq_true, Bool.and_eq_true, decide_eq_true_eq, Bool.or_eq_false_iff, Bool.and_eq_false_imp, decide_eq_false_iff_not] at *
  omega
theorem lessQ_tri {ax ay bx yb : Int} (h : lessQ ax ay bx yb = false) : (ax = bx ∧ ay = yb) ∨ lessQ bx yb ax ay = true := by
  unfold lessQ at *
  simp only [Bool.or_eq_true, Bool.and_eq_true, decide_eq_true_eq, Bool.or_eq_false_iff, Bool.and_eq_false_imp, decide_eq_false_iff_not] at *
  omega
theorem lessQ_irr (ax ay : Int) : lessQ ax ay ax ay = false := by
  unfold lessQ
  simp
def putN (l : List S52) (qx qy v : Int) : List S52 := l.filter (fun e => lessQ e.f0.f0 e.f0.f1 qx qy) ++ [⟨⟨qx, qy⟩, v⟩] ++ l.filter (fun e => lessQ qx qy e.f0.f0 e.f0.f1)
theorem rank_cons (a : S52) (t : List S52) (qx qy : Int) (h : lessQ a.f0.f0 a.f0.f1 qx qy = true) : rank (a :: t) qx qy = rank t qx qy + 1 := by
  unfold rank
  rw [List.countP_cons_of_pos (by exact h)]
theorem rising_tail {a : S52} {t : List S52} (h : Rising (a :: t)) : Rising t := (List.pairwise_cons.1 h).2
theorem rising_head {a : S52} {t : List S52} (h : Rising (a :: t)) : ∀ e ∈ t, lessQ a.f0.f0 a.f0.f1 e.f0.f0 e.f0.f1 = true := (List.pairwise_cons.1 h).1
theorem rank_zero {a : S52} {t : List S52} (hs : Rising (a :: t)) (qx qy : Int) (h : lessQ a.f0.f0 a.f0.f1 qx qy = false) : rank (a :: t) qx qy = 0 := by
  unfold rank
  rw [List.countP_eq_zero]
  intro e he hq
  rcases List.mem_cons.1 he with rfl | he
  · rw [h] at hq; cases hq
  · have := lessQ_trans (rising_head hs e he) hq
    rw [h] at this; cases this
theorem rd_cons (a : S52) (t : List S52) (n : Nat) : rd_T52 (a :: t) ((n + 1 : Nat) : Int) = rd_T52 t (n : Nat) := by
  unfold rd_T52
  rw [Int.toNat_natCast, Int.toNat_natCast, List.getD_cons_succ]
theorem rd_zero (a : S52) (t : List S52) : rd_T52 (a :: t) ((0 : Nat) : Int) = a := rfl
theorem has_cons (a : S52) (t : List S52) (qx qy : Int) (h : lessQ a.f0.f0 a.f0.f1 qx qy = true) : has (a :: t) qx qy = has t qx qy := by
  unfold has
  rw [rank_cons a t qx qy h, rd_cons]
  simp
theorem has_zero {a : S52} {t : List S52} (hs : Rising (a :: t)) (qx qy : Int) (h : lessQ a.f0.f0 a.f0.f1 qx qy = false) : has (a :: t) qx qy = decide (a.f0.f0 = qx ∧ a.f0.f1 = qy) := by
  unfold has
  rw [rank_zero hs qx qy h, rd_zero]
  have : (cmpQ a.f0.f0 a.f0.f1 qx qy = 0) = (a.f0.f0 = qx ∧ a.f0.f1 = qy) := propext cmpQ_zero
  simp [this]
theorem putL_eq (qx qy v : Int) : ∀ l : List S52, Rising l → putL l qx qy v = putN l qx qy v
  | [], _ => rfl
  | a :: t, hs => by
    have ih := putL_eq qx qy v t (rising_tail hs)
    cases h : lessQ a.f0.f0 a.f0.f1 qx qy with
    | true =>
      have e1 : putN (a :: t) qx qy v = a :: putN t qx qy v := by
        unfold putN
        rw [List.filter_cons_of_pos (by exact h), List.filter_cons_of_neg (by rw [lessQ_asymm h]; decide)]
        rfl
      rw [e1, ← ih]
      unfold putL
      rw [has_cons a t qx qy h, rank_cons a t qx qy h, rd_cons]
      split
      · rfl
      · simp [ins]
    | false =>
      have hall : t.filter (fun e => lessQ e.f0.f0 e.f0.f1 qx qy) = [] := by
        rw [List.filter_eq_nil_iff]
        intro e he hq
        have := lessQ_trans (rising_head hs e he) hq
        rw [h] at this; cases this
      unfold putL putN
      rw [has_zero hs qx qy h, rank_zero hs qx qy h, List.filter_cons_of_neg (by rw [h]; decide), hall, rd_zero]
      rcases lessQ_tri h with ⟨e1, e2⟩ | hq
      · rw [if_pos (by simp [e1, e2]), List.filter_cons_of_neg (by rw [e1, e2, lessQ_irr]; decide), List.filter_eq_self.2 (fun e he => by have := rising_head hs e he; rwa [e1, e2] at this)]
        simp [← e1, ← e2]
      · rw [if_neg (by intro hc; simp at hc; rw [hc.1, hc.2, lessQ_irr] at hq; cases hq), List.filter_cons_of_pos (by exact hq), List.filter_eq_self.2 (fun e he => lessQ_trans hq (rising_head hs e he))]
        simp [ins]
theorem rising_putN {l : List S52} (hs : Rising l) (qx qy v : Int) : Rising (putN l qx qy v) := by
  unfold putN Rising
  rw [List.append_assoc, List.pairwise_append]
  refine ⟨List.Pairwise.filter _ hs, ?_, ?_⟩
  · rw [List.singleton_append, List.pairwise_cons]
    exact ⟨fun e he => (List.mem_filter.1 he).2, List.Pairwise.filter _ hs⟩
  · intro a ha b hb
    have h1 := (List.mem_filter.1 ha).2
    rcases List.mem_append.1 hb with hb | hb
    · rw [List.mem_singleton.1 hb]; exact h1
    · exact lessQ_trans h1 (List.mem_filter.1 hb).2
theorem putL_len (l : List S52) (qx qy v : Int) : (putL l qx qy v).length ≤ l.length + 1 := by
  unfold putL
  split
  · rw [List.length_set]; omega
  · rw [ins_len _ _ _ (rank_le _ _ _)]; omega
/-- The entries of the document's row, as the index has them. -/
def toN (e : S31) : S52 := ⟨⟨e.f0.f0, e.f0.f1⟩, e.f1⟩
def rows (l : List S31) : List S52 := l.map toN
def putR (l : List S31) (qx qy v : Int) : List S31 := l.filter (fun e => lessQ e.f0.f0 e.f0.f1 qx qy) ++ [⟨⟨qx, qy⟩, v⟩] ++ l.filter (fun e => lessQ qx qy e.f0.f0 e.f0.f1)
theorem rows_putR (l : List S31) (qx qy v : Int) : rows (putR l qx qy v) = putN (rows l) qx qy v := by
  unfold rows putR putN
  rw [List.map_append, List.map_append, List.filter_map, List.filter_map]
  rfl
theorem less_eq (a b c d : Int) : cobwebref08_less.f a b c d = some (lessQ a b c d) := by
  unfold cobwebref08_less.f lessQ
  by_cases h1 : a < c
  · rw [if_pos h1]; simp [h1]
  · by_cases h2 : a = c
    · rw [if_neg h1, if_pos h2]; simp [h1, h2]
    · rw [if_neg h1, if_neg h2]; simp [h1, h2]
theorem rd31 (l : List S31) (i : Nat) (h : i < l.length) : rd_T31 l (i : Int) = l[i] := by
  unfold rd_T31
  rw [Int.toNat_natCast, List.getD_eq_getElem?_getD, List.getElem?_eq_getElem h]
  rfl
theorem put_l1 (l : List S31) (qx qy : Int) : ∀ (j i : Nat) (out : List S31), i + j = l.length → l.length < 1099511627776 → out.length ≤ l.length + i + 1 → ∀ k, j + 1 ≤ k →
    cobwebref08_Put.l1 k l out (i : Int) qx qy = some (out ++ (l.drop i).filter (fun e => lessQ qx qy e.f0.f0 e.f0.f1)) := by
  intro j
  induction j with
  | zero =>
    intro i out hi hl ho k hk
    obtain ⟨k, rfl⟩ : ∃ n, k = n + 1 := ⟨k - 1, by omega⟩
    rw [cobwebref08_Put.l1, if_neg (by omega), List.drop_of_length_le (by omega)]
    simp
  | succ j ih =>
    intro i out hi hl ho k hk
    obtain ⟨k, rfl⟩ : ∃ n, k = n + 1 := ⟨k - 1, by omega⟩
    have hil : i < l.length := by omega
    rw [cobwebref08_Put.l1, if_pos (by omega), if_pos (by omega), less_eq, rd31 l i hil, w64_succ i (by omega), List.drop_eq_getElem_cons hil]
    simp only [Option.bind_some]
    cases hq : lessQ qx qy l[i].f0.f0 l[i].f0.f1 with
    | true =>
      rw [if_pos rfl, if_pos (by omega), List.filter_cons_of_pos (by exact hq)]
      have := ih (i + 1) (out ++ [l[i]]) (by omega) hl (by simp; omega) k (by omega)
      rw [Int.natCast_succ] at this
      rw [this]
      simp
    | false =>
      rw [if_neg (by decide), List.filter_cons_of_neg (by rw [hq]; decide)]
      have := ih (i + 1) out (by omega) hl (by omega) k (by omega)
      rw [Int.natCast_succ] at this
      exact this
theorem put_l0 (l : List S31) (qx qy v : Int) : ∀ (j i : Nat) (out : List S31), i + j = l.length → l.length < 1099511627776 → out.length ≤ i → ∀ k, j + l.length + 2 ≤ k →
    cobwebref08_Put.l0 k l v out (i : Int) qx qy = some (out ++ (l.drop i).filter (fun e => lessQ e.f0.f0 e.f0.f1 qx qy) ++ [⟨⟨qx, qy⟩, v⟩] ++ l.filter (fun e => lessQ qx qy e.f0.f0 e.f0.f1)) := by
  intro j
  induction j with
  | zero =>
    intro i out hi hl ho k hk
    obtain ⟨k, rfl⟩ : ∃ n, k = n + 1 := ⟨k - 1, by omega⟩
    rw [cobwebref08_Put.l0, if_neg (by omega), if_pos (by omega), List.drop_of_length_le (by omega)]
    have := put_l1 l qx qy l.length 0 (out ++ [⟨⟨qx, qy⟩, v⟩]) (by omega) hl (by simp; omega) k (by omega)
    rw [show ((0 : Nat) : Int) = 0 from rfl] at this
    rw [this]
    simp
  | succ j ih =>
    intro i out hi hl ho k hk
    obtain ⟨k, rfl⟩ : ∃ n, k = n + 1 := ⟨k - 1, by omega⟩
    have hil : i < l.length := by omega
    rw [cobwebref08_Put.l0, if_pos (by omega), if_pos (by omega), less_eq, rd31 l i hil, w64_succ i (by omega), List.drop_eq_getElem_cons hil]
    simp only [Option.bind_some]
    cases hq : lessQ l[i].f0.f0 l[i].f0.f1 qx qy with
    | true =>
      rw [if_pos rfl, if_pos (by omega), List.filter_cons_of_pos (by exact hq)]
      have := ih (i + 1) (out ++ [l[i]]) (by omega) hl (by simp; omega) k (by omega)
      rw [Int.natCast_succ] at this
      rw [this]
      simp
    | false =>
      rw [if_neg (by decide), List.filter_cons_of_neg (by rw [hq]; decide)]
      have := ih (i + 1) out (by omega) hl (by omega) k (by omega)
      rw [Int.natCast_succ] at this
      exact this
theorem Put_eq (l : List S31) (qx qy v : Int) (hl : l.length < 1099511627776) : cobwebref08_Put.f (l.length + l.length + 2) l qx qy v = some (putR l qx qy v) := by
  unfold cobwebref08_Put.f putR
  have := put_l0 l qx qy v l.length 0 [] (by omega) hl (by simp) (l.length + l.length + 2) (by omega)
  simpa using this
/-- Where the document finds a pixel. -/
def getR (l : List S31) (qx qy : Int) : Int := if has (rows l) qx qy = true then (rank (rows l) qx qy : Int) else -1
def eqQ (qx qy : Int) (e : S31) : Bool := (e.f0.f0 == qx && (e.f0.f1 == qy))
theorem get_l0 (l : List S31) (qx qy : Int) : ∀ (j i : Nat), i + j = l.length → l.length < 1099511627776 → ∀ k, j + 1 ≤ k →
    cobwebref08_Get.l0 k l (i : Int) qx qy = some (match (l.drop i).findIdx? (eqQ qx qy) with | some d => ((i + d : Nat) : Int) | none => -1) := by
  intro j
  induction j with
  | zero =>
    intro i hi hl k hk
    obtain ⟨k, rfl⟩ : ∃ n, k = n + 1 := ⟨k - 1, by omega⟩
    rw [cobwebref08_Get.l0, if_neg (by omega), List.drop_of_length_le (by omega)]
    rfl
  | succ j ih =>
    intro i hi hl k hk
    obtain ⟨k, rfl⟩ : ∃ n, k = n + 1 := ⟨k - 1, by omega⟩
    have hil : i < l.length := by omega
    rw [cobwebref08_Get.l0, if_pos (by omega), if_pos (by omega), rd31 l i hil, w64_succ i (by omega), List.drop_eq_getElem_cons hil, List.findIdx?_cons]
    cases hq : eqQ qx qy l[i] with
    | true =>
      unfold eqQ at hq
      rw [if_pos hq]
      simp
    | false =>
      unfold eqQ at hq
      rw [if_neg (by rw [hq]; decide)]
      have := ih (i + 1) (by omega) hl k (by omega)
      rw [Int.natCast_succ] at this
      rw [this, if_neg (by decide)]
      cases List.findIdx? (eqQ qx qy) (List.drop (i + 1) l) with
      | none => rfl
      | some d =>
        show some (((i + 1 + d : Nat) : Int)) = some (((i + (d + 1) : Nat) : Int))
        rw [show i + 1 + d = i + (d + 1) by omega]
theorem find_eq (qx qy : Int) : ∀ l : List S31, Rising (rows l) → l.findIdx? (eqQ qx qy) = if has (rows l) qx qy = true then some (rank (rows l) qx qy) else none
  | [], _ => rfl
  | a :: t, hs => by
    have ih := find_eq qx qy t (rising_tail hs)
    have hr : rows (a :: t) = toN a :: rows t := rfl
    rw [hr] at hs ⊢
    rw [List.findIdx?_cons]
    cases h : lessQ (toN a).f0.f0 (toN a).f0.f1 qx qy with
    | true =>
      have hne : eqQ qx qy a = false := by
        unfold eqQ
        cases h1 : a.f0.f0 == qx with
        | false => rfl
        | true =>
          cases h2 : a.f0.f1 == qy with
          | false => rfl
          | true =>
            rw [beq_iff_eq] at h1 h2
            change lessQ a.f0.f0 a.f0.f1 qx qy = true at h
            rw [h1, h2, lessQ_irr] at h
            cases h
      rw [hne, has_cons _ _ _ _ h, rank_cons _ _ _ _ h, ih, if_neg (by decide)]
      split <;> rfl
    | false =>
      rw [has_zero hs qx qy h, rank_zero hs qx qy h]
      cases hq : eqQ qx qy a with
      | true =>
        unfold eqQ at hq
        simp at hq
        simp [toN, hq]
      | false =>
        have hn : ¬ ((toN a).f0.f0 = qx ∧ (toN a).f0.f1 = qy) := by
          intro hc
          unfold eqQ at hq
          simp [toN] at hc
          rw [hc.1, hc.2] at hq
          simp at hq
        have hgt : lessQ qx qy (toN a).f0.f0 (toN a).f0.f1 = true := (lessQ_tri h).resolve_left hn
        have hnone : t.findIdx? (eqQ qx qy) = none := by
          rw [List.findIdx?_eq_none_iff]
          intro e he
          have h1 := lessQ_trans hgt (rising_head hs (toN e) (List.mem_map_of_mem he))
          cases h2 : eqQ qx qy e with
          | false => rfl
          | true =>
            unfold eqQ at h2
            simp at h2
            change lessQ qx qy e.f0.f0 e.f0.f1 = true at h1
            rw [h2.1, h2.2, lessQ_irr] at h1
            cases h1
        rw [hnone, decide_eq_false hn]
        rfl
theorem Get_eq (l : List S31) (qx qy : Int) (hs : Rising (rows l)) (hl : l.length < 1099511627776) : cobwebref08_Get.f (l.length + 1) l qx qy = some (getR l qx qy) := by
  unfold cobwebref08_Get.f getR
  have := get_l0 l qx qy l.length 0 (by omega) hl (l.length + 1) (by omega)
  rw [show ((0 : Nat) : Int) = 0 from rfl] at this
  rw [this, List.drop_zero, find_eq qx qy l hs]
  cases has (rows l) qx qy <;> simp
def box52 (lx ly hx hy : Int) (e : S52) : Bool := decide (e.f0.f0 ≥ lx) && (decide (e.f0.f0 ≤ hx) && inBox ly hy e)
theorem goIn_eq (lx ly hx hy : Int) : ∀ D : List S52, Rising D → (∀ e ∈ D, lx ≤ e.f0.f0) → goIn ly hx hy D = D.filter (box52 lx ly hx hy)
  | [], _, _ => rfl
  | a :: t, hs, hl => by
    have ih := goIn_eq lx ly hx hy t (rising_tail hs) (fun e he => hl e (List.mem_cons_of_mem _ he))
    have ha := hl a List.mem_cons_self
    by_cases hX : a.f0.f0 ≤ hx
    · have hb : box52 lx ly hx hy a = inBox ly hy a := by unfold box52; rw [decide_eq_true hX, decide_eq_true (show a.f0.f0 ≥ lx from ha)]; simp
      unfold goIn at ih ⊢
      rw [List.takeWhile_cons_of_pos (by simpa using hX), List.filter_cons, List.filter_cons, hb, ih]
    · unfold goIn
      rw [List.takeWhile_cons_of_neg (by simpa using hX), List.filter_nil]
      symm
      rw [List.filter_eq_nil_iff]
      intro e he hbx
      have hge : a.f0.f0 ≤ e.f0.f0 := by
        rcases List.mem_cons.1 he with rfl | he
        · exact Int.le_refl _
        · have := rising_head hs e he
          unfold lessQ at this
          simp at this
          omega
      unfold box52 at hbx
      simp at hbx
      omega
theorem inL_eq (lx ly hx hy : Int) : ∀ l : List S52, Rising l → (∀ e ∈ l, -9223372036854775808 ≤ e.f0.f1) → inL l lx ly hx hy = l.filter (box52 lx ly hx hy)
  | [], _, _ => rfl
  | a :: t, hs, hl => by
    have ih := inL_eq lx ly hx hy t (rising_tail hs) (fun e he => hl e (List.mem_cons_of_mem _ he))
    have ha := hl a List.mem_cons_self
    cases h : lessQ a.f0.f0 a.f0.f1 lx (-9223372036854775808) with
    | true =>
      unfold inL at ih ⊢
      rw [rank_cons a t _ _ h, List.drop_succ_cons, ih, List.filter_cons_of_neg]
      unfold lessQ at h
      unfold box52
      simp at h ⊢
      omega
    | false =>
      unfold inL
      rw [rank_zero hs _ _ h, List.drop_zero]
      refine goIn_eq lx ly hx hy _ hs (fun e he => ?_)
      have h1 : lx ≤ a.f0.f0 := by
        unfold lessQ at h
        simp at h
        omega
      rcases List.mem_cons.1 he with rfl | he
      · exact h1
      · have := rising_head hs e he
        unfold lessQ at this
        simp at this
        omega
def boxR (lx ly hx hy : Int) (e : S31) : Bool := box52 lx ly hx hy (toN e)
def inR (l : List S31) (lx ly hx hy : Int) : List S31 := l.filter (boxR lx ly hx hy)
theorem inL_rows (l : List S31) (lx ly hx hy : Int) (hs : Rising (rows l)) (hb : ∀ e ∈ l, -9223372036854775808 ≤ e.f0.f1) : inL (rows l) lx ly hx hy = rows (inR l lx ly hx hy) := by
  rw [inL_eq lx ly hx hy _ hs (fun e he => by obtain ⟨x, hx, rfl⟩ := List.mem_map.1 he; exact hb x hx)]
  unfold rows inR
  rw [List.filter_map]
  rfl
theorem in_l0 (l : List S31) (lx ly hx hy : Int) : ∀ (j i : Nat) (out : List S31), i + j = l.length → l.length < 1099511627776 → out.length ≤ i → ∀ k, j + 1 ≤ k →
    cobwebref08_In.l0 k l out (i : Int) lx ly hx hy = some (out ++ (l.drop i).filter (boxR lx ly hx hy)) := by
  intro j
  induction j with
  | zero =>
    intro i out hi hl ho k hk
    obtain ⟨k, rfl⟩ : ∃ n, k = n + 1 := ⟨k - 1, by omega⟩
    rw [cobwebref08_In.l0, if_neg (by omega), List.drop_of_length_le (by omega)]
    simp
  | succ j ih =>
    intro i out hi hl ho k hk
    obtain ⟨k, rfl⟩ : ∃ n, k = n + 1 := ⟨k - 1, by omega⟩
    have hil : i < l.length := by omega
    rw [cobwebref08_In.l0, if_pos (by omega), if_pos (by omega), rd31 l i hil, w64_succ i (by omega), List.drop_eq_getElem_cons hil]
    have hb : boxR lx ly hx hy l[i] = (decide (l[i].f0.f0 ≥ lx) && (decide (l[i].f0.f0 ≤ hx) && (decide (l[i].f0.f1 ≥ ly) && decide (l[i].f0.f1 ≤ hy)))) := rfl
    have ih1 := ih (i + 1) (out ++ [l[i]]) (by omega) hl (by simp; omega) k (by omega)
    have ih2 := ih (i + 1) out (by omega) hl (by omega) k (by omega)
    rw [Int.natCast_succ] at ih1 ih2
    by_cases h1 : l[i].f0.f0 ≥ lx
    · by_cases h2 : l[i].f0.f0 ≤ hx
      · by_cases h3 : l[i].f0.f1 ≥ ly
        · by_cases h4 : l[i].f0.f1 ≤ hy
          · rw [if_pos h1, if_pos h2, if_pos h3, if_pos h4, if_pos (by omega), List.filter_cons_of_pos (by rw [hb, decide_eq_true h1, decide_eq_true h2, decide_eq_true h3, decide_eq_true h4]; rfl), ih1]
            simp
          · rw [if_pos h1, if_pos h2, if_pos h3, if_neg h4, List.filter_cons_of_neg (by rw [hb, decide_eq_false h4]; simp), ih2]
        · rw [if_pos h1, if_pos h2, if_neg h3, List.filter_cons_of_neg (by rw [hb, decide_eq_false h3]; simp), ih2]
      · rw [if_pos h1, if_neg h2, List.filter_cons_of_neg (by rw [hb, decide_eq_false h2]; simp), ih2]
    · rw [if_neg h1, List.filter_cons_of_neg (by rw [hb, decide_eq_false h1]; simp), ih2]
theorem In_eq (l : List S31) (lx ly hx hy : Int) (hl : l.length < 1099511627776) : cobwebref08_In.f (l.length + 1) l lx ly hx hy = some (inR l lx ly hx hy) := by
  unfold cobwebref08_In.f inR
  have := in_l0 l lx ly hx hy l.length 0 [] (by omega) hl (by simp) (l.length + 1) (by omega)
  simpa using this
theorem same_l0 (l : List S31) : ∀ (j i : Nat), i + j = l.length → l.length < 1099511627776 → ∀ k, j + 1 ≤ k → cobweblaw08_same.l0 k l (rows l) (l.length : Int) (i : Int) = some true := by
  intro j
  induction j with
  | zero =>
    intro i hi hl k hk
    obtain ⟨k, rfl⟩ : ∃ n, k = n + 1 := ⟨k - 1, by omega⟩
    rw [cobweblaw08_same.l0, if_neg (by omega)]
  | succ j ih =>
    intro i hi hl k hk
    obtain ⟨k, rfl⟩ : ∃ n, k = n + 1 := ⟨k - 1, by omega⟩
    have hil : i < l.length := by omega
    have hrl : (rows l).length = l.length := List.length_map _
    have e : rd_T52 (rows l) (i : Int) = toN l[i] := by rw [rd_get _ i (by omega)]; simp [rows]
    rw [cobweblaw08_same.l0, if_pos (by omega), if_pos (by omega), if_pos (by omega), if_pos (by omega), rd31 l i hil, e, w64_succ i (by omega), if_neg (by simp [toN]), if_pos (show (toN l[i]).f1 = l[i].f1 from rfl)]
    have := ih (i + 1) (by omega) hl k (by omega)
    rw [Int.natCast_succ] at this
    exact this
theorem same_eq (l : List S31) (hl : l.length < 1099511627776) : cobweblaw08_same.f (l.length + 1) (rows l) l = some true := by
  unfold cobweblaw08_same.f
  have hrl : (rows l).length = l.length := List.length_map _
  rw [hrl, if_pos rfl]
  exact same_l0 l l.length 0 (by omega) hl (l.length + 1) (by omega)
end Go.Proofs.Ytcfgpfappidkaaa.F
