/- The document's numbers of any size: Of, minus, Add, Neg, Cmp. -/
import Derived.Test.YtglkjeeiiflpjaaBNA
namespace Go.Proofs.Ytglkjeeiiflpjaa.BN
open Go.RowKit Go.Proofs.Ytglkjeeiiflpjaa.F Go.Proofs.YtglkjeeiiflpjaaW.PrintWords Go.Proofs.YtglkjeeiiflpjaaW.PrintLast Go.Proofs.YtglkjeeiiflpjaaW.PrintMore
theorem tdm (x : Int) : (Int.tmod x 10000 < 0 → -(Int.tmod x 10000) = ((x.natAbs % 10000 : Nat) : Int)) ∧ (¬ Int.tmod x 10000 < 0 → Int.tmod x 10000 = ((x.natAbs % 10000 : Nat) : Int)) ∧ (Int.tdiv x 10000).natAbs = x.natAbs / 10000 := by
  rcases Int.natAbs_eq x with h | h
  · generalize x.natAbs = m at *
    subst h
    rw [Int.tmod_eq_emod_of_nonneg (by omega), Int.tdiv_eq_ediv_of_nonneg (by omega)]
    omega
  · generalize x.natAbs = m at *
    subst h
    rw [Int.neg_tmod, Int.neg_tdiv, Int.tmod_eq_emod_of_nonneg (by omega), Int.tdiv_eq_ediv_of_nonneg (by omega)]
    omega
theorem pow_pos' (n : Nat) : (0 : Int) < 10000 ^ n := Int.pow_pos (by decide)
theorem nz {x : Int} (hz : ¬ x = 0) (h : x.natAbs / 10000 = 0) : ((x.natAbs % 10000 : Nat) : Int) ≠ 0 := by omega
theorem tdb {x : Int} (h0 : -9223372036854775808 ≤ x) (h1 : x ≤ 9223372036854775807) (h : (Int.tdiv x 10000).natAbs = x.natAbs / 10000) : -9223372036854775808 ≤ Int.tdiv x 10000 ∧ Int.tdiv x 10000 ≤ 9223372036854775807 := by omega
theorem mdb (m : Nat) : (0 : Int) ≤ ((m % 10000 : Nat) : Int) ∧ ((m % 10000 : Nat) : Int) ≤ 9999 ∧ wrap64 ((m % 10000 : Nat) : Int) = ((m % 10000 : Nat) : Int) := ⟨by omega, by omega, w64 (by omega) (by omega)⟩
/-- One digit less another. -/
theorem mi {x y c : Int} (hx : 0 ≤ x ∧ x ≤ 9999) (hy : 0 ≤ y ∧ y ≤ 9999) (hc : c = 0 ∨ c = 1) :
    wrap64 (x - y) = x - y ∧ wrap64 (x - y - c) = x - y - c ∧ (x - y - c < 0 → wrap64 (x - y - c + 10000) = x - y - c + 10000 ∧ 0 ≤ x - y - c + 10000 ∧ x - y - c + 10000 ≤ 9999) ∧ (¬ x - y - c < 0 → 0 ≤ x - y - c ∧ x - y - c ≤ 9999) := by
  refine ⟨w64 (by omega) (by omega), w64 (by omega) (by omega), fun h => ⟨w64 (by omega) (by omega), by omega, by omega⟩, fun h => by omega⟩
theorem w64j (j : Nat) (h : j < 17592186044416) : wrap64 ((j : Int) + 1) = ((j + 1 : Nat) : Int) := by rw [w64 (by omega) (by omega)]; rfl
theorem Of_l0 (s : Bool) : ∀ (n : Nat) (x : Int) (L : List Int), x.natAbs < 10000 ^ n → -9223372036854775808 ≤ x → x ≤ 9223372036854775807 → L.length + n < 17592186044416 →
    ∃ R, Ev (fun k => cobwebref01_Of.l0 k x s L) (s, L ++ R) ∧ Dig R ∧ (∀ d, R.getLast? = some d → d ≠ 0) ∧ val R = (x.natAbs : Int) ∧ R.length ≤ n := by
  intro n
  induction n with
  | zero =>
    intro x L hx _ _ _
    obtain rfl : x = 0 := by simp at hx; omega
    refine ⟨[], Ev.step (f := fun _ => some (s, L ++ [])) (fun k => ?_) (Ev.now _), Dig.nil, fun d h => by simp at h, rfl, Nat.le_refl _⟩
    rw [cobwebref01_Of.l0, if_pos rfl, List.append_nil]
  | succ n ih =>
    intro x L hx h0 h1 hL
    by_cases hz : x = 0
    · subst hz
      refine ⟨[], Ev.step (f := fun _ => some (s, L ++ [])) (fun k => ?_) (Ev.now _), Dig.nil, fun d h => by simp at h, rfl, by simp⟩
      rw [cobwebref01_Of.l0, if_pos rfl, List.append_nil]
    · obtain ⟨d1, d2, d3⟩ := tdm x
      have hlt : (Int.tdiv x 10000).natAbs < 10000 ^ n := by
        rw [d3]
        rw [Nat.pow_succ] at hx
        exact Nat.div_lt_of_lt_mul (by omega)
      have hb := tdb h0 h1 d3
      have hd := mdb x.natAbs
      have hLl : L.length < 17592186044416 := by omega
      obtain ⟨R, hR, h2, h3, h4, h5⟩ := ih (Int.tdiv x 10000) (L ++ [((x.natAbs % 10000 : Nat) : Int)]) hlt hb.1 hb.2 (by simp; omega)
      refine ⟨((x.natAbs % 10000 : Nat) : Int) :: R, ?_, h2.cons hd.1 hd.2.1, ?_, ?_, by simp; omega⟩
      · rw [List.append_cons]
        refine Ev.step (fun k => ?_) hR
        rw [cobwebref01_Of.l0, if_neg hz, if_pos hLl, if_pos hLl, w64 hb.1 hb.2]
        by_cases hm : Int.tmod x 10000 < 0
        · rw [if_pos hm, d1 hm, hd.2.2]
        · rw [if_neg hm, d2 hm]
      · intro d hd'
        cases R with
        | nil =>
          have e : ((x.natAbs % 10000 : Nat) : Int) = d := Option.some.inj hd'
          rw [d3] at h4
          simp only [val] at h4
          rw [← e]
          exact nz hz (by omega)
        | cons e R =>
          rw [List.getLast?_cons_cons] at hd'
          exact h3 d hd'
      · simp only [val, h4, d3]
        clear hb hd hR h4 d1 d2 d3 hlt hx h0 h1 ih
        omega
theorem Of_num {v : Int} (h0 : -9223372036854775808 ≤ v) (h1 : v ≤ 9223372036854775807) : ∃ c, Ev (fun k => cobwebref01_Of.f k v) c ∧ Num c v 5 := by
  obtain ⟨R, h, h2, h3, h4, h5⟩ := Of_l0 (decide (v < 0)) 5 v [] (by omega) h0 h1 (by decide)
  refine ⟨_, h, h2, h3, fun e => ?_, ?_, h5⟩
  · intro hn
    simp at hn
    subst hn
    simp [val] at h4
    simp at e
    omega
  · unfold sval
    simp only [List.nil_append, h4, decide_eq_true_eq]
    split <;> omega
theorem minus_l0 {a b : List Int} (ha : Dig a) (hb : Dig b) (hl : a.length ≤ 1000000) : ∀ (d j : Nat) (out : List Int) (c : Int), a.length - j = d → j ≤ a.length → out.length = j → Dig out → (c = 0 ∨ c = 1) →
    ∃ R c', Ev (fun k => cobwebref01_minus.l0 k a b out c (j : Int)) R ∧ Dig R ∧ R.length = a.length ∧ (c' = 0 ∨ c' = 1) ∧ val R - 10000 ^ a.length * (val (b.drop a.length) + c') = val out + 10000 ^ j * (val (a.drop j) - val (b.drop j) - c) := by
  intro d
  induction d with
  | zero =>
    intro j out c hd hj ho hdo hc
    obtain rfl : j = a.length := by omega
    refine ⟨out, c, Ev.step (f := fun _ => some out) (fun k => ?_) (Ev.now _), hdo, ho, hc, ?_⟩
    · rw [cobwebref01_minus.l0, if_neg (by omega)]
    · rw [List.drop_eq_nil_of_le (Nat.le_refl a.length)]
      simp only [val]
      generalize (10000 : Int) ^ a.length = P
      grind
  | succ d ih =>
    intro j out c hd hj ho hdo hc
    have da := dg_dig ha j
    have db := dg_dig hb j
    have hra : rd a (j : Int) = dg a j := by
      unfold rd dg
      simp
    have hol : out.length < 17592186044416 := by clear da db hra; omega
    have hj1 : (j : Int) < (a.length : Int) := by clear da db hra; omega
    have hj2 : (0 : Int) ≤ (j : Int) := Int.natCast_nonneg j
    have q1 : a.length - (j + 1) = d := by clear da db hra; omega
    have q2 : j + 1 ≤ a.length := by clear da db hra; omega
    have w3 := w64j j (by clear da db hra; omega)
    obtain ⟨w1, w2, m1, m2⟩ := mi da db hc
    have va := val_drop a j
    have vb := val_drop b j
    have st : ∀ k, cobwebref01_minus.l0 (k + 1) a b out c (j : Int) = if dg a j - dg b j - c < 0 then cobwebref01_minus.l0 k a b (out ++ [dg a j - dg b j - c + 10000]) 1 ((j + 1 : Nat) : Int) else cobwebref01_minus.l0 k a b (out ++ [dg a j - dg b j - c]) 0 ((j + 1 : Nat) : Int) := by
      intro k
      rw [cobwebref01_minus.l0, if_pos hj1, if_pos hj2, digit_eq, hra]
      unfold cobwebref01_base.f
      simp only [Option.bind_some]
      rw [w1, w2, w3, if_pos hol, if_pos hol]
      split
      · rename_i hq
        rw [(m1 hq).1]
      · rfl
    by_cases hneg : dg a j - dg b j - c < 0
    · obtain ⟨R, c', h1, h2, h3, h4, h5⟩ := ih (j + 1) (out ++ [dg a j - dg b j - c + 10000]) 1 q1 q2 (by simp [ho]) (hdo.append (Dig.one (m1 hneg).2.1 (m1 hneg).2.2)) (.inr rfl)
      refine ⟨R, c', Ev.step (fun k => by rw [st k, if_pos hneg]) h1, h2, h3, h4, ?_⟩
      rw [h5, val_snoc, ho, va, vb, Int.pow_succ]
      clear h5 h1 st m1 m2 da db w1 w2 w3 ih
      generalize (10000 : Int) ^ j = P
      grind
    · obtain ⟨R, c', h1, h2, h3, h4, h5⟩ := ih (j + 1) (out ++ [dg a j - dg b j - c]) 0 q1 q2 (by simp [ho]) (hdo.append (Dig.one (m2 hneg).1 (m2 hneg).2)) (.inl rfl)
      refine ⟨R, c', Ev.step (fun k => by rw [st k, if_neg hneg]) h1, h2, h3, h4, ?_⟩
      rw [h5, val_snoc, ho, va, vb, Int.pow_succ]
      clear h5 h1 st m1 m2 da db w1 w2 w3 ih
      generalize (10000 : Int) ^ j = P
      grind
theorem minus_ev {a b : List Int} (ha : Dig a) (hb : Dig b) (hl : a.length ≤ 1000000) (hle : val b ≤ val a) :
    ∃ R, Ev (fun k => cobwebref01_minus.f k a b) R ∧ Dig R ∧ R.length = a.length ∧ val R = val a - val b := by
  obtain ⟨R, c', h1, h2, h3, h4, h5⟩ := minus_l0 ha hb hl _ 0 [] 0 rfl (by omega) rfl Dig.nil (.inl rfl)
  refine ⟨R, h1, h2, h3, ?_⟩
  have hlt := val_lt h2
  rw [h3] at hlt
  have hd := val_nonneg (hb.drop a.length)
  simp [val] at h5
  have hz : val (b.drop a.length) + c' = 0 := by
    by_cases h0 : val (b.drop a.length) + c' = 0
    · exact h0
    · exfalso
      have h6 : (10000 : Int) ^ a.length * 1 ≤ 10000 ^ a.length * (val (b.drop a.length) + c') := Int.mul_le_mul_of_nonneg_left (by omega) (Int.le_of_lt (pow_pos' _))
      omega
  rw [hz] at h5
  omega
theorem val_pos {l : List Int} (h : Dig l) (hn : l ≠ []) (ht : ∀ d, l.getLast? = some d → d ≠ 0) : 0 < val l := by
  obtain ⟨m, d, rfl⟩ : ∃ m d, l = m ++ [d] := ⟨l.dropLast, l.getLast hn, (List.dropLast_concat_getLast _).symm⟩
  have h0 := ht d (by simp)
  have h1 := h d (by simp)
  have h2 := val_nonneg (l := m) (fun x hx => h x (List.mem_append_left _ hx))
  have h3 : 0 < (10000 : Int) ^ m.length * d := Int.mul_pos (pow_pos' _) (by omega)
  rw [val_snoc]
  omega
theorem Num.neg_lt {c : Bool × List Int} {v : Int} {n : Nat} (h : Num c v n) (e : c.1 = true) : v < 0 ∧ BN.val c.2 = -v := by
  have h1 := val_pos h.dig (h.sgn e) h.top
  have h2 := h.val
  unfold sval at h2
  rw [if_pos e] at h2
  omega
theorem Num.nonneg {c : Bool × List Int} {v : Int} {n : Nat} (h : Num c v n) (e : c.1 = false) : 0 ≤ v ∧ BN.val c.2 = v := by
  have h1 := val_nonneg h.dig
  have h2 := h.val
  unfold sval at h2
  rw [if_neg (by simp [e])] at h2
  omega
theorem Num.mono {c : Bool × List Int} {v : Int} {n m : Nat} (h : Num c v n) (hm : n ≤ m) : Num c v m := ⟨h.dig, h.top, h.sgn, h.val, Nat.le_trans h.len hm⟩
theorem Num.cast {c : Bool × List Int} {v v' : Int} {n : Nat} (h : Num c v n) (e : v = v') : Num c v' n := e ▸ h
theorem Add_num {c d : Bool × List Int} {v u : Int} {n m : Nat} (h : Num c v n) (h' : Num d u m) (hn : n ≤ 100000) (hm : m ≤ 100000) :
    ∃ r, Ev (fun k => cobwebref01_Add.f k c.1 c.2 d.1 d.2) r ∧ Num r (v + u) (max n m + 1) := by
  have l1 := h.len
  have l2 := h'.len
  by_cases hs : c.1 = d.1
  · obtain ⟨R, e1, e2, e3, e4⟩ := plus_ev h.dig h'.dig (by omega)
    obtain ⟨r, e5, e6⟩ := trim_f_ev c.1 e2 (by omega)
    refine ⟨r, ?_, ((trim_num e6).mono (by omega)).cast ?_⟩
    · unfold cobwebref01_Add.f
      rw [hs] at e5 ⊢
      simp only [beq_self_eq_true, if_true]
      exact Ev.bind e1 (Ev.bind e5 (Ev.now _))
    · have v1 := h.val
      have v2 := h'.val
      unfold sval at v1 v2
      rw [← hs] at v2
      rw [e4]
      split <;> simp_all <;> omega
  · have hse : (c.1 == d.1) = false := by simpa using hs
    have e0 := size_ev h.dig h'.dig (by omega)
    by_cases hge : val d.2 ≤ val c.2
    · obtain ⟨R, e1, e2, e3, e4⟩ := minus_ev h.dig h'.dig (by omega) hge
      obtain ⟨r, e5, e6⟩ := trim_f_ev c.1 e2 (by omega)
      refine ⟨r, ?_, ((trim_num e6).mono (by omega)).cast ?_⟩
      · unfold cobwebref01_Add.f
        rw [hse]
        simp only [Bool.false_eq_true, if_false]
        refine Ev.bind e0 ?_
        have : sgn (val c.2 - val d.2) ≥ 0 := by unfold sgn; split <;> omega
        simp only [if_pos this]
        exact Ev.bind e1 (Ev.bind e5 (Ev.now _))
      · have v1 := h.val
        have v2 := h'.val
        unfold sval at v1 v2
        rw [e4]
        cases hc : c.1 <;> cases hd : d.1 <;> simp_all <;> omega
    · obtain ⟨R, e1, e2, e3, e4⟩ := minus_ev h'.dig h.dig (by omega) (by omega)
      obtain ⟨r, e5, e6⟩ := trim_f_ev d.1 e2 (by omega)
      refine ⟨r, ?_, ((trim_num e6).mono (by omega)).cast ?_⟩
      · unfold cobwebref01_Add.f
        rw [hse]
        simp only [Bool.false_eq_true, if_false]
        refine Ev.bind e0 ?_
        have : ¬ sgn (val c.2 - val d.2) ≥ 0 := by unfold sgn; split <;> omega
        simp only [if_neg this]
        exact Ev.bind e1 (Ev.bind e5 (Ev.now _))
      · have v1 := h.val
        have v2 := h'.val
        unfold sval at v1 v2
        rw [e4]
        cases hc : c.1 <;> cases hd : d.1 <;> simp_all <;> omega
theorem Neg_num {c : Bool × List Int} {v : Int} {n : Nat} (h : Num c v n) (hn : n ≤ 100000) : ∃ r, Ev (fun k => cobwebref01_Neg.f k c.1 c.2) r ∧ Num r (-v) n := by
  have l1 := h.len
  obtain ⟨r, e5, e6⟩ := trim_f_ev (!c.1) h.dig (by omega)
  refine ⟨r, Ev.bind e5 (Ev.now _), ((trim_num e6).mono l1).cast ?_⟩
  have v1 := h.val
  unfold sval at v1
  cases hc : c.1 <;> simp_all <;> omega
theorem Cmp_num {c d : Bool × List Int} {v u : Int} {n m : Nat} (h : Num c v n) (h' : Num d u m) (hn : n ≤ 100000) (hm : m ≤ 100000) : Ev (fun k => cobwebref01_Cmp.f k c.1 c.2 d.1 d.2) (sgn (v - u)) := by
  have l1 := h.len
  have l2 := h'.len
  unfold cobwebref01_Cmp.f
  cases hc : c.1 <;> cases hd : d.1
  · have a1 := h.nonneg hc
    have a2 := h'.nonneg hd
    have e0 := size_ev h.dig h'.dig (by omega)
    rw [a1.2, a2.2] at e0
    exact Ev.bind e0 (Ev.now _)
  · have a1 := h.nonneg hc
    have a2 := h'.neg_lt hd
    have e : sgn (v - u) = 1 := by unfold sgn; rw [if_neg (by omega), if_pos (by omega)]
    rw [e]
    exact Ev.now _
  · have a1 := h.neg_lt hc
    have a2 := h'.nonneg hd
    have e : sgn (v - u) = -1 := by unfold sgn; rw [if_pos (by omega)]
    rw [e]
    exact Ev.now _
  · have a1 := h.neg_lt hc
    have a2 := h'.neg_lt hd
    have e0 := size_ev h'.dig h.dig (by omega)
    rw [a1.2, a2.2] at e0
    have e : -u - -v = v - u := by omega
    rw [e] at e0
    exact Ev.bind e0 (Ev.now _)
end Go.Proofs.Ytglkjeeiiflpjaa.BN
