/- The document's numbers of any size: Mul, Power. -/
import Derived.Test.YtglkjeeiiflpjaaBN3
import Derived.Test.YtglkjeeiiflpjaaF50
namespace Go.Proofs.Ytglkjeeiiflpjaa.BN
open Go.RowKit Go.Proofs.Ytglkjeeiiflpjaa.F Go.Proofs.YtglkjeeiiflpjaaW.PrintWords Go.Proofs.YtglkjeeiiflpjaaW.PrintLast Go.Proofs.YtglkjeeiiflpjaaW.PrintMore
theorem val_set (l : List Int) : ∀ (p : Nat) (x : Int), p < l.length → val (l.set p x) = val l + 10000 ^ p * (x - dg l p) := by
  induction l with
  | nil => intro p x h; simp at h
  | cons d l ih =>
    intro p x h
    cases p with
    | zero => simp [val, dg]; omega
    | succ p =>
      have h' := ih p x (by simpa using h)
      have e : dg (d :: l) (p + 1) = dg l p := by simp [dg]
      rw [e, List.set_cons_succ, val, val, h', Int.pow_succ]
      generalize (10000 : Int) ^ p = P
      grind
theorem Dig.set {l : List Int} (h : Dig l) (p : Nat) {x : Int} (h0 : 0 ≤ x) (h1 : x ≤ 9999) : Dig (l.set p x) := by
  intro d hd
  rcases List.mem_or_eq_of_mem_set hd with hd | rfl
  · exact h d hd
  · exact ⟨h0, h1⟩
theorem dg_set_ne (l : List Int) {p j : Nat} (x : Int) (h : p ≠ j) : dg (l.set p x) j = dg l j := by
  unfold dg
  rw [List.getD_eq_getElem?_getD, List.getD_eq_getElem?_getD, List.getElem?_set_ne h]
theorem rd_dg (l : List Int) (j : Nat) : rd l (j : Int) = dg l j := by unfold rd dg; simp
theorem val_take_succ (l : List Int) (j : Nat) : val (l.take (j + 1)) = val (l.take j) + 10000 ^ j * dg l j := by
  by_cases hj : j < l.length
  · rw [List.take_succ_eq_append_getElem hj, val_snoc, List.length_take, Nat.min_eq_left (by omega)]
    simp [dg, List.getD_eq_getElem?_getD, List.getElem?_eq_getElem hj]
  · rw [List.take_of_length_le (by omega), List.take_of_length_le (by omega), dg_out (by omega)]
    simp
/-- One product of digits, with what was carried. -/
theorem mulc {c o x y : Int} (hc : 0 ≤ c ∧ c ≤ 9999) (ho : 0 ≤ o ∧ o ≤ 9999) (hx : 0 ≤ x ∧ x ≤ 9999) (hy : 0 ≤ y ∧ y ≤ 9999) :
    wrap64 (c + o) = c + o ∧ wrap64 (x * y) = x * y ∧ wrap64 (c + o + x * y) = c + o + x * y ∧ Int.tmod (c + o + x * y) 10000 = (c + o + x * y) % 10000 ∧ Int.tdiv (c + o + x * y) 10000 = (c + o + x * y) / 10000 ∧ wrap64 ((c + o + x * y) / 10000) = (c + o + x * y) / 10000 ∧
      (0 ≤ (c + o + x * y) % 10000 ∧ (c + o + x * y) % 10000 ≤ 9999) ∧ (0 ≤ (c + o + x * y) / 10000 ∧ (c + o + x * y) / 10000 ≤ 9999) := by
  have h0 : 0 ≤ x * y := Int.mul_nonneg hx.1 hy.1
  have h1 : x * y ≤ 9999 * 9999 := Int.mul_le_mul hx.2 hy.2 hy.1 (by decide)
  generalize x * y = z at *
  have hs : 0 ≤ c + o + z := by omega
  exact ⟨w64 (by omega) (by omega), w64 (by omega) (by omega), w64 (by omega) (by omega), Int.tmod_eq_emod_of_nonneg hs, Int.tdiv_eq_ediv_of_nonneg hs, w64 (by omega) (by omega), by omega, by omega⟩
theorem mul_step (a b out : List Int) (i j k : Nat) (c : Int) (s t : Bool) (ha : Dig a) (hb : Dig b) (hd : Dig out) (hc : 0 ≤ c ∧ c ≤ 9999) (hi : i < a.length) (hj : i + j < out.length) (hl : out.length < 17592186044416) :
    cobwebref01_Mul.j2 (k + 1) out (i : Int) c (j : Int) true s a t b = cobwebref01_Mul.l1 k (out.set (i + j) ((c + dg out (i + j) + dg a i * dg b j) % 10000)) (i : Int) ((c + dg out (i + j) + dg a i * dg b j) / 10000) ((j + 1 : Nat) : Int) s a t b := by
  have w0 : wrap64 ((i : Int) + (j : Int)) = ((i + j : Nat) : Int) := by rw [w64 (by omega) (by omega)]; rfl
  have w9 := w64j j (by omega)
  have i1 : (0 : Int) ≤ ((i + j : Nat) : Int) := Int.natCast_nonneg _
  have i2 : ((i + j : Nat) : Int) < (out.length : Int) := by omega
  have i3 : (0 : Int) ≤ (i : Int) := Int.natCast_nonneg _
  have i4 : (i : Int) < (a.length : Int) := by omega
  have i5 : ((i + j : Nat) : Int).toNat = i + j := Int.toNat_natCast _
  obtain ⟨w1, w2, w3, w4, w5, w6, _, _⟩ := mulc hc (dg_dig hd (i + j)) (dg_dig ha i) (dg_dig hb j)
  rw [cobwebref01_Mul.j2, if_pos rfl, w0, if_pos i1, if_pos i2, if_pos i3, if_pos i4, digit_eq, rd_dg, rd_dg, i5]
  unfold cobwebref01_base.f
  simp only [Option.bind_some]
  rw [if_neg (by decide), if_neg (by decide), w1, w2, w3, w4, w5, w6, w9]
/-- One row of the product. -/
theorem mul_row {a b : List Int} (ha : Dig a) (hb : Dig b) (s t : Bool) {i : Nat} (hi : i < a.length) {V : Int} {N : Nat} (hN : N = a.length + b.length + 1) (hl : N < 1000000)  :
    ∀ (d j : Nat) (out : List Int) (c : Int), b.length + 1 - j = d → j ≤ b.length + 1 → out.length = N → Dig out → (0 ≤ c ∧ c ≤ 9999) → (∀ p, (if j ≤ b.length then i + b.length else i + 1 + b.length) ≤ p → dg out p = 0) → (j = b.length + 1 → c = 0) →
    val out + 10000 ^ i * (10000 ^ j * c) = V + 10000 ^ i * (dg a i * val (b.take j)) →
    ∃ o : List Int, o.length = N ∧ Dig o ∧ (∀ j, i + 1 + b.length ≤ j → dg o j = 0) ∧ val o = V + 10000 ^ i * (dg a i * val b) ∧ ∀ r, Ev (fun k => cobwebref01_Mul.l0 k o ((i + 1 : Nat) : Int) s a t b) r → Ev (fun k => cobwebref01_Mul.l1 k out (i : Int) c (j : Int) s a t b) r := by
  have wi : wrap64 ((i : Int) + 1) = ((i + 1 : Nat) : Int) := w64j i (by omega)
  have fin : ∀ (j : Nat) (out : List Int), b.length ≤ j → out.length = N → Dig out → (∀ p, (if j ≤ b.length then i + b.length else i + 1 + b.length) ≤ p → dg out p = 0) → val out + 10000 ^ i * (10000 ^ j * 0) = V + 10000 ^ i * (dg a i * val (b.take j)) → ∃ o : List Int, o.length = N ∧ Dig o ∧ (∀ j, i + 1 + b.length ≤ j → dg o j = 0) ∧ val o = V + 10000 ^ i * (dg a i * val b) ∧ ∀ r, Ev (fun k => cobwebref01_Mul.l0 k o ((i + 1 : Nat) : Int) s a t b) r → Ev (fun k => cobwebref01_Mul.l1 k out (i : Int) 0 (j : Int) s a t b) r := by
    intro j out hj ho hd hz hv
    rw [List.take_of_length_le hj, Int.mul_zero, Int.mul_zero, Int.add_zero] at hv
    refine ⟨out, ho, hd, fun p hp => hz p (by split <;> omega), hv, fun r hr => Ev.step (f := fun k => cobwebref01_Mul.j2 k out (i : Int) 0 (j : Int) false s a t b) (fun k => ?_) (Ev.step (f := fun k => cobwebref01_Mul.l0 k out ((i + 1 : Nat) : Int) s a t b) (fun k => ?_) hr)⟩
    · simp only [cobwebref01_Mul.l1]
      rw [if_neg (by omega)]
      rfl
    · simp only [cobwebref01_Mul.j2]
      rw [if_neg (by decide), wi]
  intro d
  induction d with
  | zero =>
    intro j out c hd hj ho hdo hc hz hc0 hv
    have e : j = b.length + 1 := by omega
    obtain rfl := hc0 e
    exact fin j out (by omega) ho hdo hz hv
  | succ d ih =>
    intro j out c hd hj ho hdo hc hz hc0 hv
    by_cases hgo : j < b.length ∨ c > 0
    · have hjl : j ≤ b.length := by
        rcases hgo with h | h
        · omega
        · by_cases e : j = b.length + 1
          · have := hc0 e
            omega
          · omega
      have hin : i + j < out.length := by omega
      have hol : out.length < 17592186044416 := by omega
      have q1 : b.length + 1 - (j + 1) = d := by omega
      have q2 : j + 1 ≤ b.length + 1 := by omega
      rw [if_pos hjl] at hz
      have hz1 : j = b.length → dg out (i + j) = 0 ∧ dg b j = 0 := fun e => ⟨hz _ (by omega), dg_out (by omega)⟩
      have hz2 : ∀ p, (if j + 1 ≤ b.length then i + b.length else i + 1 + b.length) ≤ p → dg out p = 0 ∧ i + j ≠ p := by
        intro p hp
        split at hp
        · exact ⟨hz p (by omega), by omega⟩
        · exact ⟨hz p (by omega), by omega⟩
      have hgo' : (j : Int) < (b.length : Int) ∨ (¬ (j : Int) < (b.length : Int) ∧ c > 0) := by omega
      obtain ⟨_, _, _, _, _, _, k1, k2⟩ := mulc hc (dg_dig hdo (i + j)) (dg_dig ha i) (dg_dig hb j)
      have f1 : ∀ p, (if j + 1 ≤ b.length then i + b.length else i + 1 + b.length) ≤ p → dg (out.set (i + j) ((c + dg out (i + j) + dg a i * dg b j) % 10000)) p = 0 := by
        intro p hp
        obtain ⟨h1, h2⟩ := hz2 p hp
        rw [dg_set_ne _ _ h2, h1]
      have f2 : j + 1 = b.length + 1 → (c + dg out (i + j) + dg a i * dg b j) / 10000 = 0 := by
        intro e
        obtain ⟨h1, h2⟩ := hz1 (by clear k1 k2 hv; omega)
        rw [h1, h2, Int.mul_zero, Int.add_zero, Int.add_zero]
        clear k1 k2 hv
        omega
      have f3 : val (out.set (i + j) ((c + dg out (i + j) + dg a i * dg b j) % 10000)) + 10000 ^ i * (10000 ^ (j + 1) * ((c + dg out (i + j) + dg a i * dg b j) / 10000)) = V + 10000 ^ i * (dg a i * val (b.take (j + 1))) := by
        rw [val_set _ _ _ hin, val_take_succ, Int.pow_add, Int.pow_succ]
        have e := Int.emod_add_mul_ediv (c + dg out (i + j) + dg a i * dg b j) 10000
        generalize (c + dg out (i + j) + dg a i * dg b j) % 10000 = x at *
        generalize (c + dg out (i + j) + dg a i * dg b j) / 10000 = y at *
        generalize dg out (i + j) = o at *
        generalize dg a i = p at *
        generalize dg b j = q at *
        generalize (10000 : Int) ^ i = I at *
        generalize (10000 : Int) ^ j = J at *
        generalize val out = O at *
        generalize val (b.take j) = B at *
        clear ih fin k1 k2 hz hz1 hz2 hgo hgo' f1 f2
        grind
      obtain ⟨o, o1, o2, o3, o4, o5⟩ := ih (j + 1) (out.set (i + j) ((c + dg out (i + j) + dg a i * dg b j) % 10000)) ((c + dg out (i + j) + dg a i * dg b j) / 10000) q1 q2 (by rw [List.length_set]; exact ho) (hdo.set _ k1.1 k1.2) k2 f1 f2 f3
      refine ⟨o, o1, o2, o3, o4, fun r hr => Ev.step (f := fun k => cobwebref01_Mul.j2 k out (i : Int) c (j : Int) true s a t b) (fun k => ?_) (Ev.step (fun k => mul_step a b out i j k c s t ha hb hdo hc hi hin hol) (o5 r hr))⟩
      simp only [cobwebref01_Mul.l1]
      rcases hgo' with h | ⟨h, h'⟩
      · rw [if_pos h]
      · rw [if_neg h, decide_eq_true h']
    · have hj' : b.length ≤ j := by omega
      obtain rfl : c = 0 := by omega
      exact fin j out hj' ho hdo hz hv
theorem mul_l0 {a b : List Int} (ha : Dig a) (hb : Dig b) (s t : Bool) {N : Nat} (hN : N = a.length + b.length + 1) (hl : N < 1000000) : ∀ (d i : Nat) (out : List Int), a.length - i = d → i ≤ a.length → out.length = N → Dig out → (∀ j, i + b.length ≤ j → dg out j = 0) → val out = val (a.take i) * val b →
    ∃ r, Ev (fun k => cobwebref01_Mul.l0 k out (i : Int) s a t b) r ∧ Num r (if (s != t) = true then -(val a * val b) else val a * val b) N := by
  intro d
  induction d with
  | zero =>
    intro i out hd hi ho hdo hz hv
    obtain ⟨r, e5, e6⟩ := trim_f_ev (s != t) hdo (by omega)
    rw [List.take_of_length_le (by omega)] at hv
    refine ⟨r, Ev.step (f := fun k => (cobwebref01_trim.f k (s != t) out).bind fun bt107 => some (bt107.1, bt107.2)) (fun k => ?_) (Ev.bind e5 (Ev.now _)), ?_⟩
    · simp only [cobwebref01_Mul.l0]
      rw [if_neg (by omega)]
    · have h := trim_num e6
      rw [hv] at h
      exact h.mono (by omega)
  | succ d ih =>
    intro i out hd hi ho hdo hz hv
    have hlt : i < a.length := by omega
    have hdm : a.length - (i + 1) = d := by omega
    obtain ⟨o, o1, o2, o3, o4, o5⟩ := mul_row ha hb s t hlt hN hl (V := val out) _ 0 out 0 rfl (by omega) ho hdo (by omega) (fun p hp => hz p (by rw [if_pos (by omega)] at hp; exact hp)) (by omega) (by simp [val])
    obtain ⟨r, h1, h2⟩ := ih (i + 1) o hdm (by omega) o1 o2 o3 (by
      rw [o4, hv, val_take_succ]
      generalize (10000 : Int) ^ i = I
      grind)
    refine ⟨r, Ev.step (f := fun k => cobwebref01_Mul.l1 k out (i : Int) 0 ((0 : Nat) : Int) s a t b) (fun k => ?_) (o5 r h1), h2⟩
    · simp only [cobwebref01_Mul.l0]
      rw [if_pos (by omega)]
      rfl
theorem dg_zeros (n j : Nat) : dg (List.replicate n 0) j = 0 := by
  unfold dg
  rw [List.getD_eq_getElem?_getD, List.getElem?_replicate]
  split <;> rfl
theorem val_zeros (n : Nat) : val (List.replicate n 0) = 0 := by
  induction n with
  | zero => rfl
  | succ n ih => rw [List.replicate_succ, val, ih]; rfl
/-- The product. -/
theorem Mul_num {c d : Bool × List Int} {v u : Int} {n m : Nat} (h : Num c v n) (h' : Num d u m) (hn : n ≤ 100000) (hm : m ≤ 100000) :
    ∃ r, Ev (fun k => cobwebref01_Mul.f k c.1 c.2 d.1 d.2) r ∧ Num r (v * u) (n + m + 1) := by
  have l1 := h.len
  have l2 := h'.len
  have w : wrap64 (wrap64 ((c.2.length : Int) + (d.2.length : Int)) + 1) = ((c.2.length + d.2.length + 1 : Nat) : Int) := by
    rw [w64 (x := (c.2.length : Int) + (d.2.length : Int)) (by omega) (by omega), w64 (by omega) (by omega)]
    rfl
  obtain ⟨r, h1, h2⟩ := mul_l0 h.dig h'.dig c.1 d.1 rfl (by omega) _ 0 (List.replicate (c.2.length + d.2.length + 1) 0) rfl (by omega) (List.length_replicate ..) (fun x hx => by rw [List.eq_of_mem_replicate hx]; decide) (fun j _ => dg_zeros _ j) (by rw [val_zeros]; simp [val])
  refine ⟨r, Ev.congr (fun k => ?_) h1, (h2.mono (by omega)).cast ?_⟩
  · unfold cobwebref01_Mul.f
    rw [w, Int.toNat_natCast, if_pos (Int.natCast_nonneg _), if_pos (by omega)]
    rfl
  · have v1 := h.val
    have v2 := h'.val
    unfold sval at v1 v2
    rw [← v1, ← v2]
    cases c.1 <;> cases d.1 <;> simp [Int.mul_neg, Int.neg_mul]
theorem Power_l0 (a0 : Nat) (ha : a0 ≤ 1000) : ∀ (d i : Nat) (c : Bool × List Int), a0 - i = d → i ≤ a0 → Num c (2 ^ i) (i + 5) → ∃ r, Ev (fun k => cobwebref01_Power.l0 k (a0 : Int) (i : Int) c.1 c.2) r ∧ Num r (2 ^ a0) (a0 + 5) := by
  intro d
  induction d with
  | zero =>
    intro i c hd hi hc
    obtain rfl : i = a0 := by omega
    refine ⟨c, Ev.step (f := fun _ => some c) (fun k => ?_) (Ev.now _), hc⟩
    rw [cobwebref01_Power.l0, if_neg (by omega)]
  | succ d ih =>
    intro i c hd hi hc
    obtain ⟨r, h1, h2⟩ := Add_num hc hc (by omega) (by omega)
    obtain ⟨r', h3, h4⟩ := ih (i + 1) r (by omega) (by omega) ((h2.mono (by omega)).cast (by rw [Int.pow_succ]; omega))
    refine ⟨r', Ev.step (f := fun k => (cobwebref01_Add.f k c.1 c.2 c.1 c.2).bind fun bt107 => cobwebref01_Power.l0 k (a0 : Int) ((i + 1 : Nat) : Int) bt107.1 bt107.2) (fun k => ?_) (Ev.bind h1 h3), h4⟩
    rw [cobwebref01_Power.l0, if_pos (by omega), w64j i (by omega)]
theorem Power_num {a0 : Nat} (ha : a0 ≤ 1000) : ∃ r, Ev (fun k => cobwebref01_Power.f k (a0 : Int)) r ∧ Num r (2 ^ a0) (a0 + 5) := by
  obtain ⟨c, h1, h2⟩ := Of_num (v := 1) (by decide) (by decide)
  obtain ⟨r, h3, h4⟩ := Power_l0 a0 ha _ 0 c rfl (by omega) (h2.cast rfl)
  exact ⟨r, Ev.bind h1 h3, h4⟩
end Go.Proofs.Ytglkjeeiiflpjaa.BN
