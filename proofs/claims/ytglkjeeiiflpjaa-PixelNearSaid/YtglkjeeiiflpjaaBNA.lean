/- Small texts, one behind the other. -/
import Derived.Test.YtglkjeeiiflpjaaF31
import Derived.Test.YtglkjeeiiflpjaaF36
import Derived.Test.YtglkjeeiiflpjaaF44
import Derived.Test.YtglkjeeiiflpjaaF51
import Derived.Test.YtglkjeeiiflpjaaF52
section
/- The document's numbers of any size: what their rows of digits mean. -/
namespace Go.Proofs.Ytglkjeeiiflpjaa.BN
open Go.RowKit Go.Proofs.Ytglkjeeiiflpjaa.F Go.Proofs.YtglkjeeiiflpjaaW.PrintWords Go.Proofs.YtglkjeeiiflpjaaW.PrintLast Go.Proofs.YtglkjeeiiflpjaaW.PrintMore
theorem w64 {x : Int} (h0 : -9223372036854775808 ≤ x) (h1 : x ≤ 9223372036854775807) : wrap64 x = x := by unfold wrap64; omega
/-- The number of a row of digits, the lowest first. -/
def val : List Int → Int
  | [] => 0
  | d :: l => d + 10000 * val l
def Dig (l : List Int) : Prop := ∀ d ∈ l, 0 ≤ d ∧ d ≤ 9999
def sval (c : Bool × List Int) : Int := if c.1 = true then -val c.2 else val c.2
/-- A number as the document has it. -/
structure Num (c : Bool × List Int) (v : Int) (n : Nat) : Prop where
  dig : Dig c.2
  top : ∀ d, c.2.getLast? = some d → d ≠ 0
  sgn : c.1 = true → c.2 ≠ []
  val : sval c = v
  len : c.2.length ≤ n
theorem Dig.nil : Dig [] := fun d h => by cases h
theorem Dig.cons {d : Int} {l : List Int} (h0 : 0 ≤ d) (h1 : d ≤ 9999) (h : Dig l) : Dig (d :: l) := by
  intro x hx
  rcases List.mem_cons.1 hx with rfl | hx
  · exact ⟨h0, h1⟩
  · exact h x hx
theorem Dig.append {l m : List Int} (h : Dig l) (h' : Dig m) : Dig (l ++ m) := by
  intro x hx
  rcases List.mem_append.1 hx with hx | hx
  · exact h x hx
  · exact h' x hx
theorem Dig.one {d : Int} (h0 : 0 ≤ d) (h1 : d ≤ 9999) : Dig [d] := Dig.nil.cons h0 h1
theorem val_append (l m : List Int) : val (l ++ m) = val l + 10000 ^ l.length * val m := by
  induction l with
  | nil => simp [val]
  | cons d l ih =>
    simp only [List.cons_append, val, ih, List.length_cons, Int.pow_succ]
    rw [Int.mul_add, Int.mul_comm (10000 ^ l.length) 10000, Int.mul_assoc, Int.add_assoc]
theorem val_snoc (l : List Int) (d : Int) : val (l ++ [d]) = val l + 10000 ^ l.length * d := by rw [val_append]; simp [val]
theorem val_nonneg {l : List Int} (h : Dig l) : 0 ≤ val l := by
  induction l with
  | nil => simp [val]
  | cons d l ih =>
    have h1 := h d List.mem_cons_self
    have h2 := ih fun x hx => h x (List.mem_cons_of_mem _ hx)
    simp only [val]
    omega
/-- A digit of a row; 0 beyond it. -/
def dg (l : List Int) (j : Nat) : Int := l.getD j 0
theorem dg_dig {l : List Int} (h : Dig l) (j : Nat) : 0 ≤ dg l j ∧ dg l j ≤ 9999 := by
  unfold dg
  rw [List.getD_eq_getElem?_getD]
  by_cases hj : j < l.length
  · rw [List.getElem?_eq_getElem hj]
    exact h _ (List.getElem_mem hj)
  · rw [List.getElem?_eq_none (by omega)]
    simp
theorem digit_eq (l : List Int) (j : Nat) : cobwebref01_digit.f l (j : Int) = some (dg l j) := by
  unfold cobwebref01_digit.f dg
  by_cases hj : j < l.length
  · rw [if_pos (by omega), if_pos (by omega)]
    simp [rd]
  · rw [if_neg (by omega), List.getD_eq_getElem?_getD, List.getElem?_eq_none (by omega)]
    rfl
theorem val_drop (l : List Int) (j : Nat) : val (l.drop j) = dg l j + 10000 * val (l.drop (j + 1)) := by
  unfold dg
  by_cases hj : j < l.length
  · rw [List.drop_eq_getElem_cons hj]
    simp [val, List.getD_eq_getElem?_getD, List.getElem?_eq_getElem hj]
  · rw [List.drop_eq_nil_of_le (by omega), List.drop_eq_nil_of_le (by omega), List.getD_eq_getElem?_getD, List.getElem?_eq_none (by omega)]
    simp [val]
theorem carry {c x y : Int} (hc : c = 0 ∨ c = 1) (hx : 0 ≤ x ∧ x ≤ 9999) (hy : 0 ≤ y ∧ y ≤ 9999) :
    wrap64 (c + x) = c + x ∧ wrap64 (c + x + y) = c + x + y ∧ Int.tmod (c + x + y) 10000 = (c + x + y) % 10000 ∧ Int.tdiv (c + x + y) 10000 = (c + x + y) / 10000 ∧ wrap64 ((c + x + y) / 10000) = (c + x + y) / 10000 ∧
      (0 ≤ (c + x + y) % 10000 ∧ (c + x + y) % 10000 ≤ 9999) ∧ ((c + x + y) / 10000 = 0 ∨ (c + x + y) / 10000 = 1) := by
  have hs : 0 ≤ c + x + y := by omega
  exact ⟨w64 (by omega) (by omega), w64 (by omega) (by omega), Int.tmod_eq_emod_of_nonneg hs, Int.tdiv_eq_ediv_of_nonneg hs, w64 (by omega) (by omega), by omega, by omega⟩
theorem dg_out {l : List Int} {j : Nat} (h : l.length ≤ j) : dg l j = 0 := by unfold dg; rw [List.getD_eq_getElem?_getD, List.getElem?_eq_none h]; rfl
theorem plus_j1 {a b : List Int} (ha : Dig a) (hb : Dig b) {c : Int} (hc : c = 0 ∨ c = 1) (out : List Int) (j k : Nat) (hout : out.length < 17592186044416) (hj : j < 17592186044416) :
    cobwebref01_plus.j1 (k + 1) a b out c (j : Int) true = cobwebref01_plus.l0 k a b (out ++ [(c + dg a j + dg b j) % 10000]) ((c + dg a j + dg b j) / 10000) ((j + 1 : Nat) : Int) := by
  obtain ⟨w1, w2, m1, m2, w4, _, _⟩ := carry hc (dg_dig ha j) (dg_dig hb j)
  have w3 : wrap64 ((j : Int) + 1) = ((j + 1 : Nat) : Int) := by rw [w64 (by omega) (by omega)]; rfl
  rw [cobwebref01_plus.j1, if_pos rfl, digit_eq, digit_eq]
  unfold cobwebref01_base.f
  simp only [Option.bind_some]
  rw [if_neg (by decide), if_pos hout, if_neg (by decide), w1, w2, w3, m1, m2, w4]
theorem plus_l0 {a b : List Int} (ha : Dig a) (hb : Dig b) {M : Nat} (hM : M = max a.length b.length) (hl : M ≤ 1000000) : ∀ (d j : Nat) (out : List Int) (c : Int), M + 1 - j = d → j ≤ M + 1 → out.length = j → Dig out → (c = 0 ∨ c = 1) → (j = M + 1 → c = 0) →
    ∃ R, Ev (fun k => cobwebref01_plus.l0 k a b out c (j : Int)) R ∧ Dig R ∧ R.length ≤ M + 1 ∧ val R = val out + 10000 ^ j * (c + val (a.drop j) + val (b.drop j)) := by
  intro d
  have hmx : mx (a.length : Int) (b.length : Int) = (M : Int) := by simp only [mx]; split <;> omega
  induction d with
  | zero =>
    intro j out c hd hj ho hdo hc hc0
    have e : j = M + 1 := by omega
    have hc' := hc0 e
    subst hc'
    refine ⟨out, ?_, hdo, by omega, ?_⟩
    · refine Ev.step (f := fun k => cobwebref01_plus.j1 k a b out 0 (j : Int) false) (fun k => ?_) (Ev.step (f := fun _ => some out) (fun k => ?_) (Ev.now _))
      · simp only [cobwebref01_plus.l0, hmx]
        rw [if_neg (by omega)]
        rfl
      · simp only [cobwebref01_plus.j1]
        rw [if_neg (by decide)]
    · rw [List.drop_eq_nil_of_le (by omega), List.drop_eq_nil_of_le (by omega)]
      simp [val]
  | succ d ih =>
    intro j out c hd hj ho hdo hc hc0
    by_cases hgo : j < M ∨ c = 1
    · have da := dg_dig ha j
      have db := dg_dig hb j
      obtain ⟨w1, w2, m1, m2, w4, k1, k2⟩ := carry hc da db
      have hol : out.length < 17592186044416 := by clear k1 k2 da db w1 w2 m1 m2 w4; omega
      have hjl : j < 17592186044416 := by clear k1 k2 da db w1 w2 m1 m2 w4; omega
      obtain ⟨R, hR, h1, h2, h3⟩ := ih (j + 1) (out ++ [(c + dg a j + dg b j) % 10000]) ((c + dg a j + dg b j) / 10000) (by clear k1 k2 da db w1 w2 m1 m2 w4; omega) (by clear k1 k2 da db w1 w2 m1 m2 w4; omega) (by simp [ho]) (hdo.append (Dig.one k1.1 k1.2)) k2 (fun e => by
        have hja : a.length ≤ j := by clear k1 k2 da db w1 w2 m1 m2 w4; omega
        have hjb : b.length ≤ j := by clear k1 k2 da db w1 w2 m1 m2 w4; omega
        rw [dg_out hja, dg_out hjb]
        rcases hc with rfl | rfl <;> decide)
      refine ⟨R, ?_, h1, h2, ?_⟩
      · refine Ev.step (f := fun k => cobwebref01_plus.j1 k a b out c (j : Int) true) (fun k => ?_) (Ev.step (fun k => ?_) hR)
        · simp only [cobwebref01_plus.l0, hmx]
          by_cases hjm : j < M
          · rw [if_pos (by omega)]
          · rw [if_neg (by omega), decide_eq_true (show c > 0 by omega)]
        · exact (plus_j1 ha hb hc out j k hol hjl).symm ▸ rfl
      · rw [h3, val_snoc, ho, val_drop a j, val_drop b j, Int.pow_succ]
        have e := Int.emod_add_mul_ediv (c + dg a j + dg b j) 10000
        generalize (c + dg a j + dg b j) % 10000 = x at *
        generalize (c + dg a j + dg b j) / 10000 = y at *
        generalize val (a.drop (j + 1)) = A at *
        generalize val (b.drop (j + 1)) = B at *
        generalize (10000 : Int) ^ j = P at *
        clear da db w1 w2 m1 m2 w4 k1 k2
        generalize dg a j = p at *
        generalize dg b j = q at *
        have e2 : c + (p + 10000 * A) + (q + 10000 * B) = x + 10000 * (y + A + B) := by omega
        rw [e2, Int.mul_add P x, ← Int.mul_assoc P 10000, Int.add_assoc]
    · have hj' : M ≤ j := by omega
      have hc' : c = 0 := by omega
      subst hc'
      refine ⟨out, ?_, hdo, by omega, ?_⟩
      · refine Ev.step (f := fun k => cobwebref01_plus.j1 k a b out 0 (j : Int) false) (fun k => ?_) (Ev.step (f := fun _ => some out) (fun k => ?_) (Ev.now _))
        · simp only [cobwebref01_plus.l0, hmx]
          rw [if_neg (by omega)]
          rfl
        · simp only [cobwebref01_plus.j1]
          rw [if_neg (by decide)]
      · rw [List.drop_eq_nil_of_le (by omega), List.drop_eq_nil_of_le (by omega)]
        simp [val]
theorem plus_ev {a b : List Int} (ha : Dig a) (hb : Dig b) (hl : max a.length b.length ≤ 1000000) :
    ∃ R, Ev (fun k => cobwebref01_plus.f k a b) R ∧ Dig R ∧ R.length ≤ max a.length b.length + 1 ∧ val R = val a + val b := by
  obtain ⟨R, h, h1, h2, h3⟩ := plus_l0 ha hb rfl hl _ 0 [] 0 rfl (by omega) rfl Dig.nil (.inl rfl) (by omega)
  refine ⟨R, h, h1, h2, ?_⟩
  rw [h3]
  simp [val]
end Go.Proofs.Ytglkjeeiiflpjaa.BN
end
section
/- The document's numbers of any size: trim, size (which of two rows is greater), Of. -/
namespace Go.Proofs.Ytglkjeeiiflpjaa.BN
open Go.RowKit Go.Proofs.Ytglkjeeiiflpjaa.F Go.Proofs.YtglkjeeiiflpjaaW.PrintWords Go.Proofs.YtglkjeeiiflpjaaW.PrintLast Go.Proofs.YtglkjeeiiflpjaaW.PrintMore
theorem rd_last (l : List Int) (d : Int) : rd (l ++ [d]) (l.length : Int) = d := by
  unfold rd
  simp
theorem trim_step (l : List Int) (d : Int) (neg : Bool) (l0 : List Int) (k : Nat) (hl : l.length < 17592186044416) :
    cobwebref01_trim.l0 (k + 1) (l ++ [d]) neg l0 = if d = 0 then cobwebref01_trim.l0 k l neg l0 else some (neg, l ++ [d]) := by
  have hlen : ((l ++ [d]).length : Int) = (l.length : Int) + 1 := by simp
  have w : wrap64 ((l.length : Int) + 1 - 1) = (l.length : Int) := by rw [w64 (by omega) (by omega)]; omega
  have c1 : (l.length : Int) + 1 > 0 := by omega
  have c2 : (0 : Int) ≤ (l.length : Int) := by omega
  have c3 : (l.length : Int) < (l.length : Int) + 1 := by omega
  have c4 : (l.length : Int) ≤ (l.length : Int) + 1 := by omega
  have h1 : (l ++ [d]).take l.length = l := List.take_left' rfl
  rw [cobwebref01_trim.l0, hlen, if_pos c1, w, if_pos c2, if_pos c3, rd_last, Int.toNat_natCast, h1, if_pos c4]
  split
  · rfl
  · cases neg with
    | true => rw [if_pos rfl, decide_eq_true c1]
    | false => rfl
theorem trim_nil (neg : Bool) (l0 : List Int) (k : Nat) : cobwebref01_trim.l0 (k + 1) [] neg l0 = some (false, []) := by
  rw [cobwebref01_trim.l0]
  cases neg <;> simp
/-- A row without noughts at its end. -/
structure Trim (neg : Bool) (l : List Int) (c : Bool × List Int) : Prop where
  dig : Dig c.2
  top : ∀ d, c.2.getLast? = some d → d ≠ 0
  neg : c.1 = (neg && !c.2.isEmpty)
  val : val c.2 = val l
  len : c.2.length ≤ l.length
theorem trim_ev (neg : Bool) (l0 : List Int) : ∀ (n : Nat) (l : List Int), l.length = n → Dig l → n < 17592186044416 → ∃ c, Ev (fun k => cobwebref01_trim.l0 k l neg l0) c ∧ Trim neg l c := by
  intro n
  induction n with
  | zero =>
    intro l hl hd _
    obtain rfl : l = [] := List.eq_nil_of_length_eq_zero hl
    exact ⟨(false, []), Ev.step (f := fun _ => some (false, [])) (fun k => trim_nil neg l0 k) (Ev.now _), Dig.nil, fun d h => by simp at h, by simp, rfl, Nat.le_refl _⟩
  | succ n ih =>
    intro l hl hd hn
    obtain ⟨m, d, rfl⟩ : ∃ m d, l = m ++ [d] := ⟨l.dropLast, l.getLast (by intro h; simp [h] at hl), (List.dropLast_concat_getLast _).symm⟩
    have hm : m.length = n := by simpa using hl
    by_cases h0 : d = 0
    · obtain ⟨c, h1, h2⟩ := ih m hm (fun x hx => hd x (List.mem_append_left _ hx)) (by omega)
      refine ⟨c, Ev.step (f := fun k => cobwebref01_trim.l0 k m neg l0) (fun k => by rw [trim_step m d neg l0 k (by omega), if_pos h0]) h1, h2.dig, h2.top, h2.neg, ?_, by have := h2.len; simp; omega⟩
      rw [h2.val, val_snoc, h0]
      simp
    · refine ⟨(neg, m ++ [d]), Ev.step (f := fun _ => some (neg, m ++ [d])) (fun k => by rw [trim_step m d neg l0 k (by omega), if_neg h0]) (Ev.now _), hd, fun e h => by simp at h; rw [← h]; exact h0, by simp, rfl, Nat.le_refl _⟩
theorem trim_f_ev (neg : Bool) {l : List Int} (hd : Dig l) (hn : l.length < 17592186044416) : ∃ c, Ev (fun k => cobwebref01_trim.f k neg l) c ∧ Trim neg l c := trim_ev neg l l.length l rfl hd hn
/-- A row with no more digits than n is below 10000^n. -/
theorem val_lt {l : List Int} (h : Dig l) : val l < 10000 ^ l.length := by
  induction l with
  | nil => simp [val]
  | cons d l ih =>
    have h1 := h d List.mem_cons_self
    have h2 := ih fun x hx => h x (List.mem_cons_of_mem _ hx)
    simp only [val, List.length_cons, Int.pow_succ]
    omega
theorem Dig.take {l : List Int} (h : Dig l) (j : Nat) : Dig (l.take j) := fun d hd => h d (List.mem_of_mem_take hd)
theorem Dig.drop {l : List Int} (h : Dig l) (j : Nat) : Dig (l.drop j) := fun d hd => h d (List.mem_of_mem_drop hd)
/-- A row cut in two. -/
theorem val_cut (l : List Int) (j : Nat) : val l = val (l.take j) + 10000 ^ j * val (l.drop j) := by
  by_cases hj : j ≤ l.length
  · conv => lhs; rw [← List.take_append_drop j l]
    rw [val_append, List.length_take, Nat.min_eq_left hj]
  · rw [List.take_of_length_le (by omega), List.drop_eq_nil_of_le (by omega)]
    simp [val]
theorem take_lt {l : List Int} (h : Dig l) (j : Nat) : 0 ≤ val (l.take j) ∧ val (l.take j) < 10000 ^ j := by
  refine ⟨val_nonneg (h.take j), ?_⟩
  have h1 := val_lt (h.take j)
  have h2 : (10000 : Int) ^ (l.take j).length ≤ 10000 ^ j := by
    have hle : (l.take j).length ≤ j := by rw [List.length_take]; omega
    have h2 : ((10000 ^ (l.take j).length : Nat) : Int) ≤ ((10000 ^ j : Nat) : Int) := Int.ofNat_le.2 (Nat.pow_le_pow_right (by decide) hle)
    rw [Int.natCast_pow, Int.natCast_pow] at h2
    exact h2
  omega
def sgn (x : Int) : Int := if x < 0 then -1 else if x > 0 then 1 else 0
theorem size_step (a b : List Int) (j k : Nat) (hj : j < 17592186044416) :
    cobwebref01_size.l0 (k + 1) a b (j : Int) = if dg a j < dg b j then some (-1) else if dg a j > dg b j then some 1 else cobwebref01_size.l0 k a b ((j : Int) - 1) := by
  rw [cobwebref01_size.l0, if_pos (by omega), digit_eq, digit_eq]
  simp only [Option.bind_some]
  rw [w64 (x := (j : Int) - 1) (by omega) (by omega)]
theorem size_end (a b : List Int) (k : Nat) : cobwebref01_size.l0 (k + 1) a b (-1) = some 0 := by
  rw [cobwebref01_size.l0, if_neg (by decide)]
theorem cut_cmp {a b : List Int} (ha : Dig a) (hb : Dig b) (j : Nat) (h : val (a.drop j) < val (b.drop j)) : val a < val b := by
  rw [val_cut a j, val_cut b j]
  have h1 := take_lt ha j
  have h2 := take_lt hb j
  have h3 : (10000 : Int) ^ j * (val (a.drop j) + 1) ≤ 10000 ^ j * val (b.drop j) := Int.mul_le_mul_of_nonneg_left (by omega) (by omega)
  rw [Int.mul_add, Int.mul_one] at h3
  omega
theorem size_l0 {a b : List Int} (ha : Dig a) (hb : Dig b) : ∀ j : Nat, j < 17592186044416 → val (a.drop j) = val (b.drop j) → Ev (fun k => cobwebref01_size.l0 k a b ((j : Int) - 1)) (sgn (val a - val b)) := by
  intro j
  induction j with
  | zero =>
    intro _ h
    rw [List.drop_zero, List.drop_zero] at h
    have e : sgn (val a - val b) = 0 := by unfold sgn; rw [if_neg (by omega), if_neg (by omega)]
    rw [e]
    exact Ev.step (f := fun _ => some 0) (fun k => size_end a b k) (Ev.now _)
  | succ j ih =>
    intro hj h
    have hi : ((j + 1 : Nat) : Int) - 1 = (j : Int) := by omega
    rw [hi]
    have va := val_drop a j
    have vb := val_drop b j
    rw [h] at va
    by_cases h1 : dg a j < dg b j
    · have hlt := cut_cmp ha hb j (by omega)
      have e : sgn (val a - val b) = -1 := by unfold sgn; rw [if_pos (by omega)]
      rw [e]
      exact Ev.step (f := fun _ => some (-1)) (fun k => by rw [size_step a b j k (by omega), if_pos h1]) (Ev.now _)
    · by_cases h2 : dg a j > dg b j
      · have hlt := cut_cmp hb ha j (by omega)
        have e : sgn (val a - val b) = 1 := by unfold sgn; rw [if_neg (by omega), if_pos (by omega)]
        rw [e]
        exact Ev.step (f := fun _ => some 1) (fun k => by rw [size_step a b j k (by omega), if_neg h1, if_pos h2]) (Ev.now _)
      · refine Ev.step (f := fun k => cobwebref01_size.l0 k a b ((j : Int) - 1)) (fun k => by rw [size_step a b j k (by omega), if_neg h1, if_neg h2]) (ih (by omega) (by omega))
/-- Which of two rows is greater. -/
theorem size_ev {a b : List Int} (ha : Dig a) (hb : Dig b) (hl : max a.length b.length < 17592186044416) : Ev (fun k => cobwebref01_size.f k a b) (sgn (val a - val b)) := by
  have hmx : mx (a.length : Int) (b.length : Int) = ((max a.length b.length : Nat) : Int) := by simp only [mx]; split <;> omega
  refine Ev.congr (f := fun k => cobwebref01_size.l0 k a b (((max a.length b.length : Nat) : Int) - 1)) (fun k => ?_) (size_l0 ha hb _ hl ?_)
  · unfold cobwebref01_size.f
    rw [hmx, w64 (by omega) (by omega)]
  · rw [List.drop_eq_nil_of_le (by omega), List.drop_eq_nil_of_le (by omega)]
/-- A number as the document has it, of at most n digits. -/
theorem trim_num {neg : Bool} {l : List Int} {c : Bool × List Int} (h : Trim neg l c) : Num c (if neg = true then -val l else val l) l.length := by
  refine ⟨h.dig, h.top, fun e => ?_, ?_, h.len⟩
  · have := h.neg
    rw [e] at this
    intro h0
    rw [h0] at this
    simp at this
  · unfold sval
    rw [h.val, h.neg]
    by_cases h0 : c.2 = []
    · have hv := h.val
      rw [h0] at hv
      simp [val] at hv
      cases neg <;> simp [h0, ← hv]
    · cases neg <;> simp [h0]
end Go.Proofs.Ytglkjeeiiflpjaa.BN
end
