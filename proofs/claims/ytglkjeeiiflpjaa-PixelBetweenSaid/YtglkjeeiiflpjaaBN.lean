/- The document's numbers of any size: what their rows of digits mean. -/
import Derived.Test.YtglkjeeiiflpjaaF31
import Derived.Test.YtglkjeeiiflpjaaF36
import Derived.Test.YtglkjeeiiflpjaaF44
import Derived.Test.YtglkjeeiiflpjaaF51
import Derived.Test.YtglkjeeiiflpjaaF52
namespace Go.Proofs.Ytglkjeeiiflpjaa.BN
open Go.RowKit Go.Proofs.Ytglkjeeiiflpjaa.F Go.Proofs.YtglkjeeiiflpjaaW.PrintWords Go.Proofs.YtglkjeeiiflpjaaW.PrintLast Go.Proofs.YtglkjeeiiflpjaaW.PrintMore
theorem w64 {x : Int} (h0 : -9223372036854775808 ≤ x) (h1 : x ≤ 9223372036854775807) : wrap64 x = x := by unfold wrap64; omega
/-- The number of a row of digits, the lowest first. -/
def val : List Int → Int
  | [] => 0
  | d :: l => d + 10000 * val l
def Dig (l : List Int) : Prop := ∀ d ∈ l, 0 ≤ d ∧ d ≤ 9999
def sval (c : Bool × List Int) : Int := if c.1 = true then -val c.2 else val c.2
/-- A number as the document has it. -/
structure Num (c : Bool × List Int) (v : Int) (n : Nat) : Prop where
  dig : Dig c.2
  top : ∀ d, c.2.getLast? = some d → d ≠ 0
  sgn : c.1 = true → c.2 ≠ []
  val : sval c = v
  len : c.2.length ≤ n
theorem Dig.nil : Dig [] := fun d h => by cases h
theorem Dig.cons {d : Int} {l : List Int} (h0 : 0 ≤ d) (h1 : d ≤ 9999) (h : Dig l) : Dig (d :: l) := by
  intro x hx
  rcases List.mem_cons.1 hx with rfl | hx
  · exact ⟨h0, h1⟩
  · exact h x hx
theorem Dig.append {l m : List Int} (h : Dig l) (h' : Dig m) : Dig (l ++ m) := by
  intro x hx
  rcases List.mem_append.1 hx with hx | hx
  · exact h x hx
  · exact h' x hx
theorem Dig.one {d : Int} (h0 : 0 ≤ d) (h1 : d ≤ 9999) : Dig [d] := Dig.nil.cons h0 h1
theorem val_append (l m : List Int) : val (l ++ m) = val l + 10000 ^ l.length * val m := by
  induction l with
  | nil => simp [val]
  | cons d l ih =>
    simp only [List.cons_append, val, ih, List.length_cons, Int.pow_succ]
    rw [Int.mul_add, Int.mul_comm (10000 ^ l.length) 10000, Int.mul_assoc, Int.add_assoc]
theorem val_snoc (l : List Int) (d : Int) : val (l ++ [d]) = val l + 10000 ^ l.length * d := by rw [val_append]; simp [val]
theorem val_nonneg {l : List Int} (h : Dig l) : 0 ≤ val l := by
  induction l with
  | nil => simp [val]
  | cons d l ih =>
    have h1 := h d List.mem_cons_self
    have h2 := ih fun x hx => h x (List.mem_cons_of_mem _ hx)
    simp only [val]
    omega
/-- A digit of a row; 0 beyond it. -/
def dg (l : List Int) (j : Nat) : Int := l.getD j 0
theorem dg_dig {l : List Int} (h : Dig l) (j : Nat) : 0 ≤ dg l j ∧ dg l j ≤ 9999 := by
  unfold dg
  rw [List.getD_eq_getElem?_getD]
  by_cases hj : j < l.length
  · rw [List.getElem?_eq_getElem hj]
    exact h _ (List.getElem_mem hj)
  · rw [List.getElem?_eq_none (by omega)]
    simp
theorem digit_eq (l : List Int) (j : Nat) : cobwebref01_digit.f l (j : Int) = some (dg l j) := by
  unfold cobwebref01_digit.f dg
  by_cases hj : j < l.length
  · rw [if_pos (by omega), if_pos (by omega)]
    simp [rd]
  · rw [if_neg (by omega), List.getD_eq_getElem?_getD, List.getElem?_eq_none (by omega)]
    rfl
theorem val_drop (l : List Int) (j : Nat) : val (l.drop j) = dg l j + 10000 * val (l.drop (j + 1)) := by
  unfold dg
  by_cases hj : j < l.length
  · rw [List.drop_eq_getElem_cons hj]
    simp [val, List.getD_eq_getElem?_getD, List.getElem?_eq_getElem hj]
  · rw [List.drop_eq_nil_of_le (by omega), List.drop_eq_nil_of_le (by omega), List.getD_eq_getElem?_getD, List.getElem?_eq_none (by omega)]
    simp [val]
theorem carry {c x y : Int} (hc : c = 0 ∨ c = 1) (hx : 0 ≤ x ∧ x ≤ 9999) (hy : 0 ≤ y ∧ y ≤ 9999) :
    wrap64 (c + x) = c + x ∧ wrap64 (c + x + y) = c + x + y ∧ Int.tmod (c + x + y) 10000 = (c + x + y) % 10000 ∧ Int.tdiv (c + x + y) 10000 = (c + x + y) / 10000 ∧ wrap64 ((c + x + y) / 10000) = (c + x + y) / 10000 ∧
      (0 ≤ (c + x + y) % 10000 ∧ (c + x + y) % 10000 ≤ 9999) ∧ ((c + x + y) / 10000 = 0 ∨ (c + x + y) / 10000 = 1) := by
  have hs : 0 ≤ c + x + y := by omega
  exact ⟨w64 (by omega) (by omega), w64 (by omega) (by omega), Int.tmod_eq_emod_of_nonneg hs, Int.tdiv_eq_ediv_of_nonneg hs, w64 (by omega) (by omega), by omega, by omega⟩
theorem dg_out {l : List Int} {j : Nat} (h : l.length ≤ j) : dg l j = 0 := by unfold dg; rw [List.getD_eq_getElem?_getD, List.getElem?_eq_none h]; rfl
theorem plus_j1 {a b : List Int} (ha : Dig a) (hb : Dig b) {c : Int} (hc : c = 0 ∨ c = 1) (out : List Int) (j k : Nat) (hout : out.length < 17592186044416) (hj : j < 17592186044416) :
    cobwebref01_plus.j1 (k + 1) a b out c (j : Int) true = cobwebref01_plus.l0 k a b (out ++ [(c + dg a j + dg b j) % 10000]) ((c + dg a j + dg b j) / 10000) ((j + 1 : Nat) : Int) := by
  obtain ⟨w1, w2, m1, m2, w4, _, _⟩ := carry hc (dg_dig ha j) (dg_dig hb j)
  have w3 : wrap64 ((j : Int) + 1) = ((j + 1 : Nat) : Int) := by rw [w64 (by omega) (by omega)]; rfl
  rw [cobwebref01_plus.j1, if_pos rfl, digit_eq, digit_eq]
  unfold cobwebref01_base.f
  simp only [Option.bind_some]
  rw [if_neg (by decide), if_pos hout, if_neg (by decide), w1, w2, w3, m1, m2, w4]
theorem plus_l0 {a b : List Int} (ha : Dig a) (hb : Dig b) {M : Nat} (hM : M = max a.length b.length) (hl : M ≤ 1000000) : ∀ (d j : Nat) (out : List Int) (c : Int), M + 1 - j = d → j ≤ M + 1 → out.length = j → Dig out → (c = 0 ∨ c = 1) → (j = M + 1 → c = 0) →
    ∃ R, Ev (fun k => cobwebref01_plus.l0 k a b out c (j : Int)) R ∧ Dig R ∧ R.length ≤ M + 1 ∧ val R = val out + 10000 ^ j * (c + val (a.drop j) + val (b.drop j)) := by
  intro d
  have hmx : mx (a.length : Int) (b.length : Int) = (M : Int) := by simp only [mx]; split <;> omega
  induction d with
  | zero =>
    intro j out c hd hj ho hdo hc hc0
    have e : j = M + 1 := by omega
    have hc' := hc0 e
    subst hc'
    refine ⟨out, ?_, hdo, by omega, ?_⟩
    · refine Ev.step (f := fun k => cobwebref01_plus.j1 k a b out 0 (j : Int) false) (fun k => ?_) (Ev.step (f := fun _ => some out) (fun k => ?_) (Ev.now _))
      · simp only [cobwebref01_plus.l0, hmx]
        rw [if_neg (by omega)]
        rfl
      · simp only [cobwebref01_plus.j1]
        rw [if_neg (by decide)]
    · rw [List.drop_eq_nil_of_le (by omega), List.drop_eq_nil_of_le (by omega)]
      simp [val]
  | succ d ih =>
    intro j out c hd hj ho hdo hc hc0
    by_cases hgo : j < M ∨ c = 1
    · have da := dg_dig ha j
      have db := dg_dig hb j
      obtain ⟨w1, w2, m1, m2, w4, k1, k2⟩ := carry hc da db
      have hol : out.length < 17592186044416 := by clear k1 k2 da db w1 w2 m1 m2 w4; omega
      have hjl : j < 17592186044416 := by clear k1 k2 da db w1 w2 m1 m2 w4; omega
      obtain ⟨R, hR, h1, h2, h3⟩ := ih (j + 1) (out ++ [(c + dg a j + dg b j) % 10000]) ((c + dg a j + dg b j) / 10000) (by clear k1 k2 da db w1 w2 m1 m2 w4; omega) (by clear k1 k2 da db w1 w2 m1 m2 w4; omega) (by simp [ho]) (hdo.append (Dig.one k1.1 k1.2)) k2 (fun e => by
        have hja : a.length ≤ j := by clear k1 k2 da db w1 w2 m1 m2 w4; omega
        have hjb : b.length ≤ j := by clear k1 k2 da db w1 w2 m1 m2 w4; omega
        rw [dg_out hja, dg_out hjb]
        rcases hc with rfl | rfl <;> decide)
      refine ⟨R, ?_, h1, h2, ?_⟩
      · refine Ev.step (f := fun k => cobwebref01_plus.j1 k a b out c (j : Int) true) (fun k => ?_) (Ev.step (fun k => ?_) hR)
        · simp only [cobwebref01_plus.l0, hmx]
          by_cases hjm : j < M
          · rw [if_pos (by omega)]
          · rw [if_neg (by omega), decide_eq_true (show c > 0 by omega)]
        · exact (plus_j1 ha hb hc out j k hol hjl).symm ▸ rfl
      · rw [h3, val_snoc, ho, val_drop a j, val_drop b j, Int.pow_succ]
        have e := Int.emod_add_mul_ediv (c + dg a j + dg b j) 10000
        generalize (c + dg a j + dg b j) % 10000 = x at *
        generalize (c + dg a j + dg b j) / 10000 = y at *
        generalize val (a.drop (j + 1)) = A at *
        generalize val (b.drop (j + 1)) = B at *
        generalize (10000 : Int) ^ j = P at *
        clear da db w1 w2 m1 m2 w4 k1 k2
        generalize dg a j = p at *
        generalize dg b j = q at *
        have e2 : c + (p + 10000 * A) + (q + 10000 * B) = x + 10000 * (y + A + B) := by omega
        rw [e2, Int.mul_add P x, ← Int.mul_assoc P 10000, Int.add_assoc]
    · have hj' : M ≤ j := by omega
      have hc' : c = 0 := by omega
      subst hc'
      refine ⟨out, ?_, hdo, by omega, ?_⟩
      · refine Ev.step (f := fun k => cobwebref01_plus.j1 k a b out 0 (j : Int) false) (fun k => ?_) (Ev.step (f := fun _ => some out) (fun k => ?_) (Ev.now _))
        · simp only [cobwebref01_plus.l0, hmx]
          rw [if_neg (by omega)]
          rfl
        · simp only [cobwebref01_plus.j1]
          rw [if_neg (by decide)]
      · rw [List.drop_eq_nil_of_le (by omega), List.drop_eq_nil_of_le (by omega)]
        simp [val]
theorem plus_ev {a b : List Int} (ha : Dig a) (hb : Dig b) (hl : max a.length b.length ≤ 1000000) :
    ∃ R, Ev (fun k => cobwebref01_plus.f k a b) R ∧ Dig R ∧ R.length ≤ max a.length b.length + 1 ∧ val R = val a + val b := by
  obtain ⟨R, h, h1, h2, h3⟩ := plus_l0 ha hb rfl hl _ 0 [] 0 rfl (by omega) rfl Dig.nil (.inl rfl) (by omega)
  refine ⟨R, h, h1, h2, ?_⟩
  rw [h3]
  simp [val]
end Go.Proofs.Ytglkjeeiiflpjaa.BN
