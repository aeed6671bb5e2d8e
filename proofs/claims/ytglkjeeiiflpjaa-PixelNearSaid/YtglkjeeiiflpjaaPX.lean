/- What is left of a segment when it is cut at lines: of fractions. -/
import Derived.Test.YtglkjeeiiflpjaaB2
namespace Go.Proofs.Ytglkjeeiiflpjaa.PxM
structure Bd where
  n : Int
  d : Int
  i : Bool
def less (a b : Bd) : Bool := decide (a.n * b.d < b.n * a.d)
structure Rest where
  fr : Bd
  up : Bd
  none : Bool
def after (r : Rest) (x : Bd) : Rest :=
  if less r.fr x then { r with fr := x } else if !less x r.fr then { r with fr := { r.fr with i := r.fr.i && x.i } } else r
def upto (r : Rest) (x : Bd) : Rest :=
  if less x r.up then { r with up := x } else if !less r.up x then { r with up := { r.up with i := r.up.i && x.i } } else r
def some (r : Rest) : Bool := !r.none && (less r.fr r.up || !less r.up r.fr && r.fr.i && r.up.i)
def cut (r : Rest) (fr dy limit : Int) (i : Bool) : Rest :=
  if 0 < dy then after r ⟨limit - fr, dy, i⟩
  else if dy < 0 then upto r ⟨-(limit - fr), -dy, i⟩
  else if limit - fr > 0 || (limit - fr == 0 && !i) then { r with none := true } else r
def Bd.v (b : Bd) : Rat := (b.n : Rat) / (b.d : Rat)
def Bd.ge (b : Bd) (t : Rat) : Prop := b.v < t ∨ (b.v = t ∧ b.i = true)   -- t is from b on
def Bd.le (b : Bd) (t : Rat) : Prop := t < b.v ∨ (t = b.v ∧ b.i = true)
def Rest.holds (r : Rest) (t : Rat) : Prop := r.none = false ∧ r.fr.ge t ∧ r.up.le t
def Rest.ok (r : Rest) : Prop := 0 < r.fr.d ∧ 0 < r.up.d

theorem less_iff {a b : Bd} (ha : 0 < a.d) (hb : 0 < b.d) : less a b = true ↔ a.v < b.v := by
  unfold less Bd.v
  have ha' : (0 : Rat) < (a.d : Rat) := by exact_mod_cast ha
  have hb' : (0 : Rat) < (b.d : Rat) := by exact_mod_cast hb
  rw [decide_eq_true_iff, Rat.div_lt_iff ha', Rat.div_def, Rat.mul_assoc, Rat.mul_comm _ (a.d : Rat), ← Rat.mul_assoc, ← Rat.div_def, Rat.lt_div_iff hb']
  rw [← Rat.intCast_mul, ← Rat.intCast_mul, Rat.intCast_lt_intCast]
theorem less_iff' {a b : Bd} (ha : 0 < a.d) (hb : 0 < b.d) : less a b = false ↔ b.v ≤ a.v := by
  rw [← Bool.not_eq_true, less_iff ha hb, Rat.not_lt]

def T (x lim : Rat) (i : Bool) : Prop := lim < x ∨ (lim = x ∧ i = true)

theorem after_holds {r : Rest} {x : Bd} (hr : r.ok) (hx : 0 < x.d) (t : Rat) : (after r x).holds t ↔ r.holds t ∧ x.ge t := by
  unfold after
  have h1 := less_iff hr.1 hx
  have h2 := less_iff hx hr.1
  unfold Rest.holds Bd.ge
  by_cases a : less r.fr x = true
  · simp only [a, if_true]; rw [h1] at a; grind
  · by_cases b : less x r.fr = true
    · simp only [a, b]; rw [h2] at b; rw [h1] at a; simp; grind
    · simp only [a, b]; rw [h2] at b; rw [h1] at a; simp
      have e : r.fr.v = x.v := by grind
      simp only [Bd.v] at *; grind
theorem upto_holds {r : Rest} {x : Bd} (hr : r.ok) (hx : 0 < x.d) (t : Rat) : (upto r x).holds t ↔ r.holds t ∧ x.le t := by
  unfold upto
  have h1 := less_iff hx hr.2
  have h2 := less_iff hr.2 hx
  unfold Rest.holds Bd.le
  by_cases a : less x r.up = true
  · simp only [a, if_true]; rw [h1] at a; grind
  · by_cases b : less r.up x = true
    · simp only [a, b]; rw [h2] at b; rw [h1] at a; simp; grind
    · simp only [a, b]; rw [h2] at b; rw [h1] at a; simp
      have e : r.up.v = x.v := by grind
      simp only [Bd.v] at *; grind
theorem after_ok {r : Rest} {x : Bd} (hr : r.ok) (hx : 0 < x.d) : (after r x).ok := by
  unfold after; split
  · exact ⟨hx, hr.2⟩
  · split
    · exact ⟨hr.1, hr.2⟩
    · exact hr
theorem upto_ok {r : Rest} {x : Bd} (hr : r.ok) (hx : 0 < x.d) : (upto r x).ok := by
  unfold upto; split
  · exact ⟨hr.1, hx⟩
  · split
    · exact ⟨hr.1, hr.2⟩
    · exact hr
theorem cut_ok {r : Rest} (hr : r.ok) (f d l : Int) (i : Bool) : (cut r f d l i).ok := by
  unfold cut; split
  · exact after_ok hr (by simpa)
  · split
    · exact upto_ok hr (by simp; omega)
    · split <;> exact hr
theorem key {f d l v t : Rat} (hd : 0 < d) (e : v * d = l - f) (i : Bool) : (v < t ∨ (v = t ∧ i = true)) ↔ T (f + d * t) l i := by
  unfold T
  obtain h | h | h : v < t ∨ v = t ∨ t < v := by grind
  · have p : 0 < (t - v) * d := Rat.mul_pos (by grind) hd
    have q : l < f + d * t := by grind
    constructor <;> intro _ <;> exact .inl (by assumption)
  · subst h
    have q : l = f + d * v := by grind
    constructor
    · rintro (h | ⟨_, h⟩)
      · grind
      · exact .inr ⟨q, h⟩
    · rintro (h | ⟨_, h⟩)
      · grind
      · exact .inr ⟨rfl, h⟩
  · have p : 0 < (v - t) * d := Rat.mul_pos (by grind) hd
    have q : f + d * t < l := by grind
    constructor <;> (rintro (h | ⟨h, _⟩) <;> grind)
theorem key' {f d l v t : Rat} (hd : d < 0) (e : v * d = l - f) (i : Bool) : (t < v ∨ (t = v ∧ i = true)) ↔ T (f + d * t) l i := by
  have h := key (f := f) (d := -d) (l := l) (v := -v) (t := -t) (by grind) (by grind) i
  have e2 : f + -d * -t = f + d * t := by grind
  rw [e2] at h
  rw [← h]
  constructor <;> (rintro (h | ⟨h, hi⟩) <;> grind)
/-- what a cut leaves: the places whose number is on the right side -/
theorem cut_holds {r : Rest} (hr : r.ok) (f d l : Int) (i : Bool) (t : Rat) :
    (cut r f d l i).holds t ↔ r.holds t ∧ T ((f : Rat) + (d : Rat) * t) (l : Rat) i := by
  unfold cut
  by_cases h : 0 < d
  · rw [if_pos h, after_holds hr (by simpa)]
    have hd : (0 : Rat) < (d : Rat) := by exact_mod_cast h
    have e : (⟨l - f, d, i⟩ : Bd).v * d = l - f := by
      simp only [Bd.v]; rw [Rat.div_mul_cancel (by grind)]; push_cast; rfl
    rw [← key hd e i]
    exact Iff.rfl
  · rw [if_neg h]
    by_cases h2 : d < 0
    · rw [if_pos h2, upto_holds hr (by simp; omega)]
      have hd : (d : Rat) < (0 : Rat) := by exact_mod_cast h2
      have e : (⟨-(l - f), -d, i⟩ : Bd).v * d = l - f := by
        simp only [Bd.v]
        have : ((-d : Int) : Rat) ≠ 0 := by push_cast; grind
        have e2 := Rat.div_mul_cancel (a := ((-(l - f) : Int) : Rat)) this
        push_cast at e2 ⊢
        grind
      rw [← key' hd e i]
      exact Iff.rfl
    · rw [if_neg h2]
      obtain rfl : d = 0 := by omega
      unfold T
      have e : (f : Rat) + ((0 : Int) : Rat) * t = f := by push_cast; grind
      rw [e]
      split
      · rename_i hc
        simp only [Bool.or_eq_true, decide_eq_true_eq, Bool.and_eq_true, beq_iff_eq, Bool.not_eq_true'] at hc
        constructor
        · rintro ⟨h1, _⟩; cases h1
        · rintro ⟨_, h1 | ⟨h1, h3⟩⟩
          · have : l < f := by exact_mod_cast h1
            omega
          · have : l = f := by exact_mod_cast h1
            rcases hc with hc | ⟨_, hc⟩
            · omega
            · rw [hc] at h3; cases h3
      · rename_i hc
        simp only [Bool.or_eq_true, decide_eq_true_eq, Bool.and_eq_true, beq_iff_eq, Bool.not_eq_true', not_or, not_and, Bool.not_eq_false] at hc
        refine ⟨fun h => ⟨h, ?_⟩, fun h => h.1⟩
        by_cases h3 : l - f = 0
        · exact .inr ⟨by have : l = f := by omega
                         exact_mod_cast this, by simpa using hc.2 h3⟩
        · exact .inl (by have : l < f := by omega
                         exact_mod_cast this)
theorem some_iff {r : Rest} (hr : r.ok) : some r = true ↔ ∃ t, r.holds t := by
  unfold some Rest.holds Bd.ge Bd.le
  have h1 := less_iff hr.1 hr.2
  have h2 := less_iff hr.2 hr.1
  constructor
  · intro h
    simp only [Bool.and_eq_true, Bool.or_eq_true, Bool.not_eq_true'] at h
    obtain ⟨hn, h | ⟨⟨h, a⟩, b⟩⟩ := h
    · rw [h1] at h
      exact ⟨(r.fr.v + r.up.v) / 2, hn, .inl (by grind), .inl (by grind)⟩
    · rw [less_iff' hr.2 hr.1] at h
      by_cases e : r.fr.v = r.up.v
      · exact ⟨r.fr.v, hn, .inr ⟨rfl, a⟩, .inr ⟨e, b⟩⟩
      · exact ⟨(r.fr.v + r.up.v) / 2, hn, .inl (by grind), .inl (by grind)⟩
  · rintro ⟨t, hn, a, b⟩
    simp only [Bool.and_eq_true, Bool.or_eq_true, Bool.not_eq_true']
    refine ⟨hn, ?_⟩
    rw [h1, less_iff' hr.2 hr.1]
    grind
end Go.Proofs.Ytglkjeeiiflpjaa.PxM
