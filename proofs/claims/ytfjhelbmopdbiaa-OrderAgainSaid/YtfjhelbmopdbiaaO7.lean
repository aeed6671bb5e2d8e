/- OrderAgain: in plain lists, and the walk as the row wants it. -/
import Derived.Test.YtfjhelbmopdbiaaO1
import Derived.Test.YtfjhelbmopdbiaaK7
import Derived.Test.YtfjhelbmopdbiaaR
namespace Go.Proofs.Ytfjhelbmopdbiaa.O1
open Go.RowKit Go.Proofs.Ytfjhelbmopdbiaa.F Go.Proofs.YtfjhelbmopdbiaaW.PrintWords Go.Proofs.YtfjhelbmopdbiaaW.PrintLast Go.Proofs.YtfjhelbmopdbiaaW.PrintMore Go.Proofs.Ytfjhelbmopdbiaa.Ord

theorem OrderAgain_pure (l : List S26) (x : S26) (h : l.length ≤ 150) : ∃ k s m, sortItem_9.f k l = some s ∧ cobwebref07_Item_14.f k s [x] = some m ∧ sortItem_9.f k s = some s ∧ sortItem_9.f k (l ++ [x]) = some m ∧
    cobwebref07_Item_13.f k m = some true ∧ cobwebref07_Item_14.f k s [] = some s ∧ cobwebref07_Item_14.f k [] s = some s ∧ cobweblaw07_same.f k s s = some true ∧ cobweblaw07_same.f k m m = some true := by
  obtain ⟨s, es, os⟩ := sort_f _ l (Nat.le_refl _) (by omega)
  have ls := os.len
  obtain ⟨t, et, ot⟩ := sort_f _ s (Nat.le_refl _) (by omega)
  obtain rfl : t = s := ot.unique swoI (SortOf.refl os.srt)
  have hx : SortOf ltI [x] [x] := SortOf.of_short (by simp)
  have om : SortOf ltI (l ++ [x]) (gmerge ltI t [x]) := os.merge swoI hx
  obtain ⟨u, eu, ou⟩ := sort_f _ (l ++ [x]) (Nat.le_refl _) (by simp only [List.length_append, List.length_singleton]; omega)
  obtain rfl : u = gmerge ltI t [x] := ou.unique swoI om
  have lm := om.len
  rw [List.length_append, List.length_singleton] at lm
  have em := merge_f t [x] (by simp only [List.length_singleton]; omega)
  have ei := is_f (gmerge ltI t [x]) (by omega)
  rw [okFrom_sorted om.srt _ 0 (by omega)] at ei
  have er := merge_f t [] (by simp only [List.length_nil]; omega)
  have el := merge_f [] t (by simp only [List.length_nil]; omega)
  rw [gmerge_nil_right] at er
  rw [gmerge_nil_left] at el
  obtain ⟨K1, h1⟩ := es
  obtain ⟨K2, h2⟩ := em
  obtain ⟨K3, h3⟩ := et
  obtain ⟨K4, h4⟩ := eu
  obtain ⟨K5, h5⟩ := ei
  obtain ⟨K6, h6⟩ := er
  obtain ⟨K7, h7⟩ := el
  obtain ⟨K8, h8⟩ := same_refl t (by omega)
  obtain ⟨K9, h9⟩ := same_refl (gmerge ltI t [x]) (by omega)
  refine ⟨K1 + K2 + K3 + K4 + K5 + K6 + K7 + K8 + K9, t, gmerge ltI t [x], h1 _ (by omega), h2 _ (by omega), h3 _ (by omega), h4 _ (by omega), h5 _ (by omega), h6 _ (by omega), h7 _ (by omega), h8 _ (by omega), h9 _ (by omega)⟩
end Go.Proofs.Ytfjhelbmopdbiaa.O1
namespace Go.Proofs.Ytfjhelbmopdbiaa.R
open Go.RowKit Go.Proofs.Ytfjhelbmopdbiaa.F Go.Proofs.YtfjhelbmopdbiaaW.PrintWords
def mk7 (x : List Int) : S26 := ⟨x.getD 0 0, x.getD 1 0⟩
theorem mk7_K (w : World) (x : List Int) (h : x.length = 2) : k26.K w (mk7 x) (x.map (Value.int .i64)) := by
  match x, h with
  | [a, b], _ => exact k26_mk w ⟨a, b⟩
theorem OrderAgain_walk (a : Option Addr) (len cap : Nat) (xs : List (List Int)) (x0 x1 : Int) (w : World) (h : IsRows w 2 a len cap xs) (_ : len * 16 ≤ 140737488351232) (_ : (Lit.int .i64 x0).wf = true) (_ : (Lit.int .i64 x1).wf = true) :
    Calls Try.prog 7 #[.slice a len cap, .agg #[.int .i64 x0, .int .i64 x1]] w fun e w' => e = .returned (.bool true) ∧ Below w.heap.size w w' := by
  have hr := h.reads mk7 rfl (mk7_K w)
  have hc : (xs.map mk7).length ≤ cap := by simp only [List.length_map]; have := h.1; have := h.2.1; omega
  have hl : (xs.map mk7).length = len := by simp only [List.length_map]; exact h.1
  by_cases hn : 150 < len
  · exact OrderAgain_long a len cap x0 x1 w hn
  · obtain ⟨k, s, m, e1, e2, e3, e4, e5, e6, e7, e8, e9⟩ := O1.OrderAgain_pure (xs.map mk7) ⟨x0, x1⟩ (by rw [hl]; omega)
    have := OrderAgain_calls k a cap (xs.map mk7) s m x0 x1 e1 e2 e3 e4 e5 e6 e7 e8 e9 w hr hc (by rw [hl]; omega)
    rw [hl] at this
    exact this
end Go.Proofs.Ytfjhelbmopdbiaa.R
