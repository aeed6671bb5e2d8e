/- OrderMerges, in plain lists. -/
import Derived.Test.YtfjhelbmopdbiaaO1
import Derived.Test.YtfjhelbmopdbiaaF4
namespace Go.Proofs.Ytfjhelbmopdbiaa.O1
open Go.RowKit Go.Proofs.Ytfjhelbmopdbiaa.F Go.Proofs.YtfjhelbmopdbiaaW.PrintWords Go.Proofs.YtfjhelbmopdbiaaW.PrintLast Go.Proofs.YtfjhelbmopdbiaaW.PrintMore Go.Proofs.Ytfjhelbmopdbiaa.Ord

theorem OrderMerges_pure (a b : List S26) : ∃ k, cobweblaw07_OrderMerges.f k a b = some true := by
  by_cases ha : (a.length : Int) > 100
  · refine ⟨1, ?_⟩
    simp only [cobweblaw07_OrderMerges.f, cobweblaw07_OrderMerges.j0]
    rw [if_pos ha, if_pos trivial]; rfl
  by_cases hb : (b.length : Int) > 100
  · refine ⟨1, ?_⟩
    simp only [cobweblaw07_OrderMerges.f, cobweblaw07_OrderMerges.j0]
    rw [if_neg ha, if_pos (by simpa using hb)]; rfl
  obtain ⟨x, ex, ox⟩ := ref_sort a (by omega)
  obtain ⟨y, ey, oy⟩ := ref_sort b (by omega)
  have lx := ox.len
  have ly := oy.len
  obtain ⟨z, ez, oz⟩ := ref_sort (x ++ y) (by simp only [List.length_append]; omega)
  have hm : SortOf ltI (x ++ y) (gmerge ltI x y) := (SortOf.refl ox.srt).merge swoI (SortOf.refl oy.srt)
  have hz : gmerge ltI x y = z := hm.unique swoI oz
  have lz : z.length = (x ++ y).length := oz.len
  rw [List.length_append] at lz
  refine Ev.rounds (Ev.congr (f := fun k => cobweblaw07_OrderMerges.j0 k a b false) (fun k => ?_) ?_)
  · simp only [cobweblaw07_OrderMerges.f]
    rw [if_neg ha, decide_eq_false hb]
  refine Ev.step (fun k => by simp only [cobweblaw07_OrderMerges.j0]; rw [if_neg (by simp)]) ?_
  refine Ev.bind ex (Ev.bind ey ?_)
  have c1 : x.length < 8796093022208 := by omega
  have c2 : y.length < 8796093022208 := by omega
  have c3 : x.length + y.length < 8796093022208 := by omega
  simp only [Option.bind_some, List.nil_append, List.length_nil, Nat.zero_add, c1, c2, c3, if_true, cobweblaw07_alive.f]
  refine Ev.bind (merge_f x y (by omega)) (Ev.bind ez ?_)
  rw [hz]
  refine Ev.bind (same_refl z (by omega)) ?_
  simp only [if_true]
  refine Ev.bind (same_refl x (by omega)) ?_
  simp only [if_true]
  exact Ev.bind (same_refl y (by omega)) (Ev.now true)
end Go.Proofs.Ytfjhelbmopdbiaa.O1
