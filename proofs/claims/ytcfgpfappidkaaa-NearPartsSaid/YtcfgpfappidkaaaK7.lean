/- NearParts: the walk, as its row wants it. -/
import Derived.Test.YtcfgpfappidkaaaR
import Derived.Test.YtcfgpfappidkaaaNP
namespace Go.Proofs.Ytcfgpfappidkaaa.R
open Go.RowKit Go.Proofs.Ytcfgpfappidkaaa.F Go.Proofs.YtcfgpfappidkaaaW.PrintWords
set_option linter.unusedVariables false
def mk31' (x : List Int) : S31 := ⟨⟨x.getD 0 0, x.getD 1 0⟩, x.getD 2 0⟩
theorem mk31_K' (w : World) (x : List Int) (h : x.length = 3) : k31.K w (mk31' x) (x.map (Value.int .i64)) := by
  match x, h with
  | [a, b, c], _ => exact k31_mk w ⟨⟨a, b⟩, c⟩
theorem min_of {w : World} {a : Option Addr} {len cap : Nat} {xs : List (List Int)} (h : IsRows w 3 a len cap xs) : ∀ e ∈ xs.map mk31', -9223372036854775808 ≤ e.f0.f1 := by
  intro e he
  obtain ⟨x, hx, rfl⟩ := List.mem_map.1 he
  obtain ⟨h1, h2⟩ := h.2.2.2.1 x hx
  match x, h1, h2 with
  | [p, q, r], _, h2 => exact (wf_bounds (h2 q (by simp))).1
theorem NearParts_walk (a : Option Addr) (len cap : Nat) (xs : List (List Int)) (lx ly hx hy at_ : Int) (w : World) (h : IsRows w 3 a len cap xs) (_ : len * 24 ≤ 140737488351232) (h1 : (Lit.int .i64 lx).wf = true) (_ : (Lit.int .i64 ly).wf = true) (_ : (Lit.int .i64 hx).wf = true) (_ : (Lit.int .i64 hy).wf = true) (h5 : (Lit.int .i64 at_).wf = true) :
    Calls Try.prog 7 #[.slice a len cap, .agg #[.int .i64 lx, .int .i64 ly, .int .i64 hx, .int .i64 hy], .int .i64 at_] w fun e w' => e = .returned (.bool true) ∧ Below w.heap.size w w' := by
  have hr := h.reads mk31' rfl (mk31_K' w)
  have hc : (xs.map mk31').length ≤ cap := by simp only [List.length_map]; have := h.1; have := h.2.1; omega
  have hl : (xs.map mk31').length = len := by simp only [List.length_map]; exact h.1
  have := nearParts.walk a cap (xs.map mk31') lx ly hx hy at_ w hr hc (min_of h) (wf_bounds h1).1 (wf_bounds h5).2
  rw [hl] at this
  exact this
end Go.Proofs.Ytcfgpfappidkaaa.R
