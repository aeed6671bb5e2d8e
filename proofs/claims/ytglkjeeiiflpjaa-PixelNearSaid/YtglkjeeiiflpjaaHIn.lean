/- grid.In: the walk. -/
import Derived.Test.YtglkjeeiiflpjaaFS
import Derived.Test.YtglkjeeiiflpjaaB2
namespace Go.Proofs.Ytglkjeeiiflpjaa.F
open Go.RowKit Go.Proofs.YtglkjeeiiflpjaaW.PrintWords Go.Proofs.YtglkjeeiiflpjaaW.PrintLast Go.Proofs.YtglkjeeiiflpjaaW.PrintMore
set_option linter.unusedVariables false
set_option linter.unusedSimpArgs false
/-- The most that a pixel's number may be on a rung. -/
def mostAt (k : Int) : Int := 134217728 / 2 ^ (mn (mx k 0) 28).toNat
def nearB (k n : Int) : Bool := decide (-(mostAt k) ≤ n) && decide (n ≤ mostAt k)
theorem mostAt_bounds (k : Int) : 0 ≤ mostAt k ∧ mostAt k ≤ 134217728 := by
  unfold mostAt
  have hp : (0 : Int) < 2 ^ (mn (mx k 0) 28).toNat := Int.pow_pos (by decide)
  exact ⟨Int.ediv_nonneg (by decide) (by omega), Int.ediv_le_self _ (by decide)⟩
set_option maxHeartbeats 1600000 in
set_option maxRecDepth 100000 in
theorem grid_In1.calls (n k : Int) (b : Nat) (w : World) (hc : w.cell? ⟨b, 0, none⟩ = some (.int .i64 k)) :
    Calls Try.prog 37 #[.int .i64 n, .pointer (some ⟨b, 0, none⟩)] w fun e w' => e = .returned (.bool (nearB k n)) ∧ Below w.heap.size w w' := by
  have HB := Aside0.mk (Below.refl w.heap.size w)
  have HG := Aside0.mk (fun W => grid_rung.calls k (mn (mx k 0) 28) W rfl)
  have hm := mostAt_bounds k
  have ew : wrap64 (-(mostAt k)) = -(mostAt k) := by unfold wrap64; omega
  have hg0 : 0 ≤ mn (mx k 0) 28 := by simp only [mn, mx]; split <;> split <;> omega
  have hg1 : mn (mx k 0) 28 ≤ 28 := by simp only [mn, mx]; split <;> split <;> omega
  have hM : mostAt k = 134217728 / 2 ^ (mn (mx k 0) 28).toNat := rfl
  generalize mn (mx k 0) 28 = g at *
  rw [hM] at hm ew
  by_cases c : -(134217728 / 2 ^ g.toNat) ≤ n
  · have cb : decide (n ≥ wrap64 (-(134217728 / 2 ^ g.toNat))) = true := decide_eq_true (by omega)
    have e : nearB k n = decide (n ≤ 134217728 / 2 ^ g.toNat) := by unfold nearB; rw [hM, decide_eq_true c]; rfl
    rw [e]
    clear hm ew c e hM
    go_enter Try.func37, Try.ntmps37
    go_wp2_with (go_at_call 38; (with_reducible refine (HG.out _).mono ?_); rintro e w2 ⟨rfl, hb⟩; have hc' := (hb.cell (World.block_lt_of_cell? _ _ hc)).trans hc; clear hc; have hc := hc'; clear hc'; have HB' := Aside0.mk (below_step HB.out hb); clear HB; have HB := HB'; clear HB' hb)
    go_ret
    exact ⟨by first | rfl | simp, HB.out⟩
  · have cb : decide (n ≥ wrap64 (-(134217728 / 2 ^ g.toNat))) = false := decide_eq_false (by omega)
    have e : nearB k n = false := by unfold nearB; rw [hM, decide_eq_false c]; rfl
    rw [e]
    clear hm ew c e hM
    go_enter Try.func37, Try.ntmps37
    go_wp2_with (go_at_call 38; (with_reducible refine (HG.out _).mono ?_); rintro e w2 ⟨rfl, hb⟩; have hc' := (hb.cell (World.block_lt_of_cell? _ _ hc)).trans hc; clear hc; have hc := hc'; clear hc'; have HB' := Aside0.mk (below_step HB.out hb); clear HB; have HB := HB'; clear HB' hb)
    go_ret
    exact ⟨by first | rfl | simp, HB.out⟩
def grid_In.f (qx qy k : Int) : Option Bool := some (nearB k qx && nearB k qy)
set_option maxHeartbeats 1600000 in
set_option maxRecDepth 100000 in
theorem grid_In.calls (qx qy k : Int) (r : Bool) (w : World) (h : grid_In.f qx qy k = some r) :
    Calls Try.prog 20 #[.agg #[.int .i64 qx, .int .i64 qy], .int .i64 k] w fun e w' => e = .returned (.bool r) ∧ Below w.heap.size w w' := by
  injection h with h
  subst h
  have C1 := Aside0.mk (fun b W h => grid_In1.calls qx k b W h)
  have C2 := Aside0.mk (fun b W h => grid_In1.calls qy k b W h)
  have HB := Aside0.mk (show Below w.heap.size w ((w.alloc (.cells #[.int .i64 qx, .int .i64 qy] 30)).alloc (.cells #[.int .i64 k] 3)) from (((Below.refl _ _).alloc (Nat.le_refl _) _).alloc (by simp) _))
  have x0 : ((w.alloc (.cells #[.int .i64 qx, .int .i64 qy] 30)).alloc (.cells #[.int .i64 k] 3)).cell? ⟨w.heap.size, 1, none⟩ = some (.int .i64 qy) := by go_simp
  have x1 : ((w.alloc (.cells #[.int .i64 qx, .int .i64 qy] 30)).alloc (.cells #[.int .i64 k] 3)).cell? ⟨w.heap.size + 1, 0, none⟩ = some (.int .i64 k) := by go_simp
  generalize nearB k qx = r1 at *
  generalize nearB k qy = r2 at *
  cases r1
  all_goals
    go_enter Try.func20, Try.ntmps20
    go_wp2_with fail
    generalize ((w.alloc (.cells #[.int .i64 qx, .int .i64 qy] 30)).alloc (.cells #[.int .i64 k] 3)) = w1 at HB x0 x1 ⊢
    go_wp2_with (first | (go_at_call 37; (with_reducible refine (C1.out _ _ x1).mono ?_); rintro e w2 ⟨rfl, hb⟩; have x0' := (hb.cell (World.block_lt_of_cell? _ _ x0)).trans x0; have x1' := (hb.cell (World.block_lt_of_cell? _ _ x1)).trans x1; clear x0 x1; have x0 := x0'; have x1 := x1'; clear x0' x1'; have HB' := Aside0.mk (below_step HB.out hb); clear HB; have HB := HB'; clear HB' hb) | (go_at_call 37; (with_reducible refine (C2.out _ _ x1).mono ?_); rintro e w2 ⟨rfl, hb⟩; have HB' := Aside0.mk (below_step HB.out hb); clear HB; have HB := HB'; clear HB' hb))
    go_ret
    exact ⟨by first | rfl | simp, HB.out⟩
end Go.Proofs.Ytglkjeeiiflpjaa.F
