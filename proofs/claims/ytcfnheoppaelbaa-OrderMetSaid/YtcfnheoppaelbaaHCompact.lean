/- slices.Compact at []int by the shelf's contract, laid in plain words; order.Unique at int over it. -/
import Derived.Ground.Names2Prog
import Derived.Shelf.Slices.CompactI
import Derived.Test.YtcfnheoppaelbaaHClone
namespace Go.Proofs.Ytcfnheoppaelbaa.F
open Go.RowKit Go.Proofs.YtcfnheoppaelbaaW.PrintWords Go.Proofs.YtcfnheoppaelbaaW.PrintLast Go.Proofs.YtcfnheoppaelbaaW.PrintMore
set_option linter.unusedVariables false
set_option linter.unusedSimpArgs false
section
open Go.Shelf
def laysCompact_ren : Go.Shelf.Ren := ⟨fun | 20 => 27 | n => n, fun | 22 => 40 | 3 => 3 | 4 => 4 | 0 => 0 | n => n, fun | n => n⟩
theorem laysCompact : Go.Proofs.Lays2.n20 Try.prog laysCompact_ren := {
  mixed := by kernel_rfl
  f20 := Try.func27.trans (congrArg some (by kernel_rfl))
  t0 := Try.underlying0
  a0 := Try.isAgg0
  z0 := Try.sizeOf0
  v0 := Try.zeroValue0
  t3 := Try.underlying3
  a3 := Try.isAgg3
  z3 := Try.sizeOf3
  v3 := Try.zeroValue3
  t4 := Try.underlying4
  a4 := Try.isAgg4
  z4 := Try.sizeOf4
  v4 := Try.zeroValue4
  t22 := Try.underlying40
  a22 := Try.isAgg40
  z22 := Try.sizeOf40
  v22 := Try.zeroValue40
  i3 := by kernel_rfl }
end
open Go.Lib in
theorem compact_len (zs : List Int) : (compact zs).length ≤ zs.length := by
  unfold compact compactUpTo
  rw [List.length_map]
  refine Nat.le_trans (List.length_filter_le _ _) ?_
  simp
theorem own_putRow {w : World} {base e g cap q m : Nat} {xs zs : List Int} (h : w.ownsRow base e 1 (.slice (some ⟨g, 0, none⟩) xs.length cap) xs.length (encs (Value.int .i64) xs)) (hp : 0 < xs.length) (hl : zs.length = xs.length) (hm : m ≤ xs.length) :
    (Go.Sort.putRow (Value.int .i64) (Go.Sort.ahead w q) g 0 zs.toArray).ownsRow base e 1 (.slice (some ⟨g, 0, none⟩) m cap) m (encs (Value.int .i64) (zs.take m)) := by
  obtain ⟨h1, h2⟩ := h
  refine ⟨by simp [encs]; omega, ?_⟩
  rcases h2 with ⟨h2, _⟩ | ⟨g', cap', cur, he, hb, hh, hn, hc, hs, ht⟩
  · simp at h2
  · simp only [Value.slice.injEq, Option.some.injEq, Addr.mk.injEq, and_true, true_and] at he
    obtain ⟨rfl, rfl⟩ := he
    refine .inr ⟨g, cap, Go.Sort.putCells (Value.int .i64) 0 zs.toArray cur, rfl, hb, ?_, by omega, hc, by simpa [Go.Sort.putCells] using hs, ?_⟩
    · show (Go.Sort.mapBlock (Go.Sort.ahead w q) g _).heap[g]? = _
      unfold Go.Sort.mapBlock
      simp only [Array.getElem?_modify, if_true]
      show Option.map _ w.heap[g]? = _
      rw [hh]
      rfl
    · apply List.ext_getElem
      · simp [Go.Sort.putCells, encs, hs]; omega
      · intro i a b
        have hi : i < m := by simp at a; omega
        simp [Go.Sort.putCells, encs, hl]
        rw [if_pos (by omega)]
        simp [List.getElem?_eq_getElem (show i < zs.length by omega)]
theorem below_putRow {w0 w : World} {B g q : Nat} (h : Below B w0 w) (hg : B ≤ g) (zs : Array Int) : Below B w0 (Go.Sort.putRow (Value.int .i64) (Go.Sort.ahead w q) g 0 zs) := by
  refine h.trans ⟨rfl, rfl, rfl, by simp [Go.Sort.ahead], fun k hk => ?_⟩
  show (Go.Sort.mapBlock (Go.Sort.ahead w q) g _).heap[k]? = _
  unfold Go.Sort.mapBlock
  rw [Array.getElem?_modify, if_neg (by omega)]
  rfl
def order_Unique_int.f (l0 : List Int) : Option (List Int) := if l0.length < 17592186044416 then some (Go.Lib.compact l0) else none
set_option maxHeartbeats 800000 in
set_option maxRecDepth 100000 in
theorem order_Unique_int.calls (A0 : Option Addr) (c0 : Nat) (l0 : List Int) (r : List Int) (w : World) (hr0 : Kd.C (Kd.int .i64) w A0 l0.length l0) (hc0 : l0.length ≤ c0) (h : order_Unique_int.f l0 = some r) :
    Calls Try.prog 16 #[.slice A0 l0.length c0] w fun e w' => ∃ v0_ : Value, e = .returned (v0_) ∧ Kd.R (Kd.int .i64) 3 w' w.heap.size (fun _ => True) v0_ r ∧ Below w.heap.size w w' := by
  unfold order_Unique_int.f at h
  split at h
  · rename_i hl
    injection h with h
    subst h
    have H := Aside0.mk (show int_int_26.f l0 = some l0 by unfold int_int_26.f; rw [if_pos hl])
    have HR := Aside0.mk hr0
    have HC := Aside0.mk hc0
    have HL := Aside0.mk hl
    clear hl hr0 hc0
    go_enter Try.func16, Try.ntmps16
    go_wp2_with (go_at_call 26; (with_reducible refine (int_int_26.calls _ _ l0 l0 _ HR.out HC.out H.out).mono ?_); rintro e w1 ⟨v1, rfl, ho, hb⟩; have HO := Aside0.mk ho; have HB := Aside0.mk hb; clear ho hb)
    rcases Nat.eq_zero_or_pos l0.length with h0 | h0
    · obtain rfl : l0 = [] := List.eq_nil_of_length_eq_zero h0
      obtain ⟨A1, c1, e1⟩ := Kd.R_slice HO.out
      subst e1
      clear h0
      have hK := Any.slices_Compact_int_empty laysCompact A1 c1 w1
      change Calls Try.prog 27 _ _ _ at hK
      have HK := Aside0.mk hK
      clear hK
      (try simp only [List.length_nil])
      go_wp2_with (go_at_call 27; (with_reducible refine HK.out.mono ?_); rintro e w2 ⟨rfl, rfl⟩)
      go_ret
      exact ⟨_, rfl, HO.out, HB.out⟩
    · obtain ⟨g, cap, e1, hg1, hg2, cells, hg3⟩ := Kd.R_form HO.out h0
      subst e1
      have hcap := (Kd.R_reads' HO.out).2.1
      have hH : Go.Sort.Holds (Value.int .i64) w1 g 0 l0.toArray := by
        intro j hj
        have hj' : j < l0.length := by simpa using hj
        have hc := Kd.R_cell (0 : Int) HO.out (j : Int) (by omega) (by omega)
        simp only [Int.toNat_natCast] at hc
        rw [Nat.zero_add, getElem!_pos _ j hj]
        have e : rdOf (0 : Int) l0 (j : Int) = l0.toArray[j] := by simp [rdOf, List.getD_eq_getElem?_getD, List.getElem?_eq_getElem hj']
        rw [← e]
        exact hc
      have hlt := HL.out
      have hK := Any.slices_Compact_int laysCompact g 0 cap l0 w1 hH (by omega) hcap
      change Calls Try.prog 27 _ _ _ at hK
      have HK := Aside0.mk hK
      have HP := Aside0.mk h0
      have HG := Aside0.mk hg1
      clear hK hH hcap hlt h0 hg1 hg2 hg3
      go_wp2_with (go_at_call 27; (with_reducible refine HK.out.mono ?_); rintro e w2 ⟨rfl, q, hw⟩; have HW := Aside0.mk hw; clear hw)
      go_ret
      have hl := compact_len l0
      refine ⟨_, rfl, ?_, ?_⟩
      · rw [HW.out]
        have ho := own_putRow (q := q) (m := (Go.Lib.compact l0).length) (zs := Go.Lib.compact l0 ++ List.replicate (l0.length - (Go.Lib.compact l0).length) 0) (Kd.own_of_R HO.out) HP.out (by simp; omega) hl
        rw [List.take_left' rfl] at ho
        exact Kd.R_of_own ho (fun _ _ => trivial)
      · rw [HW.out]
        exact below_putRow HB.out HG.out _
  · cases h
end Go.Proofs.Ytcfnheoppaelbaa.F
