/- NearAll, walked by hand. Conditions: none beyond the law's own guard. -/
import Derived.Test.YtcfgpfappidkaaaN8
namespace Go.Proofs.Ytcfgpfappidkaaa.F
open Go.RowKit Go.Proofs.YtcfgpfappidkaaaW.PrintWords Go.Proofs.YtcfgpfappidkaaaW.PrintLast Go.Proofs.YtcfgpfappidkaaaW.PrintMore
set_option linter.unusedVariables false
set_option linter.unusedSimpArgs false

set_option maxHeartbeats 8000000 in
set_option maxRecDepth 100000 in
theorem nearAll.walk (A : Option Addr) (c : Nat) (l : List S31) (w : World) (hr : Kd.C k31 w A l.length l) (hc : l.length ≤ c) :
    Calls Try.prog 3 #[.slice A l.length c] w fun e w' => e = .returned (.bool true) ∧ Below w.heap.size w w' := by
  by_cases hl : l.length > 120
  · have hd : decide ((l.length : Int) > 120) = true := decide_eq_true (by omega)
    have hd2 : decide (120 < l.length) = true := decide_eq_true hl
    have hd3 : decide (l.length > 120) = true := decide_eq_true hl
    clear hr hc hl
    go_enter Try.func3, Try.ntmps3
    go_wp2_with (go_at_call 8; (with_reducible refine (alive_b _).mono ?_); rintro e w2 ⟨rfl, hb⟩; have B2 := Aside0.mk hb)
    go_ret
    exact ⟨rfl, B2.out⟩
  · have hd : decide ((l.length : Int) > 120) = false := decide_eq_false (by omega)
    have hd2 : decide (120 < l.length) = false := decide_eq_false hl
    have hd3 : decide (l.length > 120) = false := decide_eq_false hl
    obtain ⟨n, hn⟩ : ∃ n, n = l.length := ⟨_, rfl⟩
    have HN := Aside0.mk hn
    rw [← hn] at hl hd hd2 hd3 ⊢
    have HL := Aside0.mk (Nat.le_of_not_lt hl)
    have HC := Aside0.mk hr
    have I0 := Aside0.mk (Idx.new w)
    clear hr hc hl hn
    go_enter Try.func3, Try.ntmps3
    go_wp2_with fail
    go_loopg [4, 16] n (fun kx s4 s16 wr => ∃ (k : Nat) (s : Value) (L : List S31), s16 = .int .i64 k ∧ k ≤ n ∧ n - k ≤ kx ∧ Aside0 (Idx w wr w.heap.size s (rows L)) ∧ Aside0 (Kd.R k31 31 wr w.heap.size (fun _ => True) s4 L) ∧ Aside0 (Rising (rows L)) ∧ Aside0 (L.length ≤ k))
    case atStart => exact ⟨0, .slice none 0 0, [], rfl, Nat.zero_le _, by omega, I0, ⟨Kd.R_nil _ _ _ _ _⟩, ⟨List.Pairwise.nil⟩, ⟨Nat.le_refl _⟩⟩
    case round =>
      clear I0 hd hd2 hd3
      obtain ⟨k, s, L, rfl, hkm, hkx, HI, HO, HS, HLL⟩ := hrel
      by_cases hk : k < n
      · have hdk : decide ((k : Int) < (n : Int)) = true := decide_eq_true (Int.ofNat_lt.2 hk)
        have q1 : (0 ≤ (k : Int)) = True := eq_true (Int.natCast_nonneg k)
        have q2 : ((k : Int) < (n : Int)) = True := eq_true (Int.ofNat_lt.2 hk)
        obtain ⟨ad, e1, ee⟩ := entR_of HC.out (k : Int) (Int.natCast_nonneg k) (by rw [← HN.out]; exact Int.ofNat_lt.2 hk)
        cases e1
        rw [Int.toNat_natCast] at ee
        have EE := ee.below (b := w.heap.size) HI.out.bel ee.lt
        have c0 := EE.c0
        have c1 := EE.c1
        have c2 := EE.c2
        generalize rd_T31 l (k : Int) = y at EE c0 c1 c2 ee
        have hw : IntKind.i64.wrap ((k : Int) + 1) = (k : Int) + 1 := by rw [i64_w]; exact w64_succ k (Nat.lt_of_lt_of_le hk (Nat.le_trans HL.out (by decide)))
        have HKK := Aside0.mk hk
        have HLT : Aside0 (L.length < 200) := ⟨by have := HLL.out; have := HL.out; omega⟩
        obtain ⟨z, hz⟩ : ∃ z, z = has (rows L) y.f0.f0 y.f0.f1 := ⟨_, rfl⟩
        obtain ⟨rk, hrk⟩ : ∃ k, k = rank (rows L) y.f0.f0 y.f0.f1 := ⟨_, rfl⟩
        have hG := Get_eq L y.f0.f0 y.f0.f1 HS.out (Nat.lt_trans HLT.out (by decide))
        have hG2 : getR L y.f0.f0 y.f0.f1 = if z = true then (rk : Int) else -1 := by unfold getR; rw [← hz, ← hrk]
        rw [hG2] at hG
        have HG := Aside0.mk hG
        have HP : Aside0 (∀ (s : Value) (W : World), IdxAt W w.heap.size s (rows L) → Calls Try.prog 11 #[.pointer (some ⟨w.heap.size, 0, none⟩), .agg #[.int .i64 y.f0.f0, .int .i64 y.f0.f1], .int .i64 y.f1] W (PutPost w.heap.size s (rows L) W z (rows (putR L y.f0.f0 y.f0.f1 y.f1)))) :=
          ⟨fun s W h => by rw [hz, ← putL_rows HS.out]; exact near_Put.calls w.heap.size s (rows L) y.f0.f0 y.f0.f1 y.f1 W h HS.out (fits_rows (by have := HLT.out; omega))⟩
        have hb1 := below_alloc (Below.refl wr.heap.size wr) (.cells #[.int .i64 y.f0.f0, .int .i64 y.f0.f1, .int .i64 y.f1] 31)
        have HBX := Aside0.mk (show BoxE (wr.alloc (.cells #[.int .i64 y.f0.f0, .int .i64 y.f0.f1, .int .i64 y.f1] 31)) wr.heap.size y from heap_alloc_new wr _)
        have I1 := Aside0.mk (HI.out.below hb1)
        have O1 := Aside0.mk (Kd.R_below HO.out hb1)
        obtain ⟨A5, c5, e5⟩ := Kd.R_slice O1.out
        subst e5
        have b0 := HBX.out.c0
        have b1 := HBX.out.c1
        have b2 := HBX.out.c2
        have q3 : decide ((rk : Int) ≥ 0) = true := decide_eq_true (Int.natCast_nonneg rk)
        clear EE ee hk hb1 HI HO hz hrk hG hG2
        cases z
        · rw [if_neg (by decide)] at HG
          clear q3
          go_wp2_with fail
          generalize wr.alloc (.cells #[.int .i64 y.f0.f0, .int .i64 y.f0.f1, .int .i64 y.f1] 31) = w1 at HBX I1 O1 b0 b1 b2 ⊢
          generalize wr.heap.size = gE at HBX b0 b1 b2 ⊢
          clear c0 c1 c2
          refine (cobwebref08_Get.calls (L.length + 1) A5 c5 L y.f0.f0 y.f0.f1 _ w1 (Kd.R_reads' O1.out).2.2 (Kd.R_reads' O1.out).2.1 HG.out).mono ?_
          rintro e w2 ⟨rfl, hb⟩
          have I2 := Aside0.mk (I1.out.below hb)
          have O2 := Aside0.mk (Kd.R_below O1.out hb)
          have B2 := Aside0.mk (HBX.out.below hb)
          clear b0 b1 b2 hb I1 O1 HBX
          have b0 := B2.out.c0
          have b1 := B2.out.c1
          have b2 := B2.out.c2
          go_wp2_with fail
          refine (cobwebref08_Put.calls (L.length + L.length + 2) A5 c5 L y.f0.f0 y.f0.f1 y.f1 _ w2 (Kd.R_reads' O2.out).2.2 (Kd.R_reads' O2.out).2.1 (Put_eq L _ _ _ (Nat.lt_trans HLT.out (by decide)))).mono ?_
          rintro e w3 ⟨v3, rfl, ho, hb⟩
          have I3 := Aside0.mk (I2.out.below hb)
          have B3 := Aside0.mk (B2.out.below hb)
          have O3 := Aside0.mk (Kd.R_lower ho I2.out.bel.size)
          clear b0 b1 b2 hb ho I2 O2 B2
          obtain ⟨A3, c3, e3⟩ := Kd.R_slice O3.out
          subst e3
          have b0 := B3.out.c0
          have b1 := B3.out.c1
          have b2 := B3.out.c2
          go_wp2_with fail
          refine (HP.out s w3 I3.out.ix).mono ?_
          rintro e w4 hp
          obtain ⟨s2, rfl, hi, hk, ha⟩ := I3.out.put hp
          have I4 := Aside0.mk hi
          have O4 := Aside0.mk (R31_keep O3.out I3.out.ix hk)
          clear b0 b1 b2 hp hi hk ha O3 I3 B3
          go_wp2_with fail
          refine (near_Len.calls w.heap.size s2 _ w4 I4.out.ix).mono ?_
          rw [rows_len]
          rintro e w4' ⟨rfl, e4⟩
          subst e4
          go_wp2_with fail
          refine (near_All.calls w.heap.size s2 _ _ I4.out.ix (fits_rows (Nat.lt_of_le_of_lt (putR_len HS.out y.f0.f0 y.f0.f1 y.f1) (by have := HLT.out; omega)))).mono ?_
          rintro e w5 ⟨v5, rfl, ho5, hb⟩
          have I5 := Aside0.mk (I4.out.below hb)
          have O5 := Aside0.mk (Kd.R_below O4.out hb)
          obtain ⟨A6, c6, e6⟩ := Kd.R_slice ho5
          subst e6
          have R5 := Aside0.mk ho5
          clear hb ho5 I4 O4
          go_wp2_with fail
          refine (cobweblaw08_same.calls ((putR L y.f0.f0 y.f0.f1 y.f1).length + 1) A6 c6 (rows (putR L y.f0.f0 y.f0.f1 y.f1)) A3 c3 (putR L y.f0.f0 y.f0.f1 y.f1) true w5 (Kd.R_reads' R5.out).2.2 (Kd.R_reads' R5.out).2.1 (Kd.R_reads' O5.out).2.2 (Kd.R_reads' O5.out).2.1 (same_eq _ (Nat.lt_of_le_of_lt (putR_len HS.out y.f0.f0 y.f0.f1 y.f1) (by have := HLT.out; omega)))).mono ?_
          rintro e w6 ⟨rfl, hb⟩
          have I6 := Aside0.mk (I5.out.below hb)
          have O6 := Aside0.mk (Kd.R_below O5.out hb)
          clear hb I5 O5 R5
          go_wp2_with fail
          go_roundg (n - (k + 1))
          case measure => have := HKK.out; omega
          case rel => exact ⟨k + 1, s2, putR L y.f0.f0 y.f0.f1 y.f1, by first | rfl | simp, HKK.out, Nat.le_refl _, I6, O6, ⟨rising_putR HS.out _ _ _⟩, ⟨by have := putR_len HS.out y.f0.f0 y.f0.f1 y.f1; have := HLL.out; omega⟩⟩
        · rw [if_pos rfl] at HG
          go_wp2_with fail
          generalize wr.alloc (.cells #[.int .i64 y.f0.f0, .int .i64 y.f0.f1, .int .i64 y.f1] 31) = w1 at HBX I1 O1 b0 b1 b2 ⊢
          generalize wr.heap.size = gE at HBX b0 b1 b2 ⊢
          clear c0 c1 c2
          refine (cobwebref08_Get.calls (L.length + 1) A5 c5 L y.f0.f0 y.f0.f1 _ w1 (Kd.R_reads' O1.out).2.2 (Kd.R_reads' O1.out).2.1 HG.out).mono ?_
          rintro e w2 ⟨rfl, hb⟩
          have I2 := Aside0.mk (I1.out.below hb)
          have O2 := Aside0.mk (Kd.R_below O1.out hb)
          have B2 := Aside0.mk (HBX.out.below hb)
          clear b0 b1 b2 hb I1 O1 HBX
          have b0 := B2.out.c0
          have b1 := B2.out.c1
          have b2 := B2.out.c2
          go_wp2_with fail
          refine (cobwebref08_Put.calls (L.length + L.length + 2) A5 c5 L y.f0.f0 y.f0.f1 y.f1 _ w2 (Kd.R_reads' O2.out).2.2 (Kd.R_reads' O2.out).2.1 (Put_eq L _ _ _ (Nat.lt_trans HLT.out (by decide)))).mono ?_
          rintro e w3 ⟨v3, rfl, ho, hb⟩
          have I3 := Aside0.mk (I2.out.below hb)
          have B3 := Aside0.mk (B2.out.below hb)
          have O3 := Aside0.mk (Kd.R_lower ho I2.out.bel.size)
          clear b0 b1 b2 hb ho I2 O2 B2
          obtain ⟨A3, c3, e3⟩ := Kd.R_slice O3.out
          subst e3
          have b0 := B3.out.c0
          have b1 := B3.out.c1
          have b2 := B3.out.c2
          go_wp2_with fail
          refine (HP.out s w3 I3.out.ix).mono ?_
          rintro e w4 hp
          obtain ⟨s2, rfl, hi, hk, ha⟩ := I3.out.put hp
          have I4 := Aside0.mk hi
          have O4 := Aside0.mk (R31_keep O3.out I3.out.ix hk)
          clear b0 b1 b2 hp hi hk ha O3 I3 B3
          go_wp2_with fail
          refine (near_Len.calls w.heap.size s2 _ w4 I4.out.ix).mono ?_
          rw [rows_len]
          rintro e w4' ⟨rfl, e4⟩
          subst e4
          go_wp2_with fail
          refine (near_All.calls w.heap.size s2 _ _ I4.out.ix (fits_rows (Nat.lt_of_le_of_lt (putR_len HS.out y.f0.f0 y.f0.f1 y.f1) (by have := HLT.out; omega)))).mono ?_
          rintro e w5 ⟨v5, rfl, ho5, hb⟩
          have I5 := Aside0.mk (I4.out.below hb)
          have O5 := Aside0.mk (Kd.R_below O4.out hb)
          obtain ⟨A6, c6, e6⟩ := Kd.R_slice ho5
          subst e6
          have R5 := Aside0.mk ho5
          clear hb ho5 I4 O4
          go_wp2_with fail
          refine (cobweblaw08_same.calls ((putR L y.f0.f0 y.f0.f1 y.f1).length + 1) A6 c6 (rows (putR L y.f0.f0 y.f0.f1 y.f1)) A3 c3 (putR L y.f0.f0 y.f0.f1 y.f1) true w5 (Kd.R_reads' R5.out).2.2 (Kd.R_reads' R5.out).2.1 (Kd.R_reads' O5.out).2.2 (Kd.R_reads' O5.out).2.1 (same_eq _ (Nat.lt_of_le_of_lt (putR_len HS.out y.f0.f0 y.f0.f1 y.f1) (by have := HLT.out; omega)))).mono ?_
          rintro e w6 ⟨rfl, hb⟩
          have I6 := Aside0.mk (I5.out.below hb)
          have O6 := Aside0.mk (Kd.R_below O5.out hb)
          clear hb I5 O5 R5
          go_wp2_with fail
          go_roundg (n - (k + 1))
          case measure => have := HKK.out; omega
          case rel => exact ⟨k + 1, s2, putR L y.f0.f0 y.f0.f1 y.f1, by first | rfl | simp, HKK.out, Nat.le_refl _, I6, O6, ⟨rising_putR HS.out _ _ _⟩, ⟨by have := putR_len HS.out y.f0.f0 y.f0.f1 y.f1; have := HLL.out; omega⟩⟩
      · have hdk : decide ((k : Int) < (n : Int)) = false := decide_eq_false (fun h => hk (Int.ofNat_lt.1 h))
        have hdk2 : decide (k < n) = false := decide_eq_false hk
        clear hk
        go_wp2_with (go_at_call 8; (with_reducible refine (alive_b _).mono ?_); rintro e w2 ⟨rfl, hb⟩; have B2 := Aside0.mk (below_step HI.out.bel hb))
        go_ret
        exact ⟨rfl, B2.out⟩
end Go.Proofs.Ytcfgpfappidkaaa.F
