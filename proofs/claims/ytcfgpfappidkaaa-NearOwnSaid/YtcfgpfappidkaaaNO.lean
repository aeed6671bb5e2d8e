/- NearOwn, walked by hand. Conditions: the entries' numbers are those of 64 bits. -/
import Derived.Test.YtcfgpfappidkaaaN8
namespace Go.Proofs.Ytcfgpfappidkaaa.F
open Go.RowKit Go.Proofs.YtcfgpfappidkaaaW.PrintWords Go.Proofs.YtcfgpfappidkaaaW.PrintLast Go.Proofs.YtcfgpfappidkaaaW.PrintMore
set_option linter.unusedVariables false
set_option linter.unusedSimpArgs false

theorem R52_keep {w w' : World} {bx base : Nat} {s s' u : Value} {l L : List S52} (h : Kd.R k52 52 w base (fun _ => True) u L) (ha : ∀ k, u.ownBlock = some k → some k ≠ s.ownBlock) (hI : IdxAt w bx s l) (hk : Keeps w w' bx s.ownBlock) (hat : s'.ownBlock = s.ownBlock ∨ ∃ b, s'.ownBlock = some b ∧ w.heap.size ≤ b) :
    Kd.R k52 52 w' base (fun _ => True) u L ∧ ∀ k, u.ownBlock = some k → some k ≠ s'.ownBlock := by
  refine ⟨R_keep rfl h hk (fun k hv => by obtain ⟨cells, hc⟩ := Kd.R_typed h k hv; exact blk_ne hc hI.blk (by decide)) ha, fun k hv => ?_⟩
  rcases hat with hat | ⟨b, hat, hb⟩
  · rw [hat]; exact ha k hv
  · rw [hat]
    intro e
    injection e with e
    have := Kd.R_lt h k hv
    omega
theorem copy_keep {w w' : World} {bx gc : Nat} {s s' v : Value} {l L : List S52} (h : IdxAt w gc v L) (hne : gc ≠ bx) (ha : ∀ k, v.ownBlock = some k → some k ≠ s.ownBlock) (hI : IdxAt w bx s l) (hk : Keeps w w' bx s.ownBlock) (hat : s'.ownBlock = s.ownBlock ∨ ∃ b, s'.ownBlock = some b ∧ w.heap.size ≤ b) :
    IdxAt w' gc v L ∧ ∀ k, v.ownBlock = some k → some k ≠ s'.ownBlock := by
  obtain ⟨h1, h2⟩ := R52_keep h.row ha hI hk hat
  exact ⟨⟨(hk.blk gc h.lt hne (Kd.R_ne hI.row h.blk (by decide))).trans h.blk, h1, h.ne⟩, h2⟩
theorem apart_new {w w' : World} {bx : Nat} {s u : Value} {l L : List S52} (hI : IdxAt w bx s l) (h : Kd.R k52 52 w' w.heap.size (fun _ => True) u L) : ∀ k, u.ownBlock = some k → some k ≠ s.ownBlock := fun k hv e => by
  have h1 := Kd.R_base h k hv
  have h2 := Kd.R_lt hI.row k e.symm
  omega
theorem rising_put {l : List S52} (h : Rising l) (qx qy v : Int) : Rising (putL l qx qy v) := by rw [putL_eq qx qy v _ h]; exact rising_putN h qx qy v
theorem fits_le {l : List S52} {n : Nat} (h : l.length ≤ n) (hn : n < 1099511627776) : Fits l := Nat.lt_of_le_of_lt h hn
set_option maxHeartbeats 16000000 in
set_option maxRecDepth 100000 in
theorem nearOwn.walk (A : Option Addr) (c : Nat) (l : List S31) (mx my mv : Int) (w : World) (hr : Kd.C k31 w A l.length l) (hc : l.length ≤ c) (hmin : ∀ e ∈ l, -9223372036854775808 ≤ e.f0.f1) :
    Calls Try.prog 6 #[.slice A l.length c, .agg #[.int .i64 mx, .int .i64 my, .int .i64 mv]] w fun e w' => e = .returned (.bool true) ∧ Below w.heap.size w w' := by
  have hb01 := below_alloc (Below.refl _ w) (.cells #[.int .i64 mx, .int .i64 my, .int .i64 mv] 31)
  have HB1 := Aside0.mk hb01
  have M1 := Aside0.mk (show BoxE (w.alloc (.cells #[.int .i64 mx, .int .i64 my, .int .i64 mv] 31)) w.heap.size ⟨⟨mx, my⟩, mv⟩ from heap_alloc_new w _)
  by_cases hl : l.length > 120
  · have hd : decide ((l.length : Int) > 120) = true := decide_eq_true (by omega)
    have hd2 : decide (120 < l.length) = true := decide_eq_true hl
    have hd3 : decide (l.length > 120) = true := decide_eq_true hl
    clear hr hc hl hb01 hmin
    go_enter Try.func6, Try.ntmps6
    go_wp2_with (go_at_call 8; (with_reducible refine (alive_b _).mono ?_); rintro e w2 ⟨rfl, hb⟩; have B2 := Aside0.mk (below_step HB1.out hb))
    go_ret
    exact ⟨rfl, B2.out⟩
  · have hd : decide ((l.length : Int) > 120) = false := decide_eq_false (by omega)
    have hd2 : decide (120 < l.length) = false := decide_eq_false hl
    have hd3 : decide (l.length > 120) = false := decide_eq_false hl
    have HL := Aside0.mk (Nat.le_of_not_lt hl)
    have HC := Aside0.mk (Kd.C_below hr hb01)
    have Hc := Aside0.mk hc
    obtain ⟨L, hL⟩ : ∃ L, L = putsR l := ⟨_, rfl⟩
    have HLE := Aside0.mk hL
    have HS := Aside0.mk (show Rising (rows L) by rw [hL]; exact puts_rising l)
    have HLN := Aside0.mk (show L.length ≤ 120 by rw [hL]; exact Nat.le_trans (puts_len l) (Nat.le_of_not_lt hl))
    obtain ⟨M, hM⟩ : ∃ M, M = inR L (-1099511627776) (-1099511627776) 1099511627776 1099511627776 := ⟨_, rfl⟩
    have HML := Aside0.mk (show M.length ≤ 120 by rw [hM]; exact Nat.le_trans (List.length_filter_le _ _) HLN.out)
    have HIN := Aside0.mk (show inL (rows L) (-1099511627776) (-1099511627776) 1099511627776 1099511627776 = rows M by rw [hM, inL_rows L _ _ _ _ HS.out (by rw [hL]; exact puts_min l hmin)])
    have HRI := Aside0.mk (show cobwebref08_In.f (L.length + 1) L (-1099511627776) (-1099511627776) 1099511627776 1099511627776 = some M by rw [hM]; exact In_eq L _ _ _ _ (Nat.lt_of_le_of_lt HLN.out (by decide)))
    clear hr hc hl hL hM hmin hb01
    go_enter Try.func6, Try.ntmps6
    go_wp2_with fail
    generalize w.alloc (.cells #[.int .i64 mx, .int .i64 my, .int .i64 mv] 31) = w1 at HB1 M1 HC ⊢
    refine (made.calls A c l w1 HC.out Hc.out HL.out).mono ?_
    rw [← HLE.out]
    rintro e w2 ⟨bx, s, v2, rfl, hi, ho⟩
    obtain ⟨A2, c2, rfl⟩ := Kd.R_slice ho
    have I2 := Aside0.mk hi
    have O2 := Aside0.mk ho
    have M2 := Aside0.mk (M1.out.below hi.bel)
    have HB2 := Aside0.mk (show w.heap.size ≤ w1.heap.size from HB1.out.size)
    clear hi ho M1 HC
    go_wp2_with fail
    refine (near_Copy.calls bx s (rows L) w2 I2.out.ix (fits_rows (by have := HLN.out; omega))).mono ?_
    rintro e w3 ⟨v3, rfl, ho3, hb⟩
    have D3 := Aside0.mk (apart_new I2.out.ix ho3)
    have K3 := Aside0.mk ho3
    have I3 := Aside0.mk (I2.out.below hb)
    have O3 := Aside0.mk (Kd.R_below O2.out hb)
    have M3 := Aside0.mk (M2.out.below hb)
    clear hb ho3 I2 O2 M2
    obtain ⟨A3, c3, rfl⟩ := Kd.R_slice K3.out
    go_wp2_with fail
    refine (near_All.calls bx s (rows L) w3 I3.out.ix (fits_rows (by have := HLN.out; omega))).mono ?_
    rintro e w4 ⟨v4, rfl, ho4, hb⟩
    have P4 := Aside0.mk (apart_new I3.out.ix ho4)
    have U4 := Aside0.mk ho4
    have D4 := D3
    have K4 := Aside0.mk (Kd.R_below K3.out hb)
    have I4 := Aside0.mk (I3.out.below hb)
    have O4 := Aside0.mk (Kd.R_below O3.out hb)
    have M4 := Aside0.mk (M3.out.below hb)
    clear hb ho4 I3 O3 M3 D3 K3
    obtain ⟨A4, c4, rfl⟩ := Kd.R_slice U4.out
    go_wp2_with fail
    refine (near_In.calls bx s (rows L) (-1099511627776) (-1099511627776) 1099511627776 1099511627776 w4 I4.out.ix HS.out (fits_rows (by have := HLN.out; omega))).mono ?_
    rw [HIN.out]
    rintro e w5 ⟨v5, rfl, ho5, hb⟩
    have Q5 := Aside0.mk (apart_new I4.out.ix ho5)
    have V5 := Aside0.mk ho5
    have P5 := P4
    have U5 := Aside0.mk (Kd.R_below U4.out hb)
    have D5 := D4
    have K5 := Aside0.mk (Kd.R_below K4.out hb)
    have I5 := Aside0.mk (I4.out.below hb)
    have O5 := Aside0.mk (Kd.R_below O4.out hb)
    have M5 := Aside0.mk (M4.out.below hb)
    clear hb ho5 I4 O4 M4 D4 K4 P4 U4
    obtain ⟨A5, c5, rfl⟩ := Kd.R_slice V5.out
    go_wp2_with fail
    have hb6 := below_alloc (Below.refl w5.heap.size w5) (.cells #[.slice A3 (rows L).length c3] 27)
    have C6 : Aside0 (IdxAt (w5.alloc (.cells #[.slice A3 (rows L).length c3] 27)) w5.heap.size (.slice A3 (rows L).length c3) (rows L)) := ⟨⟨heap_alloc_new w5 _, Kd.R_lower (Kd.R_below K5.out hb6) (Nat.zero_le _), fun e => by have := Kd.R_lt K5.out _ e.symm; exact absurd this (Nat.lt_irrefl _)⟩⟩
    have G6 : Aside0 (w5.heap.size ≠ bx) := ⟨Nat.ne_of_gt I5.out.ix.lt⟩
    have I6 := Aside0.mk (I5.out.below hb6)
    have O6 := Aside0.mk (Kd.R_below O5.out hb6)
    have M6 := Aside0.mk (M5.out.below hb6)
    have U6 := Aside0.mk (Kd.R_below U5.out hb6)
    have V6 := Aside0.mk (Kd.R_below V5.out hb6)
    have D6 := D5
    have P6 := P5
    have Q6 := Q5
    clear hb6 I5 O5 M5 U5 V5 D5 P5 Q5 K5
    generalize w5.alloc (.cells #[.slice A3 (rows L).length c3] 27) = w6 at C6 I6 O6 M6 U6 V6 ⊢
    generalize w5.heap.size = gc at C6 G6 ⊢
    refine (cobwebref08_In.calls (L.length + 1) A2 c2 L (-1099511627776) (-1099511627776) 1099511627776 1099511627776 M w6 (Kd.R_reads' O6.out).2.2 (Kd.R_reads' O6.out).2.1 HRI.out).mono ?_
    rintro e w7 ⟨v7, rfl, ho7, hb⟩
    have R7 := Aside0.mk ho7
    have C7 := Aside0.mk (C6.out.below hb)
    have G7 := G6
    have I7 := Aside0.mk (I6.out.below hb)
    have O7 := Aside0.mk (Kd.R_below O6.out hb)
    have M7 := Aside0.mk (M6.out.below hb)
    have U7 := Aside0.mk (Kd.R_below U6.out hb)
    have V7 := Aside0.mk (Kd.R_below V6.out hb)
    have D7 := D6
    have P7 := P6
    have Q7 := Q6
    clear hb ho7 I6 O6 M6 U6 V6 D6 P6 Q6 C6 G6
    obtain ⟨A7, c7, rfl⟩ := Kd.R_slice R7.out
    have S7 := HS
    have N7 := Aside0.mk (show (rows L).length ≤ 120 by rw [rows_len]; exact HLN.out)
    have F7 := Aside0.mk (fits_le N7.out (by decide))
    have m0 := M7.out.c0
    have m1 := M7.out.c1
    have m2 := M7.out.c2
    go_wp2_with fail
    clear m0 m1 m2 M7
    refine (near_Put.calls bx _ (rows L) mx my mv _ I7.out.ix S7.out F7.out).mono ?_
    rintro e w8 hp
    obtain ⟨s8, rfl, hi, hk, hat⟩ := I7.out.put hp
    obtain ⟨q1, q2⟩ := R52_keep U7.out P7.out I7.out.ix hk hat
    obtain ⟨q3, q4⟩ := R52_keep V7.out Q7.out I7.out.ix hk hat
    obtain ⟨q5, q6⟩ := copy_keep C7.out G7.out D7.out I7.out.ix hk hat
    have I8 := Aside0.mk hi
    have U8 := Aside0.mk q1
    have P8 := Aside0.mk q2
    have V8 := Aside0.mk q3
    have Q8 := Aside0.mk q4
    have C8 := Aside0.mk q5
    have D8 := Aside0.mk q6
    have G8 := G7
    have O8 := Aside0.mk (R31_keep O7.out I7.out.ix hk)
    have R8 := Aside0.mk (R31_keep R7.out I7.out.ix hk)
    have S8 := Aside0.mk (rising_put S7.out mx my mv)
    have N8 := Aside0.mk (Nat.le_trans (putL_len (rows L) mx my mv) (Nat.succ_le_succ N7.out))
    have F8 := Aside0.mk (fits_le N8.out (by decide))
    generalize has (rows L) mx my = zz7
    clear hp hi hk hat q1 q2 q3 q4 q5 q6 I7 U7 P7 V7 Q7 C7 D7 G7 O7 R7 S7 N7 F7
    go_wp2_with fail
    refine (near_Put.calls bx _ (putL (rows L) mx my mv) (-1125899906842624) 0 1 _ I8.out.ix S8.out F8.out).mono ?_
    rintro e w9 hp
    obtain ⟨s9, rfl, hi, hk, hat⟩ := I8.out.put hp
    obtain ⟨q1, q2⟩ := R52_keep U8.out P8.out I8.out.ix hk hat
    obtain ⟨q3, q4⟩ := R52_keep V8.out Q8.out I8.out.ix hk hat
    obtain ⟨q5, q6⟩ := copy_keep C8.out G8.out D8.out I8.out.ix hk hat
    have I9 := Aside0.mk hi
    have U9 := Aside0.mk q1
    have P9 := Aside0.mk q2
    have V9 := Aside0.mk q3
    have Q9 := Aside0.mk q4
    have C9 := Aside0.mk q5
    have D9 := Aside0.mk q6
    have G9 := G8
    have O9 := Aside0.mk (R31_keep O8.out I8.out.ix hk)
    have R9 := Aside0.mk (R31_keep R8.out I8.out.ix hk)
    have S9 := Aside0.mk (rising_put S8.out (-1125899906842624) 0 1)
    have N9 := Aside0.mk (Nat.le_trans (putL_len (putL (rows L) mx my mv) (-1125899906842624) 0 1) (Nat.succ_le_succ N8.out))
    have F9 := Aside0.mk (fits_le N9.out (by decide))
    generalize has (putL (rows L) mx my mv) (-1125899906842624) 0 = zz8
    clear hp hi hk hat q1 q2 q3 q4 q5 q6 I8 U8 P8 V8 Q8 C8 D8 G8 O8 R8 S8 N8 F8
    generalize putL (putL (rows L) mx my mv) (-1125899906842624) 0 1 = X0 at I9 S9 N9 F9
    have IB9 := Aside0.mk I9.out.bel
    have IX9 := Aside0.mk I9.out.ix
    have BG := Aside0.mk I9.out.bx_ge
    have SG := Aside0.mk I9.out.s_ge
    obtain ⟨n, hn⟩ : ∃ n, n = L.length := ⟨_, rfl⟩
    have HN := Aside0.mk hn
    rw [← hn]
    clear hn IB9 IX9 BG SG
    go_wp2_with fail
    go_loopg [45] n (fun kx s45 wr => ∃ (k : Nat) (s : Value) (X : List S52), s45 = .int .i64 k ∧ k ≤ n ∧ n - k ≤ kx ∧ Aside0 (Idx w1 wr bx s X) ∧ Aside0 (Rising X) ∧ Aside0 (X.length ≤ 122 + k) ∧ Aside0 (Kd.R k31 31 wr w1.heap.size (fun _ => True) (.slice A2 L.length c2) L) ∧ Aside0 (∃ b, Kd.R k31 31 wr b (fun _ => True) (.slice A7 M.length c7) M) ∧
      Aside0 ((∃ b, Kd.R k52 52 wr b (fun _ => True) (.slice A4 (rows L).length c4) (rows L)) ∧ ∀ k, (Value.slice A4 (rows L).length c4).ownBlock = some k → some k ≠ s.ownBlock) ∧
      Aside0 ((∃ b, Kd.R k52 52 wr b (fun _ => True) (.slice A5 (rows M).length c5) (rows M)) ∧ ∀ k, (Value.slice A5 (rows M).length c5).ownBlock = some k → some k ≠ s.ownBlock) ∧
      Aside0 (IdxAt wr gc (.slice A3 (rows L).length c3) (rows L) ∧ ∀ k, (Value.slice A3 (rows L).length c3).ownBlock = some k → some k ≠ s.ownBlock))
    case atStart => exact ⟨0, s9, X0, rfl, Nat.zero_le _, by omega, I9, S9, N9, O9, ⟨_, R9.out⟩, ⟨⟨_, U9.out⟩, P9.out⟩, ⟨⟨_, V9.out⟩, Q9.out⟩, ⟨C9.out, D9.out⟩⟩
    case round =>
      clear I9 S9 N9 F9 O9 R9 U9 V9 C9 P9 Q9 D9
      obtain ⟨k, s, X, rfl, hkm, hkx, HI, HSX, HNX, HO, HRR, HU, HV, HCC⟩ := hrel
      by_cases hk : k < n
      · have hdk : decide ((k : Int) < (n : Int)) = true := decide_eq_true (Int.ofNat_lt.2 hk)
        have q1 : (0 ≤ (k : Int)) = True := eq_true (Int.natCast_nonneg k)
        have q2 : ((k : Int) < (n : Int)) = True := eq_true (Int.ofNat_lt.2 hk)
        obtain ⟨ad, e1, ee⟩ := entR_of (Kd.R_reads' HO.out).2.2 (k : Int) (Int.natCast_nonneg k) (by rw [← HN.out]; exact Int.ofNat_lt.2 hk)
        rw [Int.toNat_natCast] at ee
        have c0 := ee.c0
        have c1 := ee.c1
        have c2 := ee.c2
        generalize rd_T31 L (k : Int) = y at c0 c1 c2 ee
        have hw : IntKind.i64.wrap ((k : Int) + 1) = (k : Int) + 1 := by rw [i64_w]; exact w64_succ k (Nat.lt_of_lt_of_le hk (by rw [HN.out]; exact Nat.le_trans HLN.out (by decide)))
        have HKK := Aside0.mk hk
        have HNL : Aside0 (n ≤ 120) := ⟨by rw [HN.out]; exact HLN.out⟩
        have hb1 := below_alloc (Below.refl wr.heap.size wr) (.cells #[.int .i64 y.f0.f0, .int .i64 y.f0.f1, .int .i64 y.f1] 31)
        have HBX := Aside0.mk (show BoxE (wr.alloc (.cells #[.int .i64 y.f0.f0, .int .i64 y.f0.f1, .int .i64 y.f1] 31)) wr.heap.size y from heap_alloc_new wr _)
        have I1 := Aside0.mk (HI.out.below hb1)
        have O1 := Aside0.mk (Kd.R_below HO.out hb1)
        obtain ⟨r7, hr7⟩ := HRR.out
        have R1 := Aside0.mk (Kd.R_below hr7 hb1)
        obtain ⟨⟨r4, hr4⟩, hp4⟩ := HU.out
        have U1 := Aside0.mk (Kd.R_below hr4 hb1)
        have P1 := Aside0.mk hp4
        obtain ⟨⟨r5, hr5⟩, hp5⟩ := HV.out
        have V1 := Aside0.mk (Kd.R_below hr5 hb1)
        have Q1 := Aside0.mk hp5
        have C1 := Aside0.mk (HCC.out.1.below hb1)
        have D1 := Aside0.mk HCC.out.2
        have b0 := HBX.out.c0
        have b1 := HBX.out.c1
        have b2 := HBX.out.c2
        cases e1
        clear ee hk hb1 HI HO HRR HU HV HCC hr7 hr4 hp4 hr5 hp5
        go_wp2_with fail
        generalize wr.alloc (.cells #[.int .i64 y.f0.f0, .int .i64 y.f0.f1, .int .i64 y.f1] 31) = w11 at HBX I1 O1 R1 U1 V1 C1 b0 b1 b2 ⊢
        generalize wr.heap.size = gE at HBX b0 b1 b2 ⊢
        clear c0 c1 c2 b0 b1 b2
        generalize hv1 : IntKind.i64.wrap (y.f1 + 1) = y1
        clear hv1
        refine (near_Put.calls bx s X y.f0.f0 y.f0.f1 _ w11 I1.out.ix HSX.out (fits_le (n := 400) (by have := HNX.out; have := HKK.out; have := HNL.out; omega) (by decide))).mono ?_
        rintro e w12 hp
        obtain ⟨s2, rfl, hi, hk, hat⟩ := I1.out.put hp
        obtain ⟨p1, p2⟩ := R52_keep U1.out P1.out I1.out.ix hk hat
        obtain ⟨p3, p4⟩ := R52_keep V1.out Q1.out I1.out.ix hk hat
        obtain ⟨p5, p6⟩ := copy_keep C1.out G9.out D1.out I1.out.ix hk hat
        have I2 := Aside0.mk hi
        have O2 := Aside0.mk (R31_keep O1.out I1.out.ix hk)
        have R2 := Aside0.mk (R31_keep R1.out I1.out.ix hk)
        have UP := Aside0.mk (And.intro p1 p2)
        have VP := Aside0.mk (And.intro p3 p4)
        have CP := Aside0.mk (And.intro p5 p6)
        have SP := Aside0.mk (fun vv => rising_put HSX.out y.f0.f0 y.f0.f1 vv)
        have NP := Aside0.mk (fun vv => putL_len X y.f0.f0 y.f0.f1 vv)
        generalize has X y.f0.f0 y.f0.f1 = zz
        clear hp hi hk hat p1 p2 p3 p4 p5 p6 I1 O1 R1 U1 V1 C1 P1 Q1 D1 HBX
        go_wp2_with fail
        go_roundg (n - (k + 1))
        case measure => have := HKK.out; omega
        case rel => exact ⟨k + 1, s2, _, by first | rfl | simp, HKK.out, Nat.le_refl _, I2, ⟨SP.out _⟩, ⟨Nat.le_trans (NP.out _) (by have := HNX.out; omega)⟩, O2, ⟨_, R2.out⟩, ⟨⟨_, UP.out.1⟩, UP.out.2⟩, ⟨⟨_, VP.out.1⟩, VP.out.2⟩, CP⟩
      · have hdk : decide ((k : Int) < (n : Int)) = false := decide_eq_false (fun h => hk (Int.ofNat_lt.1 h))
        have hdk2 : decide (k < n) = false := decide_eq_false hk
        obtain ⟨r7, hr7⟩ := HRR.out
        obtain ⟨⟨r4, hr4⟩, hp4⟩ := HU.out
        obtain ⟨⟨r5, hr5⟩, hp5⟩ := HV.out
        have R1 := Aside0.mk hr7
        have U1 := Aside0.mk hr4
        have V1 := Aside0.mk hr5
        have C1 := Aside0.mk HCC.out.1
        have B1 := Aside0.mk (HI.out.bel)
        clear hk HRR HU HV HCC hr7 hr4 hp4 hr5 hp5 HI
        go_wp2_with fail
        refine (alive_b wr).mono ?_
        rintro e w11 ⟨rfl, hb⟩
        have R2 := Aside0.mk (Kd.R_below R1.out hb)
        have U2 := Aside0.mk (Kd.R_below U1.out hb)
        have V2 := Aside0.mk (Kd.R_below V1.out hb)
        have O2 := Aside0.mk (Kd.R_below HO.out hb)
        have C2 := Aside0.mk (C1.out.below hb)
        have B2 := Aside0.mk (below_step B1.out hb)
        clear hb R1 U1 V1 C1 B1 HO
        go_wp2_with fail
        refine (near_All.calls gc _ (rows L) w11 C2.out (fits_rows (by have := HLN.out; omega))).mono ?_
        rintro e w12 ⟨v12, rfl, ho12, hb⟩
        obtain ⟨A8, c8, rfl⟩ := Kd.R_slice ho12
        have K3 := Aside0.mk ho12
        have R3 := Aside0.mk (Kd.R_below R2.out hb)
        have U3 := Aside0.mk (Kd.R_below U2.out hb)
        have V3 := Aside0.mk (Kd.R_below V2.out hb)
        have O3 := Aside0.mk (Kd.R_below O2.out hb)
        have B3 := Aside0.mk (below_step B2.out hb)
        clear hb ho12 R2 U2 V2 O2 C2 B2
        rw [HN.out] at *
        go_wp2_with fail
        refine (cobweblaw08_same.calls (L.length + 1) A8 c8 (rows L) A2 c2 L true w12 (Kd.R_reads' K3.out).2.2 (Kd.R_reads' K3.out).2.1 (Kd.R_reads' O3.out).2.2 (Kd.R_reads' O3.out).2.1 (same_eq L (Nat.lt_of_le_of_lt HLN.out (by decide)))).mono ?_
        rintro e w13 ⟨rfl, hb⟩
        have R4 := Aside0.mk (Kd.R_below R3.out hb)
        have U4 := Aside0.mk (Kd.R_below U3.out hb)
        have V4 := Aside0.mk (Kd.R_below V3.out hb)
        have O4 := Aside0.mk (Kd.R_below O3.out hb)
        have B4 := Aside0.mk (below_step B3.out hb)
        clear hb R3 U3 V3 O3 B3 K3
        go_wp2_with fail
        refine (cobweblaw08_same.calls (L.length + 1) A4 c4 (rows L) A2 c2 L true w13 (Kd.R_reads' U4.out).2.2 (Kd.R_reads' U4.out).2.1 (Kd.R_reads' O4.out).2.2 (Kd.R_reads' O4.out).2.1 (same_eq L (Nat.lt_of_le_of_lt HLN.out (by decide)))).mono ?_
        rintro e w14 ⟨rfl, hb⟩
        have R5 := Aside0.mk (Kd.R_below R4.out hb)
        have V5 := Aside0.mk (Kd.R_below V4.out hb)
        have B5 := Aside0.mk (below_step B4.out hb)
        clear hb R4 V4 U4 O4 B4
        go_wp2_with fail
        refine (cobweblaw08_same.calls (M.length + 1) A5 c5 (rows M) A7 c7 M true w14 (Kd.R_reads' V5.out).2.2 (Kd.R_reads' V5.out).2.1 (Kd.R_reads' R5.out).2.2 (Kd.R_reads' R5.out).2.1 (same_eq M (Nat.lt_of_le_of_lt HML.out (by decide)))).mono ?_
        rintro e w15 ⟨rfl, hb⟩
        have B6 := Aside0.mk (below_step B5.out hb)
        clear hb R5 V5 B5
        go_wp2_with fail
        go_ret
        exact ⟨rfl, HB1.out.trans (B6.out.mono HB2.out)⟩
end Go.Proofs.Ytcfgpfappidkaaa.F
