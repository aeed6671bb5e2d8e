/- NearGets, walked by hand. Conditions: none beyond the law's own guard. -/
import Derived.Test.YtcfgpfappidkaaaN7
namespace Go.Proofs.Ytcfgpfappidkaaa.F
open Go.RowKit Go.Proofs.YtcfgpfappidkaaaW.PrintWords Go.Proofs.YtcfgpfappidkaaaW.PrintLast Go.Proofs.YtcfgpfappidkaaaW.PrintMore
set_option linter.unusedVariables false
set_option linter.unusedSimpArgs false

theorem puts_fold (P : S31 → Prop) (hP : ∀ e f : S31, P e → f.f0.f1 = e.f0.f1 → P f) : ∀ (l L : List S31), Rising (rows L) → (∀ e ∈ L, P e) → (∀ e ∈ l, P e) → Rising (rows (l.foldl stepR L)) ∧ (l.foldl stepR L).length ≤ L.length + l.length ∧ ∀ e ∈ l.foldl stepR L, P e
  | [], L, h, hL, _ => ⟨h, Nat.le_refl _, hL⟩
  | a :: t, L, h, hL, hl => by
    have h1 := rising_putR h a.f0.f0 a.f0.f1 a.f1
    have h2 := putR_len h a.f0.f0 a.f0.f1 a.f1
    obtain ⟨i1, i2, i3⟩ := puts_fold P hP t (stepR L a) h1 (fun e he => by
      have he' : e ∈ putR L a.f0.f0 a.f0.f1 a.f1 := he
      unfold putR at he'
      rcases List.mem_append.1 he' with he | he
      · rcases List.mem_append.1 he with he | he
        · exact hL e (List.mem_filter.1 he).1
        · rw [List.mem_singleton.1 he]; exact hP a _ (hl a List.mem_cons_self) rfl
      · exact hL e (List.mem_filter.1 he).1) (fun e he => hl e (List.mem_cons_of_mem _ he))
    exact ⟨i1, Nat.le_trans i2 (by simp only [List.length_cons]; have : (stepR L a).length ≤ L.length + 1 := h2; omega), i3⟩
theorem puts_rising (l : List S31) : Rising (rows (putsR l)) := (puts_fold (fun _ => True) (fun _ _ _ _ => trivial) l [] List.Pairwise.nil (fun _ _ => trivial) (fun _ _ => trivial)).1
theorem puts_len (l : List S31) : (putsR l).length ≤ l.length := by
  have := (puts_fold (fun _ => True) (fun _ _ _ _ => trivial) l [] List.Pairwise.nil (fun _ _ => trivial) (fun _ _ => trivial)).2.1
  unfold putsR
  simpa using this
theorem puts_min (l : List S31) (h : ∀ e ∈ l, -9223372036854775808 ≤ e.f0.f1) : ∀ e ∈ putsR l, -9223372036854775808 ≤ e.f0.f1 :=
  (puts_fold (fun e => -9223372036854775808 ≤ e.f0.f1) (fun e f h1 h2 => by show -9223372036854775808 ≤ f.f0.f1; rw [h2]; exact h1) l [] List.Pairwise.nil (fun _ h => by cases h) h).2.2
theorem alive_b (w : World) : Calls Try.prog 8 #[] w fun e w' => e = .returned (.bool true) ∧ Below w.heap.size w w' := alive08.calls w
set_option maxHeartbeats 8000000 in
set_option maxRecDepth 100000 in
theorem nearGets.walk (A : Option Addr) (c : Nat) (l : List S31) (qx qy : Int) (w : World) (hr : Kd.C k31 w A l.length l) (hc : l.length ≤ c) :
    Calls Try.prog 4 #[.slice A l.length c, .agg #[.int .i64 qx, .int .i64 qy]] w fun e w' => e = .returned (.bool true) ∧ Below w.heap.size w w' := by
  have HB1 := Aside0.mk (below_alloc (Below.refl _ w) (.cells #[.int .i64 qx, .int .i64 qy] 35))
  have T1 := Aside0.mk (show TgtB (w.alloc (.cells #[.int .i64 qx, .int .i64 qy] 35)) w.heap.size qx qy from heap_alloc_new w _)
  by_cases hl : l.length > 120
  · have hd : decide ((l.length : Int) > 120) = true := decide_eq_true (by omega)
    have hd2 : decide (120 < l.length) = true := decide_eq_true hl
    have hd3 : decide (l.length > 120) = true := decide_eq_true hl
    clear hr hc hl
    go_enter Try.func4, Try.ntmps4
    go_wp2_with (go_at_call 8; (with_reducible refine (alive_b _).mono ?_); rintro e w2 ⟨rfl, hb⟩; have B2 := Aside0.mk (below_step HB1.out hb))
    go_ret
    exact ⟨rfl, B2.out⟩
  · have hd : decide ((l.length : Int) > 120) = false := decide_eq_false (by omega)
    have hd2 : decide (120 < l.length) = false := decide_eq_false hl
    have hd3 : decide (l.length > 120) = false := decide_eq_false hl
    have HL := Aside0.mk (Nat.le_of_not_lt hl)
    have HC := Aside0.mk (Kd.C_below hr (below_alloc (Below.refl _ w) (.cells #[.int .i64 qx, .int .i64 qy] 35)))
    have Hc := Aside0.mk hc
    obtain ⟨L, hL⟩ : ∃ L, L = putsR l := ⟨_, rfl⟩
    have HLE := Aside0.mk hL
    have HS := Aside0.mk (show Rising (rows L) by rw [hL]; exact puts_rising l)
    have HLN := Aside0.mk (show L.length ≤ 120 by rw [hL]; exact Nat.le_trans (puts_len l) (Nat.le_of_not_lt hl))
    obtain ⟨z, hz⟩ : ∃ z, z = has (rows L) qx qy := ⟨_, rfl⟩
    obtain ⟨rk, hrk⟩ : ∃ k, k = rank (rows L) qx qy := ⟨_, rfl⟩
    obtain ⟨V, hV⟩ : ∃ V, V = valOf (rows L) qx qy := ⟨_, rfl⟩
    have HG := Aside0.mk (Get_eq L qx qy HS.out (Nat.lt_of_le_of_lt HLN.out (by decide)))
    have hG : getR L qx qy = if z = true then (rk : Int) else -1 := by unfold getR; rw [← hz, ← hrk]
    rw [hG] at HG
    have HA : Aside0 (∀ (bx : Nat) (s : Value) (W : World), IdxAt W bx s (rows L) → Calls Try.prog 16 #[.pointer (some ⟨bx, 0, none⟩), .agg #[.int .i64 qx, .int .i64 qy]] W fun e w' => e = .returned (.tuple #[.int .i64 V, .bool z]) ∧ Below W.heap.size W w') :=
      ⟨fun bx s W h => by rw [hV, hz]; exact near_Get.calls bx s (rows L) qx qy W h HS.out (fits_rows (by have := HLN.out; omega))⟩
    have hrl : z = true → rk < L.length ∧ V = (rd_T31 L (rk : Int)).f1 := fun e => by
      have e1 : has (rows L) qx qy = true := by rw [← hz]; exact e
      have h1 : rk < L.length := by rw [hrk]; unfold has at e1; simp at e1; rw [← rows_len L]; exact e1.1
      refine ⟨h1, ?_⟩
      rw [hV]
      unfold valOf
      rw [if_pos e1, ← hrk, rd_get _ rk (by rw [rows_len]; exact h1), rd31 L rk h1]
      simp [rows, toN]
    have hv0 : z = false → V = 0 := fun e => by rw [hV]; unfold valOf; rw [← hz, e]; rfl
    clear hr hc hl hL hz hrk hV hG
    cases z
    · obtain rfl := hv0 rfl
      clear hv0 hrl
      rw [if_neg (by decide)] at HG
      go_enter Try.func4, Try.ntmps4
      go_wp2_with fail
      generalize w.alloc (.cells #[.int .i64 qx, .int .i64 qy] 35) = w1 at HB1 T1 HC ⊢
      refine (made.calls A c l w1 HC.out Hc.out HL.out).mono ?_
      rw [← HLE.out]
      rintro e w2 ⟨bx, s, v2, rfl, hi, ho⟩
      have I2 := Aside0.mk hi
      have O2 := Aside0.mk ho
      have T2 := Aside0.mk (T1.out.below hi.bel)
      have B2 := Aside0.mk (below_step HB1.out hi.bel)
      have t0 := T2.out.c0
      have t1 := T2.out.c1
      clear hi ho T1 HB1 HC
      go_wp2_with fail
      refine (HA.out bx s _ I2.out.ix).mono ?_
      rintro e w3 ⟨rfl, hb⟩
      have O3 := Aside0.mk (Kd.R_below O2.out hb)
      have T3 := Aside0.mk (T2.out.below hb)
      have B3 := Aside0.mk (below_step B2.out hb)
      clear t0 t1 hb O2 I2 T2 B2
      have t0 := T3.out.c0
      have t1 := T3.out.c1
      obtain ⟨A3, c3, rfl, hc3, hC3⟩ := Kd.R_reads O3.out
      have HC3 := Aside0.mk hC3
      have Hc3 := Aside0.mk hc3
      clear hC3 hc3
      go_wp2_with fail
      refine (cobwebref08_Get.calls (L.length + 1) A3 c3 L qx qy _ w3 HC3.out Hc3.out HG.out).mono ?_
      rintro e w4 ⟨rfl, hb⟩
      have B4 := Aside0.mk (below_step B3.out hb)
      have C4 := Aside0.mk (Kd.C_below HC3.out hb)
      clear t0 t1 hb T3 B3 O3 HC3
      go_wp2_with fail
      refine (alive_b w4).mono ?_
      rintro e w5 ⟨rfl, hb⟩
      have B5 := Aside0.mk (below_step B4.out hb)
      have C5 := Aside0.mk (Kd.C_below C4.out hb)
      clear hb B4 C4
      go_wp2_with fail
      go_ret
      exact ⟨rfl, B5.out⟩
    · obtain ⟨hlt, hVe⟩ := hrl rfl
      clear hv0 hrl
      have HLT := Aside0.mk hlt
      rw [if_pos rfl] at HG
      go_enter Try.func4, Try.ntmps4
      go_wp2_with fail
      generalize w.alloc (.cells #[.int .i64 qx, .int .i64 qy] 35) = w1 at HB1 T1 HC ⊢
      refine (made.calls A c l w1 HC.out Hc.out HL.out).mono ?_
      rw [← HLE.out]
      rintro e w2 ⟨bx, s, v2, rfl, hi, ho⟩
      have I2 := Aside0.mk hi
      have O2 := Aside0.mk ho
      have T2 := Aside0.mk (T1.out.below hi.bel)
      have B2 := Aside0.mk (below_step HB1.out hi.bel)
      have t0 := T2.out.c0
      have t1 := T2.out.c1
      clear hi ho T1 HB1 HC
      go_wp2_with fail
      refine (HA.out bx s _ I2.out.ix).mono ?_
      rintro e w3 ⟨rfl, hb⟩
      have O3 := Aside0.mk (Kd.R_below O2.out hb)
      have T3 := Aside0.mk (T2.out.below hb)
      have B3 := Aside0.mk (below_step B2.out hb)
      clear t0 t1 hb O2 I2 T2 B2
      have t0 := T3.out.c0
      have t1 := T3.out.c1
      obtain ⟨A3, c3, rfl, hc3, hC3⟩ := Kd.R_reads O3.out
      have HC3 := Aside0.mk hC3
      have Hc3 := Aside0.mk hc3
      clear hC3 hc3
      go_wp2_with fail
      refine (cobwebref08_Get.calls (L.length + 1) A3 c3 L qx qy _ w3 HC3.out Hc3.out HG.out).mono ?_
      rintro e w4 ⟨rfl, hb⟩
      have B4 := Aside0.mk (below_step B3.out hb)
      have C4 := Aside0.mk (Kd.C_below HC3.out hb)
      clear t0 t1 hb T3 B3 O3 HC3
      go_wp2_with fail
      refine (alive_b w4).mono ?_
      rintro e w5 ⟨rfl, hb⟩
      have B5 := Aside0.mk (below_step B4.out hb)
      have C5 := Aside0.mk (Kd.C_below C4.out hb)
      clear hb B4 C4
      obtain ⟨ad, e1, ee⟩ := entR_of C5.out (rk : Int) (Int.natCast_nonneg rk) (Int.ofNat_lt.2 HLT.out)
      cases e1
      rw [Int.toNat_natCast] at ee
      have f2 := ee.c2
      rw [← hVe] at f2
      have q1 : (0 ≤ (rk : Int)) = True := eq_true (Int.natCast_nonneg rk)
      have q2 : ((rk : Int) < (L.length : Int)) = True := eq_true (Int.ofNat_lt.2 HLT.out)
      have q3 : decide ((rk : Int) ≥ 0) = true := decide_eq_true (Int.natCast_nonneg rk)
      clear ee
      go_wp2_with fail
      go_ret
      exact ⟨rfl, B5.out⟩
end Go.Proofs.Ytcfgpfappidkaaa.F
