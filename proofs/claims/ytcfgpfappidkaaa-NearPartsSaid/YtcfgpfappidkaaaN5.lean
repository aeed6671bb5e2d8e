/- near.Index: In and Copy, walked by hand. Conditions: the index's row rises. -/
import Derived.Test.YtcfgpfappidkaaaN4
namespace Go.Proofs.Ytcfgpfappidkaaa.F
open Go.RowKit Go.Proofs.YtcfgpfappidkaaaW.PrintWords Go.Proofs.YtcfgpfappidkaaaW.PrintLast Go.Proofs.YtcfgpfappidkaaaW.PrintMore
set_option linter.unusedVariables false
set_option linter.unusedSimpArgs false

/-- A pixel of the call's own, in block g, with its block's type. -/
def TgtB (w : World) (g : Nat) (qx qy : Int) : Prop := w.heap[g]? = some (.cells #[.int .i64 qx, .int .i64 qy] 35 (0, 0))
theorem TgtB.below {w w' : World} {g : Nat} {qx qy : Int} (h : TgtB w g qx qy) (hb : Below w.heap.size w w') : TgtB w' g qx qy := (hb.block g (blk_lt h)).trans h
theorem TgtB.c0 {w : World} {g : Nat} {qx qy : Int} (h : TgtB w g qx qy) : w.cell? ⟨g, 0, none⟩ = some (.int .i64 qx) := blk_cell h 0
theorem TgtB.c1 {w : World} {g : Nat} {qx qy : Int} (h : TgtB w g qx qy) : w.cell? ⟨g, 1, none⟩ = some (.int .i64 qy) := blk_cell h 1
theorem TgtB.grown {w w' : World} {g base : Nat} {qx qy : Int} {v : Value} {l : List S52} {ok : Nat → Prop} (h : TgtB w g qx qy) (hR : Kd.R k52 52 w base ok v l) (hg : w.grownBy w' v.ownBlock) : TgtB w' g qx qy := blk_grown h hg (Kd.R_ne hR h (by decide))
def inBox (ly hy : Int) (e : S52) : Bool := decide (e.f0.f1 ≥ ly) && decide (e.f0.f1 ≤ hy)
/-- What In's rounds hand on of a row's rest. -/
def goIn (ly hx hy : Int) (D : List S52) : List S52 := (D.takeWhile (fun e => decide (e.f0.f0 ≤ hx))).filter (inBox ly hy)
def inL (l : List S52) (lx ly hx hy : Int) : List S52 := goIn ly hx hy (l.drop (rank l lx (-9223372036854775808)))
theorem rd_drop (D : List S52) (k : Nat) (h : k < D.length) : D.drop k = rd_T52 D (k : Int) :: D.drop (k + 1) := by
  rw [rd_get D k h]
  exact List.drop_eq_getElem_cons h
set_option maxHeartbeats 8000000 in
set_option maxRecDepth 100000 in
theorem near_In.calls (bx : Nat) (s : Value) (l : List S52) (lx ly hx hy : Int) (w : World) (hI : IdxAt w bx s l) (hs : Rising l) (hf : Fits l) :
    Calls Try.prog 17 #[.pointer (some ⟨bx, 0, none⟩), .agg #[.int .i64 lx, .int .i64 ly], .agg #[.int .i64 hx, .int .i64 hy]] w fun e w' => ∃ v, e = .returned v ∧ Kd.R k52 52 w' w.heap.size (fun _ => True) v (inL l lx ly hx hy) ∧ Below w.heap.size w w' := by
  obtain ⟨rk, hrk⟩ : ∃ k, k = rank l lx (-9223372036854775808) := ⟨_, rfl⟩
  have HA : Aside0 (∀ W, IdxAt W bx s l → Calls Try.prog 21 #[.pointer (some ⟨bx, 0, none⟩), .agg #[.int .i64 lx, .int .i64 (-9223372036854775808)]] W fun e w' => e = .returned (.tuple #[.int .i64 (rk : Nat), .bool (has l lx (-9223372036854775808))]) ∧ Below W.heap.size W w') := ⟨fun W h => by rw [hrk]; exact near_at.calls bx s l lx _ W h hs hf⟩
  generalize has l lx (-9223372036854775808) = z at HA
  have hle : rk ≤ l.length := by rw [hrk]; exact rank_le _ _ _
  obtain ⟨D, hD⟩ : ∃ D, D = l.drop rk := ⟨_, rfl⟩
  obtain ⟨m, hm⟩ : ∃ m, m = D.length := ⟨_, rfl⟩
  have hml : l.length - rk = m := by rw [hm, hD, List.length_drop]
  have hIn : inL l lx ly hx hy = goIn ly hx hy D := by unfold inL; rw [← hrk, ← hD]
  rw [hIn]
  have hmf : m < 1099511627776 := by unfold Fits at hf; omega
  obtain ⟨A, c, rfl, hc, hC⟩ := Kd.R_reads hI.row
  obtain ⟨i0, hi0, _, hsz, _⟩ := info_parts info52
  have hcut := cut_from (P := Try.prog) 25 52 .i64 Try.underlying25 hi0 3 hsz A l.length c (rk : Int) (by omega) (by omega)
  simp only [Int.toNat_natCast] at hcut
  have hCD := Kd.C_drop (m := rk) hC hle hc
  rw [← hD, ← hm] at hCD
  change k52.C w (if c = rk then A else A.map (·.add (rk * 3))) m D at hCD
  generalize (if c = rk then A else A.map (·.add (rk * 3))) = AA at hcut hCD
  rw [hml] at hcut
  have HCD := Aside0.mk hCD
  have HM := Aside0.mk hm
  have HI := Aside0.mk hI
  have HMF := Aside0.mk hmf
  generalize hR : goIn ly hx hy D = R
  have HR := Aside0.mk hR
  generalize hcr : c - rk = cr at hcut
  clear hI hs hf hrk hle hD hm hml hIn hC hc hi0 hsz hCD hmf hR hcr
  go_enter Try.func17, Try.ntmps17
  have B1 := Aside0.mk ((below_alloc (below_alloc (Below.refl _ w) (.cells #[.int .i64 lx, .int .i64 ly] 35)) (.cells #[.int .i64 hx, .int .i64 hy] 35)) : Below w.heap.size w ((w.alloc (.cells #[.int .i64 lx, .int .i64 ly] 35)).alloc (.cells #[.int .i64 hx, .int .i64 hy] 35)))
  have L1 := Aside0.mk ((show TgtB (w.alloc (.cells #[.int .i64 lx, .int .i64 ly] 35)) w.heap.size lx ly from heap_alloc_new w _).below (below_alloc (Below.refl _ _) (.cells #[.int .i64 hx, .int .i64 hy] 35)))
  have H1 := Aside0.mk (show TgtB ((w.alloc (.cells #[.int .i64 lx, .int .i64 ly] 35)).alloc (.cells #[.int .i64 hx, .int .i64 hy] 35)) (w.alloc (.cells #[.int .i64 lx, .int .i64 ly] 35)).heap.size hx hy from heap_alloc_new _ _)
  have l0 := L1.out.c0
  go_wp2_with fail
  have H1' : Aside0 (TgtB ((w.alloc (.cells #[.int .i64 lx, .int .i64 ly] 35)).alloc (.cells #[.int .i64 hx, .int .i64 hy] 35)) (w.heap.size + 1) hx hy) := ⟨by have := H1.out; simpa using this⟩
  clear H1 l0
  generalize (w.alloc (.cells #[.int .i64 lx, .int .i64 ly] 35)).alloc (.cells #[.int .i64 hx, .int .i64 hy] 35) = w1 at B1 L1 H1' ⊢
  have I1 := Aside0.mk (HI.out.below B1.out)
  refine (HA.out _ I1.out).mono ?_
  rintro e w2 ⟨rfl, hb⟩
  have B2 := Aside0.mk (below_step B1.out hb)
  have I2 := (HI.out.below B2.out).cell
  have L2 := Aside0.mk (L1.out.below hb)
  have H2 := Aside0.mk (H1'.out.below hb)
  clear hb B1 L1 H1' I1
  go_wp2_with fail
  go_loopg [9, 27] m (fun kx s9 s27 wr => ∃ (k : Nat) (out : List S52), s27 = .int .i64 k ∧ k ≤ m ∧ m - k ≤ kx ∧ Aside0 (Kd.R k52 52 wr w.heap.size (fun _ => True) s9 out) ∧ Aside0 (Below w.heap.size w wr) ∧ Aside0 (TgtB wr w.heap.size lx ly) ∧ Aside0 (TgtB wr (w.heap.size + 1) hx hy) ∧ Aside0 (out ++ goIn ly hx hy (D.drop k) = R) ∧ Aside0 (out.length ≤ k))
  case atStart => exact ⟨0, [], rfl, Nat.zero_le _, by omega, ⟨Kd.R_nil _ _ _ _ _⟩, B2, L2, H2, ⟨by simpa using HR.out⟩, ⟨Nat.le_refl _⟩⟩
  case round =>
    clear B2 L2 H2 I2 HR
    obtain ⟨k, out, rfl, hkm, hkx, HO, BB, LO, HIH, HQ, HLO⟩ := hrel
    by_cases hk : k < m
    · have hkd : k < D.length := by rw [← HM.out]; exact hk
      have hdk : decide ((k : Int) < (m : Int)) = true := decide_eq_true (Int.ofNat_lt.2 hk)
      have q1 : (0 ≤ (k : Int)) = True := eq_true (Int.natCast_nonneg k)
      have q2 : ((k : Int) < (m : Int)) = True := eq_true (Int.ofNat_lt.2 hk)
      obtain ⟨ad, e1, ee⟩ := ent_of HCD.out (k : Int) (Int.natCast_nonneg k) (Int.ofNat_lt.2 hk)
      cases e1
      rw [Int.toNat_natCast] at ee
      have EE := ee.below (b := w.heap.size) BB.out ee.lt
      have c0 := EE.c0
      have c1 := EE.c1
      have c2 := EE.c2
      have hdrop := rd_drop D k hkd
      generalize rd_T52 D (k : Int) = y at EE c0 c1 c2 hdrop ee
      have HQ2 : Aside0 (out ++ goIn ly hx hy (y :: D.drop (k + 1)) = R) := ⟨by rw [← hdrop]; exact HQ.out⟩
      have hw : IntKind.i64.wrap ((k : Int) + 1) = (k : Int) + 1 := by rw [i64_w]; exact w64_succ k (Nat.lt_trans hk HMF.out)
      have HKK := Aside0.mk hk
      clear EE ee hdrop hkd hk
      by_cases hX : y.f0.f0 > hx
      · have hdX : decide (y.f0.f0 > hx) = true := decide_eq_true hX
        have HX := Aside0.mk hX
        clear hX
        go_wp2_with (first | ((with_reducible refine gate_dst (N := 11) rfl ?_); refine box_event ?hg (N := 11) ?hd (cs := #[.int .i64 0, .int .i64 0, .int .i64 0]) (t := 52) ?hr ?_; (case hd => rfl); (case hg => rfl); (case hr => first | (go_simp; done) | (go_simp; rfl)); intro gb hg w5 hbox hb; have HBX := Aside0.mk hb; have BK := Aside0.mk hbox; have HGE := Aside0.mk (Nat.le_of_eq hg.symm); have hcz0 : w5.cell? ⟨gb, 0, none⟩ = some (.int .i64 0) := (blk_cell hbox 0).trans rfl; have hcz1 : w5.cell? ⟨gb, 1, none⟩ = some (.int .i64 0) := (blk_cell hbox 1).trans rfl; have hcz2 : w5.cell? ⟨gb, 2, none⟩ = some (.int .i64 0) := (blk_cell hbox 2).trans rfl; have hfz0 := blk_frozen hbox 0; have hfz1 := blk_frozen hbox 1; have hfz2 := blk_frozen hbox 2; clear hg hbox hb) | ((with_reducible refine gate_store (t := 52) (p := 11) (v := .tmp 30) rfl ?_); refine store_event (w1 := (((w5.setCell ⟨gb, 0, none⟩ (.int .i64 y.f0.f0)).setCell ⟨gb, 1, none⟩ (.int .i64 y.f0.f1)).setCell ⟨gb, 2, none⟩ (.int .i64 y.f1))) rfl (t := 52) (p := 11) (v := .tmp 30) rfl rfl ?hr ?_; (case hr => first | (go_simp; done) | (go_simp; rfl)); intro w6 hw6; have hb6 : Below wr.heap.size wr w6 := (by rw [hw6]; exact ((HBX.out.setCell HGE.out _).setCell HGE.out _).setCell HGE.out _); have hW : w6.heap[gb]? = some (.cells #[(.int .i64 y.f0.f0), (.int .i64 y.f0.f1), (.int .i64 y.f1)] 52 (0, 0)) := (by rw [hw6]; exact blk_put (blk_put (blk_put BK.out 0 _ rfl) 1 _ rfl) 2 _ rfl); have e0 : w6.cell? ⟨gb, 0, none⟩ = some (.int .i64 y.f0.f0) := (blk_cell hW 0).trans rfl; have e1 : w6.cell? ⟨gb, 1, none⟩ = some (.int .i64 y.f0.f1) := (blk_cell hW 1).trans rfl; have e2 : w6.cell? ⟨gb, 2, none⟩ = some (.int .i64 y.f1) := (blk_cell hW 2).trans rfl; have B6 := Aside0.mk (below_step BB.out hb6); have L6 := Aside0.mk (LO.out.below hb6); have H6 := Aside0.mk (HIH.out.below hb6); have O6 := Aside0.mk (Kd.R_below HO.out hb6); have l0 := L6.out.c0; have l1 := L6.out.c1; have h0 := H6.out.c0; have h1 := H6.out.c1; clear hb6 hW hw6 hcz0 hcz1 hcz2 hfz0 hfz1 hfz2 HBX BK HGE))
        go_ret
        refine ⟨_, rfl, ?_, B6.out⟩
        have e : goIn ly hx hy (y :: D.drop (k + 1)) = [] := by unfold goIn; rw [List.takeWhile_cons_of_neg (by simpa using HX.out)]; rfl
        have h := HQ2.out
        rw [e, List.append_nil] at h
        rw [← h]
        exact O6.out
      · have hdX : decide (y.f0.f0 > hx) = false := decide_eq_false hX
        have HX := Aside0.mk hX
        clear hX
        by_cases hY1 : y.f0.f1 ≥ ly
        · have hdY1 : decide (y.f0.f1 ≥ ly) = true := decide_eq_true hY1
          by_cases hY2 : y.f0.f1 ≤ hy
          · have hdY2 : decide (y.f0.f1 ≤ hy) = true := decide_eq_true hY2
            have HIN : Aside0 (goIn ly hx hy (y :: D.drop (k + 1)) = y :: goIn ly hx hy (D.drop (k + 1))) := ⟨by unfold goIn; rw [List.takeWhile_cons_of_pos (by have := HX.out; simp; omega), List.filter_cons_of_pos (by unfold inBox; rw [hdY1, hdY2]; rfl)]⟩
            clear hY1 hY2
            go_wp2_with (first | ((with_reducible refine gate_dst (N := 11) rfl ?_); refine box_event ?hg (N := 11) ?hd (cs := #[.int .i64 0, .int .i64 0, .int .i64 0]) (t := 52) ?hr ?_; (case hd => rfl); (case hg => rfl); (case hr => first | (go_simp; done) | (go_simp; rfl)); intro gb hg w5 hbox hb; have HBX := Aside0.mk hb; have BK := Aside0.mk hbox; have HGE := Aside0.mk (Nat.le_of_eq hg.symm); have hcz0 : w5.cell? ⟨gb, 0, none⟩ = some (.int .i64 0) := (blk_cell hbox 0).trans rfl; have hcz1 : w5.cell? ⟨gb, 1, none⟩ = some (.int .i64 0) := (blk_cell hbox 1).trans rfl; have hcz2 : w5.cell? ⟨gb, 2, none⟩ = some (.int .i64 0) := (blk_cell hbox 2).trans rfl; have hfz0 := blk_frozen hbox 0; have hfz1 := blk_frozen hbox 1; have hfz2 := blk_frozen hbox 2; clear hg hbox hb) | ((with_reducible refine gate_store (t := 52) (p := 11) (v := .tmp 30) rfl ?_); refine store_event (w1 := (((w5.setCell ⟨gb, 0, none⟩ (.int .i64 y.f0.f0)).setCell ⟨gb, 1, none⟩ (.int .i64 y.f0.f1)).setCell ⟨gb, 2, none⟩ (.int .i64 y.f1))) rfl (t := 52) (p := 11) (v := .tmp 30) rfl rfl ?hr ?_; (case hr => first | (go_simp; done) | (go_simp; rfl)); intro w6 hw6; have hb6 : Below wr.heap.size wr w6 := (by rw [hw6]; exact ((HBX.out.setCell HGE.out _).setCell HGE.out _).setCell HGE.out _); have hW : w6.heap[gb]? = some (.cells #[(.int .i64 y.f0.f0), (.int .i64 y.f0.f1), (.int .i64 y.f1)] 52 (0, 0)) := (by rw [hw6]; exact blk_put (blk_put (blk_put BK.out 0 _ rfl) 1 _ rfl) 2 _ rfl); have e0 : w6.cell? ⟨gb, 0, none⟩ = some (.int .i64 y.f0.f0) := (blk_cell hW 0).trans rfl; have e1 : w6.cell? ⟨gb, 1, none⟩ = some (.int .i64 y.f0.f1) := (blk_cell hW 1).trans rfl; have e2 : w6.cell? ⟨gb, 2, none⟩ = some (.int .i64 y.f1) := (blk_cell hW 2).trans rfl; have B6 := Aside0.mk (below_step BB.out hb6); have L6 := Aside0.mk (LO.out.below hb6); have H6 := Aside0.mk (HIH.out.below hb6); have O6 := Aside0.mk (Kd.R_below HO.out hb6); have l0 := L6.out.c0; have l1 := L6.out.c1; have h0 := H6.out.c0; have h1 := H6.out.c1; clear hb6 hW hw6 hcz0 hcz1 hcz2 hfz0 hfz1 hfz2 HBX BK HGE) | ((with_reducible refine gate_builtin (b := .append) (xs := #[.tmp 51, .tmp 53]) rfl ?_); at_builtin; (refine Kd.R_append k52 (w0 := w) w.heap.size rfl (.tmp 51) (.tmp 53) 25 52 (.agg #[.int .i64 0, .int .i64 0, .int .i64 0]) 24 rfl Try.underlying25 info52 rfl (by decide) (by omega) u9 out y [(.int .i64 y.f0.f0), (.int .i64 y.f0.f1), (.int .i64 y.f1)] (fun _ => True) (fun _ => False) rfl (by first | (go_simp; done) | (go_simp; rfl)) ?aP (fun _ hk => hk.elim) ?aF ?aO ?aB ?aS ?aL ?_); (case aP => exact k52_mkM _ _ _ y); (case aF => exact (fun _ _ => trivial)); (case aO => exact O6.out); (case aB => exact B6.out); (case aS => exact B6.out.size); (case aL => have := HLO.out; have := HKK.out; have := HMF.out; omega); intro v7 w7 ho hb hg hat; have HO7 := Aside0.mk ho; have HBL7 := Aside0.mk hb; have hgg := Aside0.mk hg; clear ho hb hg hat))
            go_roundg (m - (k + 1))
            case measure => have := HKK.out; omega
            case rel =>
              refine ⟨k + 1, out ++ [y], by first | rfl | simp, HKK.out, Nat.le_refl _, HO7, HBL7, ⟨L6.out.grown O6.out hgg.out⟩, ⟨H6.out.grown O6.out hgg.out⟩, ⟨?_⟩, ⟨by have := HLO.out; simp; omega⟩⟩
              have h := HQ2.out
              rw [HIN.out] at h
              rw [← h]
              simp
          · have hdY2 : decide (y.f0.f1 ≤ hy) = false := decide_eq_false hY2
            have HIN : Aside0 (goIn ly hx hy (y :: D.drop (k + 1)) = goIn ly hx hy (D.drop (k + 1))) := ⟨by unfold goIn; rw [List.takeWhile_cons_of_pos (by have := HX.out; simp; omega), List.filter_cons_of_neg (by unfold inBox; rw [hdY1, hdY2]; decide)]⟩
            clear hY1 hY2
            go_wp2_with (first | ((with_reducible refine gate_dst (N := 11) rfl ?_); refine box_event ?hg (N := 11) ?hd (cs := #[.int .i64 0, .int .i64 0, .int .i64 0]) (t := 52) ?hr ?_; (case hd => rfl); (case hg => rfl); (case hr => first | (go_simp; done) | (go_simp; rfl)); intro gb hg w5 hbox hb; have HBX := Aside0.mk hb; have BK := Aside0.mk hbox; have HGE := Aside0.mk (Nat.le_of_eq hg.symm); have hcz0 : w5.cell? ⟨gb, 0, none⟩ = some (.int .i64 0) := (blk_cell hbox 0).trans rfl; have hcz1 : w5.cell? ⟨gb, 1, none⟩ = some (.int .i64 0) := (blk_cell hbox 1).trans rfl; have hcz2 : w5.cell? ⟨gb, 2, none⟩ = some (.int .i64 0) := (blk_cell hbox 2).trans rfl; have hfz0 := blk_frozen hbox 0; have hfz1 := blk_frozen hbox 1; have hfz2 := blk_frozen hbox 2; clear hg hbox hb) | ((with_reducible refine gate_store (t := 52) (p := 11) (v := .tmp 30) rfl ?_); refine store_event (w1 := (((w5.setCell ⟨gb, 0, none⟩ (.int .i64 y.f0.f0)).setCell ⟨gb, 1, none⟩ (.int .i64 y.f0.f1)).setCell ⟨gb, 2, none⟩ (.int .i64 y.f1))) rfl (t := 52) (p := 11) (v := .tmp 30) rfl rfl ?hr ?_; (case hr => first | (go_simp; done) | (go_simp; rfl)); intro w6 hw6; have hb6 : Below wr.heap.size wr w6 := (by rw [hw6]; exact ((HBX.out.setCell HGE.out _).setCell HGE.out _).setCell HGE.out _); have hW : w6.heap[gb]? = some (.cells #[(.int .i64 y.f0.f0), (.int .i64 y.f0.f1), (.int .i64 y.f1)] 52 (0, 0)) := (by rw [hw6]; exact blk_put (blk_put (blk_put BK.out 0 _ rfl) 1 _ rfl) 2 _ rfl); have e0 : w6.cell? ⟨gb, 0, none⟩ = some (.int .i64 y.f0.f0) := (blk_cell hW 0).trans rfl; have e1 : w6.cell? ⟨gb, 1, none⟩ = some (.int .i64 y.f0.f1) := (blk_cell hW 1).trans rfl; have e2 : w6.cell? ⟨gb, 2, none⟩ = some (.int .i64 y.f1) := (blk_cell hW 2).trans rfl; have B6 := Aside0.mk (below_step BB.out hb6); have L6 := Aside0.mk (LO.out.below hb6); have H6 := Aside0.mk (HIH.out.below hb6); have O6 := Aside0.mk (Kd.R_below HO.out hb6); have l0 := L6.out.c0; have l1 := L6.out.c1; have h0 := H6.out.c0; have h1 := H6.out.c1; clear hb6 hW hw6 hcz0 hcz1 hcz2 hfz0 hfz1 hfz2 HBX BK HGE))
            go_roundg (m - (k + 1))
            case measure => have := HKK.out; omega
            case rel =>
              refine ⟨k + 1, out, by first | rfl | simp, HKK.out, Nat.le_refl _, O6, B6, L6, H6, ⟨?_⟩, ⟨by have := HLO.out; omega⟩⟩
              have h := HQ2.out
              rw [HIN.out] at h
              exact h
        · have hdY1 : decide (y.f0.f1 ≥ ly) = false := decide_eq_false hY1
          have HIN : Aside0 (goIn ly hx hy (y :: D.drop (k + 1)) = goIn ly hx hy (D.drop (k + 1))) := ⟨by unfold goIn; rw [List.takeWhile_cons_of_pos (by have := HX.out; simp; omega), List.filter_cons_of_neg (by unfold inBox; rw [hdY1]; simp)]⟩
          clear hY1
          go_wp2_with (first | ((with_reducible refine gate_dst (N := 11) rfl ?_); refine box_event ?hg (N := 11) ?hd (cs := #[.int .i64 0, .int .i64 0, .int .i64 0]) (t := 52) ?hr ?_; (case hd => rfl); (case hg => rfl); (case hr => first | (go_simp; done) | (go_simp; rfl)); intro gb hg w5 hbox hb; have HBX := Aside0.mk hb; have BK := Aside0.mk hbox; have HGE := Aside0.mk (Nat.le_of_eq hg.symm); have hcz0 : w5.cell? ⟨gb, 0, none⟩ = some (.int .i64 0) := (blk_cell hbox 0).trans rfl; have hcz1 : w5.cell? ⟨gb, 1, none⟩ = some (.int .i64 0) := (blk_cell hbox 1).trans rfl; have hcz2 : w5.cell? ⟨gb, 2, none⟩ = some (.int .i64 0) := (blk_cell hbox 2).trans rfl; have hfz0 := blk_frozen hbox 0; have hfz1 := blk_frozen hbox 1; have hfz2 := blk_frozen hbox 2; clear hg hbox hb) | ((with_reducible refine gate_store (t := 52) (p := 11) (v := .tmp 30) rfl ?_); refine store_event (w1 := (((w5.setCell ⟨gb, 0, none⟩ (.int .i64 y.f0.f0)).setCell ⟨gb, 1, none⟩ (.int .i64 y.f0.f1)).setCell ⟨gb, 2, none⟩ (.int .i64 y.f1))) rfl (t := 52) (p := 11) (v := .tmp 30) rfl rfl ?hr ?_; (case hr => first | (go_simp; done) | (go_simp; rfl)); intro w6 hw6; have hb6 : Below wr.heap.size wr w6 := (by rw [hw6]; exact ((HBX.out.setCell HGE.out _).setCell HGE.out _).setCell HGE.out _); have hW : w6.heap[gb]? = some (.cells #[(.int .i64 y.f0.f0), (.int .i64 y.f0.f1), (.int .i64 y.f1)] 52 (0, 0)) := (by rw [hw6]; exact blk_put (blk_put (blk_put BK.out 0 _ rfl) 1 _ rfl) 2 _ rfl); have e0 : w6.cell? ⟨gb, 0, none⟩ = some (.int .i64 y.f0.f0) := (blk_cell hW 0).trans rfl; have e1 : w6.cell? ⟨gb, 1, none⟩ = some (.int .i64 y.f0.f1) := (blk_cell hW 1).trans rfl; have e2 : w6.cell? ⟨gb, 2, none⟩ = some (.int .i64 y.f1) := (blk_cell hW 2).trans rfl; have B6 := Aside0.mk (below_step BB.out hb6); have L6 := Aside0.mk (LO.out.below hb6); have H6 := Aside0.mk (HIH.out.below hb6); have O6 := Aside0.mk (Kd.R_below HO.out hb6); have l0 := L6.out.c0; have l1 := L6.out.c1; have h0 := H6.out.c0; have h1 := H6.out.c1; clear hb6 hW hw6 hcz0 hcz1 hcz2 hfz0 hfz1 hfz2 HBX BK HGE))
          go_roundg (m - (k + 1))
          case measure => have := HKK.out; omega
          case rel =>
            refine ⟨k + 1, out, by first | rfl | simp, HKK.out, Nat.le_refl _, O6, B6, L6, H6, ⟨?_⟩, ⟨by have := HLO.out; omega⟩⟩
            have h := HQ2.out
            rw [HIN.out] at h
            exact h
    · have hdk : decide ((k : Int) < (m : Int)) = false := decide_eq_false (fun h => hk (Int.ofNat_lt.1 h))
      have hdk2 : decide (k < m) = false := decide_eq_false hk
      have HKE := Aside0.mk (show D.drop k = [] from List.drop_of_length_le (by have := HM.out; omega))
      clear hk
      go_wp2
      go_ret
      refine ⟨_, rfl, ?_, BB.out⟩
      have h := HQ.out
      rw [HKE.out] at h
      simp [goIn] at h
      rw [← h]
      exact HO.out
set_option maxHeartbeats 4000000 in
set_option maxRecDepth 100000 in
theorem near_Copy.calls (bx : Nat) (s : Value) (l : List S52) (w : World) (hI : IdxAt w bx s l) (hf : Fits l) :
    Calls Try.prog 19 #[.pointer (some ⟨bx, 0, none⟩)] w fun e w' => ∃ v, e = .returned (.agg #[v]) ∧ Kd.R k52 52 w' w.heap.size (fun _ => True) v l ∧ Below w.heap.size w w' := by
  have HI := Aside0.mk hI
  have HF := Aside0.mk hf
  have B1 := Aside0.mk (below_alloc (Below.refl _ w) (.cells #[.slice none 0 0] 27))
  have BK1 := Aside0.mk (heap_alloc_new w (.cells #[.slice none 0 0] 27))
  clear hI hf
  go_enter Try.func19, Try.ntmps19
  go_wp2_with fail
  generalize w.alloc (.cells #[.slice none 0 0] 27) = w1 at B1 BK1 ⊢
  refine (near_All.calls bx s l w1 (HI.out.below B1.out) HF.out).mono ?_
  rintro e w2 ⟨v, rfl, ho, hb⟩
  have HO := Aside0.mk ho
  have B2 := Aside0.mk (below_step B1.out hb)
  have hbk := (hb.block _ (blk_lt BK1.out)).trans BK1.out
  have BK2 := Aside0.mk hbk
  obtain ⟨A, c, rfl⟩ := Kd.R_slice ho
  have hlt : w.heap.size < w1.heap.size := blk_lt BK1.out
  have hne : ∀ k, (Value.slice A l.length c).ownBlock = some k → k ≠ w.heap.size := fun k hk e => by have := Kd.R_base HO.out k hk; omega
  have hfin := R_same rfl HO.out (w1 := w2.setCell ⟨w.heap.size, 0, none⟩ (.slice A l.length c)) (fun k hk => Below.heap_setCell w2 ⟨w.heap.size, 0, none⟩ _ k (hne k hk))
  have HFIN := Aside0.mk (Kd.R_lower hfin (Nat.le_of_lt hlt))
  have HB3 := Aside0.mk (B2.out.setCell (Nat.le_refl _) (p := ⟨w.heap.size, 0, none⟩) (.slice A l.length c))
  have BK3 := Aside0.mk (blk_put (cs' := #[.slice A l.length c]) hbk 0 (.slice A l.length c) rfl)
  have hbk3 : (w2.setCell ⟨w.heap.size, 0, none⟩ (.slice A l.length c)).cell? ⟨w.heap.size, 0, none⟩ = some (.slice A l.length c) := (blk_cell (blk_put (cs' := #[.slice A l.length c]) hbk 0 _ rfl) 0).trans rfl
  have hc0 := blk_cell hbk 0
  have hz0 := blk_frozen hbk 0
  clear ho hb hbk hne hfin hlt
  go_wp2_with fail
  refine bodyPost_ret (results_single rfl (Vals.cell w.heap.size 27 #[.slice A l.length c] (0, 0) _ rfl BK3.out Try.underlying27 rfl (by kernel_rfl) Vals.nil)) rfl ?_
  exact ⟨_, rfl, HFIN.out, HB3.out⟩
end Go.Proofs.Ytcfgpfappidkaaa.F
