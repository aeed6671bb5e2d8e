/- cobweblaw08.made, walked by hand: an index and the document's row, of the same puts. Conditions: at most 120 puts. -/
import Derived.Test.YtcfgpfappidkaaaN6
namespace Go.Proofs.Ytcfgpfappidkaaa.F
open Go.RowKit Go.Proofs.YtcfgpfappidkaaaW.PrintWords Go.Proofs.YtcfgpfappidkaaaW.PrintLast Go.Proofs.YtcfgpfappidkaaaW.PrintMore
set_option linter.unusedVariables false
set_option linter.unusedSimpArgs false

def stepR (L : List S31) (e : S31) : List S31 := putR L e.f0.f0 e.f0.f1 e.f1
/-- The document's row of puts. -/
def putsR (l : List S31) : List S31 := l.foldl stepR []
theorem rising_putR {L : List S31} (h : Rising (rows L)) (qx qy v : Int) : Rising (rows (putR L qx qy v)) := by rw [rows_putR]; exact rising_putN h qx qy v
theorem putL_rows {L : List S31} (h : Rising (rows L)) (qx qy v : Int) : putL (rows L) qx qy v = rows (putR L qx qy v) := by rw [rows_putR, putL_eq qx qy v _ h]
theorem rows_len (L : List S31) : (rows L).length = L.length := List.length_map _
theorem putR_len {L : List S31} (h : Rising (rows L)) (qx qy v : Int) : (putR L qx qy v).length ≤ L.length + 1 := by
  have := putL_len (rows L) qx qy v
  rw [putL_rows h, rows_len, rows_len] at this
  exact this
theorem fits_rows {L : List S31} (h : L.length < 1000) : Fits (rows L) := by unfold Fits; rw [rows_len]; omega
theorem rd31_drop (D : List S31) (k : Nat) (h : k < D.length) : D.drop k = rd_T31 D (k : Int) :: D.drop (k + 1) := by
  rw [rd31 D k h]
  exact List.drop_eq_getElem_cons h
/-- An entry of the document's, at a place. -/
structure EntR (w : World) (p : Addr) (y : S31) : Prop where
  c0 : w.cell? p = some (.int .i64 y.f0.f0)
  c1 : w.cell? ⟨p.block, p.off + 1, none⟩ = some (.int .i64 y.f0.f1)
  c2 : w.cell? ⟨p.block, p.off + 2, none⟩ = some (.int .i64 y.f1)
theorem EntR.lt {w : World} {p : Addr} {y : S31} (h : EntR w p y) : p.block < w.heap.size := World.block_lt_of_cell? _ _ h.c0
theorem EntR.below {w w' : World} {b : Nat} {p : Addr} {y : S31} (h : EntR w p y) (hb : Below b w w') (hp : p.block < b) : EntR w' p y :=
  ⟨(hb.cell (p := p) hp).trans h.c0, (hb.cell (p := ⟨p.block, p.off + 1, none⟩) hp).trans h.c1, (hb.cell (p := ⟨p.block, p.off + 2, none⟩) hp).trans h.c2⟩
theorem entR_of {w : World} {A : Option Addr} {n : Nat} {xs : List S31} (h : Kd.C k31 w A n xs) (i : Int) (h0 : 0 ≤ i) (h1 : i < n) : ∃ ad, A = some ad ∧ EntR w (ad.add (i.toNat * 3)) (rd_T31 xs i) := by
  obtain ⟨ad, e, c0, c1, c2⟩ := at_T31 h i h0 h1
  exact ⟨ad, e, c0, c1, c2⟩
/-- An entry of the call's own, in block g. -/
def BoxE (w : World) (g : Nat) (y : S31) : Prop := w.heap[g]? = some (.cells #[.int .i64 y.f0.f0, .int .i64 y.f0.f1, .int .i64 y.f1] 31 (0, 0))
theorem BoxE.c0 {w : World} {g : Nat} {y : S31} (h : BoxE w g y) : w.cell? ⟨g, 0, none⟩ = some (.int .i64 y.f0.f0) := blk_cell h 0
theorem BoxE.c1 {w : World} {g : Nat} {y : S31} (h : BoxE w g y) : w.cell? ⟨g, 1, none⟩ = some (.int .i64 y.f0.f1) := blk_cell h 1
theorem BoxE.c2 {w : World} {g : Nat} {y : S31} (h : BoxE w g y) : w.cell? ⟨g, 2, none⟩ = some (.int .i64 y.f1) := blk_cell h 2
theorem BoxE.below {w w' : World} {g : Nat} {y : S31} (h : BoxE w g y) (hb : Below w.heap.size w w') : BoxE w' g y := (hb.block g (blk_lt h)).trans h
theorem ty_ne {w : World} {g g' : Nat} {cs cs' : Array Value} {t t' : TypeId} (h : w.heap[g]? = some (.cells cs t (0, 0))) (h' : w.heap[g']? = some (.cells cs' t' (0, 0))) (hne : t ≠ t') : g ≠ g' := blk_ne h h' hne
theorem BoxE.keep {w w' : World} {g bx : Nat} {y : S31} {s : Value} {l : List S52} (h : BoxE w g y) (hI : IdxAt w bx s l) (hk : Keeps w w' bx s.ownBlock) : BoxE w' g y :=
  (hk.blk g (blk_lt h) (blk_ne h hI.blk (by decide)) (Kd.R_ne hI.row h (by decide))).trans h
/-- The document's row stays as it is, whatever the index does. -/
theorem R31_keep {w w' : World} {bx base : Nat} {s v : Value} {l : List S52} {L : List S31} (h : Kd.R k31 31 w base (fun _ => True) v L) (hI : IdxAt w bx s l) (hk : Keeps w w' bx s.ownBlock) : Kd.R k31 31 w' base (fun _ => True) v L :=
  R_keep rfl h hk (fun k hv => by obtain ⟨cells, hc⟩ := Kd.R_typed h k hv; exact blk_ne hc hI.blk (by decide)) (fun k hv => by obtain ⟨cells, hc⟩ := Kd.R_typed h k hv; exact Kd.R_ne hI.row hc (by decide))
set_option maxHeartbeats 8000000 in
set_option maxRecDepth 100000 in
theorem made.calls (A : Option Addr) (c : Nat) (l : List S31) (w : World) (hr : Kd.C k31 w A l.length l) (hc : l.length ≤ c) (hl : l.length ≤ 120) :
    Calls Try.prog 15 #[.slice A l.length c] w fun e w' => ∃ bx s v, e = .returned (.tuple #[.pointer (some ⟨bx, 0, none⟩), v]) ∧ Idx w w' bx s (rows (putsR l)) ∧ Kd.R k31 31 w' w.heap.size (fun _ => True) v (putsR l) := by
  obtain ⟨R, hR⟩ : ∃ R, R = putsR l := ⟨_, rfl⟩
  rw [← hR]
  obtain ⟨n, hn⟩ : ∃ n, n = l.length := ⟨_, rfl⟩
  have HN := Aside0.mk hn
  rw [← hn] at hl ⊢
  have HL := Aside0.mk hl
  have HC := Aside0.mk hr
  have I0 := Aside0.mk (Idx.new w)
  have HR := Aside0.mk hR
  clear hr hc hl hn hR
  go_enter Try.func15, Try.ntmps15
  go_wp2_with fail
  go_loopg [5, 12] n (fun kx s5 s12 wr => ∃ (k : Nat) (s : Value) (L : List S31), s12 = .int .i64 k ∧ k ≤ n ∧ n - k ≤ kx ∧ Aside0 (Idx w wr w.heap.size s (rows L)) ∧ Aside0 (Kd.R k31 31 wr w.heap.size (fun _ => True) s5 L) ∧ Aside0 (Rising (rows L)) ∧ Aside0 (L.length ≤ k) ∧ Aside0 ((l.drop k).foldl stepR L = R))
  case atStart => exact ⟨0, .slice none 0 0, [], rfl, Nat.zero_le _, by omega, I0, ⟨Kd.R_nil _ _ _ _ _⟩, ⟨List.Pairwise.nil⟩, ⟨Nat.le_refl _⟩, ⟨by rw [List.drop_zero, HR.out]; rfl⟩⟩
  case round =>
    clear I0
    obtain ⟨k, s, L, rfl, hkm, hkx, HI, HO, HS, HLL, HQ⟩ := hrel
    by_cases hk : k < n
    · have hkd : k < l.length := by rw [← HN.out]; exact hk
      have hdk : decide ((k : Int) < (n : Int)) = true := decide_eq_true (Int.ofNat_lt.2 hk)
      have q1 : (0 ≤ (k : Int)) = True := eq_true (Int.natCast_nonneg k)
      have q2 : ((k : Int) < (n : Int)) = True := eq_true (Int.ofNat_lt.2 hk)
      obtain ⟨ad, e1, ee⟩ := entR_of HC.out (k : Int) (Int.natCast_nonneg k) (by rw [← HN.out]; exact Int.ofNat_lt.2 hk)
      cases e1
      rw [Int.toNat_natCast] at ee
      have EE := ee.below (b := w.heap.size) HI.out.bel ee.lt
      have c0 := EE.c0
      have c1 := EE.c1
      have c2 := EE.c2
      have hdrop := rd31_drop l k hkd
      generalize rd_T31 l (k : Int) = y at EE c0 c1 c2 hdrop ee
      have HQ2 : Aside0 ((l.drop (k + 1)).foldl stepR (putR L y.f0.f0 y.f0.f1 y.f1) = R) := ⟨by have := HQ.out; rw [hdrop] at this; exact this⟩
      have hw : IntKind.i64.wrap ((k : Int) + 1) = (k : Int) + 1 := by rw [i64_w]; exact w64_succ k (Nat.lt_of_lt_of_le hk (Nat.le_trans HL.out (by decide)))
      have HKK := Aside0.mk hk
      have HLT : Aside0 (L.length < 200) := ⟨by have := HLL.out; have := HL.out; omega⟩
      clear EE ee hdrop hkd hk HQ
      have hb1 := below_alloc (Below.refl wr.heap.size wr) (.cells #[.int .i64 y.f0.f0, .int .i64 y.f0.f1, .int .i64 y.f1] 31)
      have HBX := Aside0.mk (show BoxE (wr.alloc (.cells #[.int .i64 y.f0.f0, .int .i64 y.f0.f1, .int .i64 y.f1] 31)) wr.heap.size y from heap_alloc_new wr _)
      have I1 := Aside0.mk (HI.out.below hb1)
      have O1 := Aside0.mk (Kd.R_below HO.out hb1)
      have b0 := HBX.out.c0
      have b1 := HBX.out.c1
      have b2 := HBX.out.c2
      clear hb1 HI HO
      go_wp2_with fail
      generalize wr.alloc (.cells #[.int .i64 y.f0.f0, .int .i64 y.f0.f1, .int .i64 y.f1] 31) = w1 at HBX I1 O1 b0 b1 b2 ⊢
      generalize wr.heap.size = gE at HBX b0 b1 b2 ⊢
      clear c0 c1 c2 b0 b1 b2
      refine (near_Put.calls w.heap.size s (rows L) y.f0.f0 y.f0.f1 y.f1 w1 I1.out.ix HS.out (fits_rows (by have := HLT.out; omega))).mono ?_
      rintro e w2 hp
      rw [putL_rows HS.out] at hp
      obtain ⟨s2, rfl, hi, hk, ha⟩ := I1.out.put hp
      have I2 := Aside0.mk hi
      have O2 := Aside0.mk (R31_keep O1.out I1.out.ix hk)
      have B2 := Aside0.mk (HBX.out.keep I1.out.ix hk)
      have b0 := B2.out.c0
      have b1 := B2.out.c1
      have b2 := B2.out.c2
      clear hp hi hk ha O1 I1 HBX
      generalize has (rows L) y.f0.f0 y.f0.f1 = zz
      obtain ⟨A5, c5, e5, hcc, hC5⟩ := Kd.R_reads O2.out
      subst e5
      have HC5 := Aside0.mk hC5
      have HCC := Aside0.mk hcc
      clear hC5 hcc
      go_wp2_with fail
      refine (cobwebref08_Put.calls (L.length + L.length + 2) A5 c5 L y.f0.f0 y.f0.f1 y.f1 _ w2 HC5.out HCC.out (Put_eq L _ _ _ (Nat.lt_trans HLT.out (by decide)))).mono ?_
      rintro e w3 ⟨v3, rfl, ho, hb⟩
      have I3 := Aside0.mk (I2.out.below hb)
      have O3 := Aside0.mk (Kd.R_lower ho I2.out.bel.size)
      clear ho hb I2 O2 B2 b0 b1 b2
      go_wp2_with fail
      go_roundg (n - (k + 1))
      case measure => have := HKK.out; omega
      case rel => exact ⟨k + 1, s2, _, by first | rfl | simp, HKK.out, Nat.le_refl _, I3, O3, ⟨rising_putR HS.out _ _ _⟩, ⟨by have := putR_len HS.out y.f0.f0 y.f0.f1 y.f1; have := HLL.out; omega⟩, HQ2⟩
    · have hdk : decide ((k : Int) < (n : Int)) = false := decide_eq_false (fun h => hk (Int.ofNat_lt.1 h))
      have hdk2 : decide (k < n) = false := decide_eq_false hk
      have hLR : L = R := by have := HQ.out; rw [List.drop_of_length_le (by have := HN.out; omega)] at this; exact this
      have HE := Aside0.mk hLR
      clear hk hLR
      go_wp2
      go_ret2
      exact ⟨w.heap.size, s, _, rfl, HE.out ▸ HI.out, HE.out ▸ HO.out⟩
end Go.Proofs.Ytcfgpfappidkaaa.F
