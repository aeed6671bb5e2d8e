/- copy of rows of entries, and what a row is in which one entry more is laid: words for slices.Insert. -/
import Derived.Test.YtcfgpfappidkaaaN1
import Derived.Lib.Overlaps
import Derived.Lib.AppendZerosOnto
namespace Go.Proofs.Ytcfgpfappidkaaa.F
open Go.RowKit Go.Proofs.YtcfgpfappidkaaaW.PrintWords Go.Proofs.YtcfgpfappidkaaaW.PrintLast Go.Proofs.YtcfgpfappidkaaaW.PrintMore
set_option linter.unusedVariables false
set_option linter.unusedSimpArgs false
/-- The cells of an entry. -/
def V3 (x : S52) : List Value := [.int .i64 x.f0.f0, .int .i64 x.f0.f1, .int .i64 x.f1]
theorem V3_one (x : S52) : ∀ v ∈ V3 x, v.oneCell' = true := by
  intro v hv
  simp [V3] at hv
  rcases hv with rfl | rfl | rfl <;> rfl
theorem run_copyK (w : World) (dT sT ty elem : TypeId) (g o dLen dCap : Nat) (a : Addr) (sLen sCap : Nat) (cur : Array Value) (t : TypeId) (cs : List Value) (i : TypeInfo) (size : Nat)
    (hu : Try.prog.underlying dT = some (.slice elem)) (hi : Try.prog.info? elem = some i) (hs : i.size = size)
    (hg : w.heap[g]? = some (.cells cur t (0, 0))) (n : Nat) (hm : Nat.min sLen dLen = n) (hn : cs.length = n * size)
    (hsrc : ∀ j v, cs[j]? = some v → w.cell? (a.add j) = some v) (hfit : o + cs.length ≤ cur.size) (h1 : ∀ v ∈ cs, v.oneCell' = true) :
    (Builtin.copy_ #[dT, sT] ty #[.slice (some ⟨g, o, none⟩) dLen dCap, .slice (some a) sLen sCap]).run Try.prog w =
      .ok (goInt n) (w.setRow g (cur.toList.take o ++ cs ++ cur.toList.drop (o + cs.length)).toArray) := by
  have hl := run_loadCells_list (P := Try.prog) w a cs hsrc
  have hst := run_storeCells_at Try.prog g o t cs 0 cur w hg (by simpa using hfit) h1
  subst hs
  simp [Builtin.copy_, run_underlying hu, Builtin.lenOf, Builtin.firstCells, sizeOf, typeInfo, hi, hm, ← hn, hl, hst]
theorem setRow_heapEq {w w' : World} (h : w.heap = w'.heap) (g : Nat) (cs : Array Value) : (w.setRow g cs).heap = (w'.setRow g cs).heap := by
  unfold World.setRow
  simp only
  rw [h]
theorem splice_take (L M : List Value) (a : Nat) (ha : a ≤ L.length) : (L.take a ++ M ++ L.drop (a + M.length)).take (a + M.length) = L.take a ++ M := by
  rw [List.take_append_of_le_length (by simp; omega), List.take_of_length_le (by simp; omega)]
theorem splice_head (L M : List Value) (a b : Nat) (ha : a ≤ b) (hb : b ≤ L.length) : (L.take b ++ M ++ L.drop (b + M.length)).take a = L.take a := by
  rw [List.append_assoc, List.take_append_of_le_length (by simp; omega), List.take_take, Nat.min_eq_left ha]
theorem splice_len (L M : List Value) (a : Nat) (ha : a + M.length ≤ L.length) : (L.take a ++ M ++ L.drop (a + M.length)).length = L.length := by
  simp; omega
theorem shift_list (cur inner D C1 C2 V : List Value) (i n : Nat) (hi : i < n) (hl : (n + 1) * 3 ≤ cur.length) (ht : cur.take (n * 3) = inner) (hD : D = inner.drop (i * 3)) (hC1 : C1 = cur.take ((i + 1) * 3) ++ D ++ cur.drop ((i + 1) * 3 + D.length))
    (hV : V.length = 3) (hC2 : C2 = C1.take (i * 3) ++ V ++ C1.drop (i * 3 + V.length)) : C2.length = cur.length ∧ C2.take ((n + 1) * 3) = inner.take (i * 3) ++ (V ++ inner.drop (i * 3)) := by
  have hlen : inner.length = n * 3 := by rw [← ht, List.length_take]; omega
  have hDl : D.length = (n - i) * 3 := by rw [hD, List.length_drop, hlen, Nat.sub_mul]
  have hC1l : C1.length = cur.length := by rw [hC1, splice_len _ _ _ (by omega)]
  have e1 : C1.take (i * 3) = inner.take (i * 3) := by rw [hC1, splice_head _ _ _ _ (by omega) (by omega), ← ht, List.take_take, Nat.min_eq_left (by omega)]
  have e2 : C1.drop (i * 3 + V.length) = D ++ cur.drop ((i + 1) * 3 + D.length) := by
    rw [hC1, List.append_assoc]
    exact List.drop_left' (by rw [List.length_take]; omega)
  refine ⟨by rw [hC2, splice_len _ _ _ (by omega), hC1l], ?_⟩
  rw [hC2, e1, e2, ← List.append_assoc, ← List.append_assoc (inner.take (i * 3)), hD.symm]
  exact List.take_left' (by simp only [List.length_append, List.length_take]; omega)
/-- One entry more at place i. -/
def ins (l : List S52) (i : Nat) (x : S52) : List S52 := l.take i ++ ([x] ++ l.drop i)
theorem ins_len (l : List S52) (i : Nat) (x : S52) (hi : i ≤ l.length) : (ins l i x).length = l.length + 1 := by simp [ins]; omega
theorem reps_ins {R R' : S52 → List Value → Prop} {l : List S52} {inner : List Value} (h : Reps R 3 l inner) (hR : ∀ p c, R p c → R' p c) (i : Nat) (hi : i ≤ l.length) (x : S52) (hx : R' x (V3 x)) :
    Reps R' 3 (ins l i x) (inner.take (i * 3) ++ (V3 x ++ inner.drop (i * 3))) := by
  have h' := h.imp_ hR
  refine Kd.reps_append (Kd.reps_take h' hi) (Kd.reps_append ?_ (Kd.reps_drop h'))
  refine ⟨by simp [V3], fun j p hj => ?_⟩
  cases j with
  | zero => simp at hj; subst hj; simpa [V3] using hx
  | succ j => simp at hj
/-- A row of entries of one's own in block g, once its cells are these. -/
theorem R_made {w1 : World} {g cap : Nat} {cur : Array Value} {l : List S52} {inner : List Value} {R : S52 → List Value → Prop} (hg : w1.heap[g]? = some (.cells cur 52 (0, 0))) (hn : l.length ≤ cap) (hc : cap ≤ maxLen) (hs : cur.size = cap * 3)
    (ht : cur.toList.take (l.length * 3) = inner) (hr : Reps R 3 l inner) (hR : ∀ p c, R p c → c = V3 p) : Kd.R k52 52 w1 0 (fun _ => True) (.slice (some ⟨g, 0, none⟩) l.length cap) l := by
  refine ⟨fun _ _ => trivial, inner, ⟨(by rw [← ht, List.length_take]; have : l.length * 3 ≤ cap * 3 := Nat.mul_le_mul_right _ hn; simp; omega : inner.length = l.length * 3), .inr ⟨g, cap, cur, rfl, Nat.zero_le _, hg, hn, hc, hs, ht⟩⟩, hr.imp_ (fun p c h => ?_)⟩
  rw [hR p c h]
  exact k52_mkM _ _ _ p
theorem hov {w : World} {g vb : Nat} {cur vc : Array Value} {tg tv : TypeId} (hg : w.heap[g]? = some (.cells cur tg (0, 0))) (hv : w.heap[vb]? = some (.cells vc tv (0, 0))) (hne : vb ≠ g) (hc : cur.size ≠ 0) (lb cb o n c : Nat) :
    (callFunc 27 #[.slice (some ⟨vb, 0, none⟩) n c, .slice (some ⟨g, o, none⟩) lb cb]).run Try.prog w = .ok (.value (.bool false)) w := by
  rw [run_callFunc_extern Try.func27 (by kernel_rfl) (by kernel_rfl) (by kernel_rfl) (e := Extern.SlicesOverlaps.overlaps #[25, 25] #[4]) (by kernel_rfl),
    Lib.run_overlaps_apart w 25 4 52 Try.underlying25 3 Try.sizeOf52 ⟨vb, 0, none⟩ ⟨g, o, none⟩ n c lb cb hne tv tg vc.size cur.size (by simp [World.shape?, hv]) (by simp [World.shape?, hg]) hc (blk_frozen hv 0) (blk_frozen hv _)]
  rfl
end Go.Proofs.Ytcfgpfappidkaaa.F
