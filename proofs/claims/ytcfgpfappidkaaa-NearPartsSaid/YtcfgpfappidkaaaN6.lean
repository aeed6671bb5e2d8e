/- cobweblaw08: alive answers true; an index through its puts (Idx), walked by hand. -/
import Derived.Test.YtcfgpfappidkaaaPN
namespace Go.Proofs.Ytcfgpfappidkaaa.F
open Go.RowKit Go.Proofs.YtcfgpfappidkaaaW.PrintWords Go.Proofs.YtcfgpfappidkaaaW.PrintLast Go.Proofs.YtcfgpfappidkaaaW.PrintMore
set_option linter.unusedVariables false
set_option linter.unusedSimpArgs false

/-- An index of the call's own, since world w0. -/
structure Idx (w0 w : World) (bx : Nat) (s : Value) (l : List S52) : Prop where
  ix : IdxAt w bx s l
  bel : Below w0.heap.size w0 w
  bx_ge : w0.heap.size ≤ bx
  s_ge : ∀ k, s.ownBlock = some k → w0.heap.size ≤ k
theorem Idx.below {w0 w w' : World} {bx : Nat} {s : Value} {l : List S52} (h : Idx w0 w bx s l) (hb : Below w.heap.size w w') : Idx w0 w' bx s l :=
  ⟨h.ix.below hb, below_step h.bel hb, h.bx_ge, h.s_ge⟩
theorem Idx.put {w0 w w' : World} {bx : Nat} {s : Value} {l l' : List S52} {z : Bool} {e : Ending} (h : Idx w0 w bx s l) (hp : PutPost bx s l w z l' e w') :
    ∃ s', e = .returned (.bool (!z)) ∧ Idx w0 w' bx s' l' ∧ Keeps w w' bx s.ownBlock ∧ (s'.ownBlock = s.ownBlock ∨ ∃ b, s'.ownBlock = some b ∧ w.heap.size ≤ b) := by
  obtain ⟨s', rfl, hi, hk, ha⟩ := hp
  refine ⟨s', rfl, ⟨hi, h.bel.trans ⟨hk.os, hk.tape, hk.output, hk.size, fun k hlt => hk.blk k (Nat.lt_of_lt_of_le hlt h.bel.size) (fun e => by have := h.bx_ge; omega) (fun e => by have := h.s_ge k e.symm; omega)⟩, h.bx_ge, fun k hk2 => ?_⟩, hk, ha⟩
  rcases ha with ha | ⟨b, ha, hb⟩
  · rw [ha] at hk2; exact h.s_ge k hk2
  · rw [ha] at hk2; injection hk2 with hk2; have := h.bel.size; omega
theorem Idx.new (w : World) : Idx w (w.alloc (.cells #[.slice none 0 0] 27)) w.heap.size (.slice none 0 0) [] :=
  ⟨⟨heap_alloc_new w _, Kd.R_nil _ _ _ _ _, by simp [Value.ownBlock]⟩, below_alloc (Below.refl _ _) _, Nat.le_refl _, fun k hk => by simp [Value.ownBlock] at hk⟩
def e127 : S52 := ⟨⟨1, 2⟩, 7⟩
def e098 : S52 := ⟨⟨0, 9⟩, 8⟩
def e096 : S52 := ⟨⟨0, 9⟩, 6⟩
theorem rise1 : Rising [e127] := List.pairwise_singleton _ _
theorem rise2 : Rising [e098, e127] := List.pairwise_cons.2 ⟨fun e he => by rw [List.mem_singleton.1 he]; decide, List.pairwise_singleton _ _⟩
theorem rise3 : Rising [e096, e127] := List.pairwise_cons.2 ⟨fun e he => by rw [List.mem_singleton.1 he]; decide, List.pairwise_singleton _ _⟩
theorem alive_p1 : putL [] 1 2 7 = [e127] := rfl
theorem alive_p2 : putL [e127] 0 9 8 = [e098, e127] := rfl
theorem alive_p3 : putL [e098, e127] 0 9 6 = [e096, e127] := rfl
theorem alive_in : inL [e096, e127] 0 0 1 5 = [e127] := rfl
theorem R_keep {e : Nat} {α : Type} {d : Kd α} (hE : d.E = []) {w w1 : World} {bx base : Nat} {row : Option Nat} {v : Value} {l : List α} (h : Kd.R d e w base (fun _ => True) v l) (hk : Keeps w w1 bx row) (h1 : ∀ k, v.ownBlock = some k → k ≠ bx) (h2 : ∀ k, v.ownBlock = some k → some k ≠ row) : Kd.R d e w1 base (fun _ => True) v l :=
  R_same hE h (fun k hv => hk.blk k (Kd.R_lt h k hv) (h1 k hv) (h2 k hv))
set_option maxHeartbeats 8000000 in
set_option maxRecDepth 100000 in
theorem alive08.calls (w : World) : Calls Try.prog 8 #[] w fun e w' => e = .returned (.bool true) ∧ Below w.heap.size w w' := by
  have I0 := Aside0.mk (Idx.new w)
  obtain ⟨bx, hbx⟩ : ∃ b, b = w.heap.size := ⟨_, rfl⟩
  rw [← hbx] at I0
  go_enter Try.func8, Try.ntmps8
  rw [← hbx]
  go_wp2_with fail
  try rw [← hbx]
  have HBX := Aside0.mk hbx
  clear hbx
  refine (near_Put.calls bx _ [] 1 2 7 _ I0.out.ix List.Pairwise.nil (by unfold Fits; decide)).mono ?_
  rintro e w1 hp
  rw [show has [] 1 2 = false from rfl, alive_p1] at hp
  obtain ⟨s1, rfl, hi, hk, ha⟩ := I0.out.put hp
  have I1 := Aside0.mk hi
  clear hp hi hk ha I0
  go_wp2_with fail
  refine (near_Put.calls bx _ [e127] 0 9 8 _ I1.out.ix rise1 (by unfold Fits; decide)).mono ?_
  rintro e w2 hp
  rw [show has [e127] 0 9 = false from rfl, alive_p2] at hp
  obtain ⟨s2, rfl, hi, hk, ha⟩ := I1.out.put hp
  have I2 := Aside0.mk hi
  clear hp hi hk ha I1
  go_wp2_with fail
  refine (near_Put.calls bx _ [e098, e127] 0 9 6 _ I2.out.ix rise2 (by unfold Fits; decide)).mono ?_
  rintro e w3 hp
  rw [show has [e098, e127] 0 9 = true from rfl, alive_p3] at hp
  obtain ⟨s3, rfl, hi, hk, ha⟩ := I2.out.put hp
  have I3 := Aside0.mk hi
  clear hp hi hk ha I2
  go_wp2_with fail
  refine (near_Get.calls bx _ [e096, e127] 0 9 _ I3.out.ix rise3 (by unfold Fits; decide)).mono ?_
  rw [show has [e096, e127] 0 9 = true from rfl, show valOf [e096, e127] 0 9 = 6 from rfl]
  rintro e w4 ⟨rfl, hb⟩
  have I4 := Aside0.mk (I3.out.below hb)
  clear I3 hb
  go_wp2_with fail
  refine (near_Get.calls bx _ [e096, e127] 1 0 _ I4.out.ix rise3 (by unfold Fits; decide)).mono ?_
  rw [show has [e096, e127] 1 0 = false from rfl, show valOf [e096, e127] 1 0 = 0 from rfl]
  rintro e w5 ⟨rfl, hb⟩
  have I5 := Aside0.mk (I4.out.below hb)
  clear I4 hb
  go_wp2_with fail
  refine (near_In.calls bx _ [e096, e127] 0 0 1 5 _ I5.out.ix rise3 (by unfold Fits; decide)).mono ?_
  rw [alive_in]
  rintro e w6 ⟨v6, rfl, ho6, hb⟩
  have I6 := Aside0.mk (I5.out.below hb)
  obtain ⟨g6, c6, rfl, _⟩ := Kd.R_form ho6 (by decide)
  have O6 := Aside0.mk ho6
  clear I5 hb ho6
  go_wp2_with fail
  refine (near_All.calls bx _ [e096, e127] _ I6.out.ix (by unfold Fits; decide)).mono ?_
  rintro e w7 ⟨v7, rfl, ho7, hb⟩
  have I7 := Aside0.mk (I6.out.below hb)
  have P7 := Aside0.mk (Kd.R_below O6.out hb)
  obtain ⟨g7, c7, rfl, _⟩ := Kd.R_form ho7 (by decide)
  have O7 := Aside0.mk ho7
  clear I6 hb ho7 O6
  go_wp2_with fail
  refine (near_Copy.calls bx _ [e096, e127] _ I7.out.ix (by unfold Fits; decide)).mono ?_
  rintro e w8 ⟨v8, rfl, ho8, hb⟩
  have I8 := Aside0.mk (I7.out.below hb)
  have P8 := Aside0.mk (Kd.R_below P7.out hb)
  have Q8 := Aside0.mk (Kd.R_below O7.out hb)
  obtain ⟨g8, c8, rfl, _⟩ := Kd.R_form ho8 (by decide)
  have O8 := Aside0.mk ho8
  clear I7 hb ho8 O7 P7
  go_wp2_with fail
  have hb9 := below_alloc (Below.refl w8.heap.size w8) (.cells #[.slice (some ⟨g8, 0, none⟩) 2 c8] 27)
  have I9 := Aside0.mk (I8.out.below hb9)
  have P9 := Aside0.mk (Kd.R_below P8.out hb9)
  have Q9 := Aside0.mk (Kd.R_below Q8.out hb9)
  have K9 : Aside0 (IdxAt (w8.alloc (.cells #[.slice (some ⟨g8, 0, none⟩) 2 c8] 27)) w8.heap.size (.slice (some ⟨g8, 0, none⟩) 2 c8) [e096, e127]) := ⟨⟨heap_alloc_new w8 _, Kd.R_lower (Kd.R_below O8.out hb9) (Nat.zero_le _), fun e => by have := Kd.R_lt O8.out _ e.symm; exact absurd this (Nat.lt_irrefl _)⟩⟩
  generalize w8.alloc (.cells #[.slice (some ⟨g8, 0, none⟩) 2 c8] 27) = w9 at I9 P9 Q9 K9 ⊢
  generalize w8.heap.size = b9 at K9 ⊢
  clear hb9 I8 P8 Q8 O8
  refine (near_Len.calls bx _ [e096, e127] _ I9.out.ix).mono ?_
  rintro e w10 ⟨rfl, rfl⟩
  obtain ⟨ad6, h6, e6⟩ := ent_of (Kd.R_reads' P9.out).2.2 0 (by decide) (by decide)
  obtain ⟨ad7, h7, e7⟩ := ent_of (Kd.R_reads' Q9.out).2.2 0 (by decide) (by decide)
  cases h6
  cases h7
  have f6 : w10.cell? ⟨g6, 2, none⟩ = some (.int .i64 7) := e6.c2
  have f7 : w10.cell? ⟨g7, 2, none⟩ = some (.int .i64 6) := e7.c2
  clear e6 e7
  go_wp2_with fail
  refine (near_Len.calls b9 _ [e096, e127] _ K9.out).mono ?_
  rintro e w11 ⟨rfl, rfl⟩
  go_wp2_with fail
  go_ret
  exact ⟨rfl, HBX.out ▸ I9.out.bel⟩
end Go.Proofs.Ytcfgpfappidkaaa.F
