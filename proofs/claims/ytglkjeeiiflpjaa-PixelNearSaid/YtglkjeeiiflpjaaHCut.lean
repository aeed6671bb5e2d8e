/- What is left of a segment: the walk of pixel's cut. -/
import Derived.Test.YtglkjeeiiflpjaaHRest
namespace Go.Proofs.Ytglkjeeiiflpjaa.F
open Go.RowKit Go.Proofs.YtglkjeeiiflpjaaW.PrintWords Go.Proofs.YtglkjeeiiflpjaaW.PrintLast Go.Proofs.YtglkjeeiiflpjaaW.PrintMore
set_option linter.unusedVariables false
set_option linter.unusedSimpArgs false
open PxM (Bd)
theorem run_store_func' {P : Program} {w : World} (a : Addr) (f : Fn) (x y : Array Value) (m : Mode) : (store a (.func f x y) m).run P w = stored P w a (.func f x y) m := run_store P w a _ m rfl
attribute [local go_sem] run_store_func'
theorem lit_below25 (w : World) (B : Nat) : Below w.heap.size w (w.alloc (.cells #[.func (.func 41) #[.pointer (some ⟨B, 0, none⟩)] #[], .func (.func 42) #[.pointer (some ⟨B, 0, none⟩)] #[]] 72)) := below_alloc (Below.refl w.heap.size w) _
set_option maxHeartbeats 4000000 in
set_option maxRecDepth 100000 in
theorem rest_cut.calls (B : Nat) (r : PxM.Rest) (fr dy limit : Int) (i : Bool) (w : World) (hr : RestAt w B r) (h1 : BdOk r.fr) (h2 : BdOk r.up) (ha : -1073741824 ≤ limit - fr) (hb : limit - fr ≤ 1073741824) (hc : -1073741824 ≤ dy) (hd : dy ≤ 1073741824) :
    Calls Try.prog 25 #[.pointer (some ⟨B, 0, none⟩), .int .i64 fr, .int .i64 dy, .int .i64 limit, .bool i] w fun e w' => e = .returned (.tuple #[]) ∧ RestAt w' B (PxM.cut r fr dy limit i) ∧ Below B w w' := by
  have hlt := hr.lt
  have HR := Aside0.mk hr
  have HB := Aside0.mk (Below.refl B w)
  have ew : wrap64 (limit - fr) = limit - fr := by unfold wrap64; omega
  clear hr
  by_cases c1 : 0 < dy
  · have e : PxM.cut r fr dy limit i = PxM.after r ⟨wrap64 (limit - fr), dy, i⟩ := by unfold PxM.cut; rw [if_pos c1, ew]
    have C := Aside0.mk (fun W hW => rest_after.calls B r ⟨wrap64 (limit - fr), dy, i⟩ W hW h1 ⟨by dsimp only; omega, by dsimp only; omega, c1, hd⟩)
    have c1b : decide (dy > 0) = true := decide_eq_true c1
    rw [e]
    clear e h1 h2 ha hb hc hd c1 ew
    go_enter Try.func25, Try.ntmps25
    go_wp2_with (go_at_call 41; have hb := lit_below25 w B; (with_reducible refine (C.out _ (HR.out.below hb)).mono ?_); rintro e w1 ⟨rfl, hr, hb1⟩; have HR1 := Aside0.mk hr; have HB1 := Aside0.mk ((HB.out.alloc (Nat.le_of_lt hlt) _).trans hb1); clear hr hb hb1)
    go_end0
    exact ⟨rfl, HR1.out, HB1.out⟩
  · have c1b : decide (dy > 0) = false := decide_eq_false c1
    by_cases c2 : dy < 0
    · have e3 : wrap64 (-dy) = -dy := by unfold wrap64; omega
      have e4 : wrap64 (-(limit - fr)) = -(limit - fr) := by unfold wrap64; omega
      have e : PxM.cut r fr dy limit i = PxM.upto r ⟨wrap64 (-(wrap64 (limit - fr))), wrap64 (-dy), i⟩ := by unfold PxM.cut; rw [if_neg c1, if_pos c2, ew, e3, e4]
      have C := Aside0.mk (fun W hW => rest_upto.calls B r ⟨wrap64 (-(wrap64 (limit - fr))), wrap64 (-dy), i⟩ W hW h2 ⟨by dsimp only; rw [ew, e4]; omega, by dsimp only; rw [ew, e4]; omega, by dsimp only; rw [e3]; omega, by dsimp only; rw [e3]; omega⟩)
      have c2b : decide (dy < 0) = true := decide_eq_true c2
      rw [e]
      clear e h1 h2 ha hb hc hd c1 c2 ew e3 e4
      go_enter Try.func25, Try.ntmps25
      go_wp2_with (go_at_call 42; have hb := lit_below25 w B; (with_reducible refine (C.out _ (HR.out.below hb)).mono ?_); rintro e w1 ⟨rfl, hr, hb1⟩; have HR1 := Aside0.mk hr; have HB1 := Aside0.mk ((HB.out.alloc (Nat.le_of_lt hlt) _).trans hb1); clear hr hb hb1)
      go_end0
      exact ⟨rfl, HR1.out, HB1.out⟩
    · have c2b : decide (dy < 0) = false := decide_eq_false c2
      have HW := Aside0.mk ew
      by_cases c3 : limit - fr > 0
      · have e : PxM.cut r fr dy limit i = { r with none := true } := by unfold PxM.cut; rw [if_neg c1, if_neg c2, if_pos (by simp; omega)]
        have c3b : decide (wrap64 (limit - fr) > 0) = true := decide_eq_true (by omega)
        clear h1 h2 ha hb hc hd c1 c2 ew c3
        have hb := lit_below25 w B
        have HR' := Aside0.mk (HR.out.below hb)
        have o0 := HR.out.c0
        have o1 := HR.out.c1
        have o2 := HR.out.c2
        have o3 := HR.out.c3
        have o4 := HR.out.c4
        have o5 := HR.out.c5
        have o6 := HR.out.c6
        have fz := HR.out.fz
        have HB' := Aside0.mk (HB.out.alloc (Nat.le_of_lt hlt) (.cells #[.func (.func 41) #[.pointer (some ⟨B, 0, none⟩)] #[], .func (.func 42) #[.pointer (some ⟨B, 0, none⟩)] #[]] 72))
        go_enter Try.func25, Try.ntmps25
        go_wp2_with fail
        go_end0
        refine ⟨rfl, ?_, ?_⟩
        · first | rw [e] | skip
          exact ⟨by go_simp, by go_simp, by go_simp, by go_simp, by go_simp, by go_simp, by go_simp, fun i => by refine Eq.trans (World.frozen?_alloc_old _ _ _ ?_) (Eq.trans (World.frozen?_setCell _ _ _ _) (HR.out.fz i)); first | (simp; done) | (simp; omega)⟩
        · repeat (first | exact HB.out | refine Below.setCell ?_ (by simp) _ | refine Below.alloc ?_ (by first | (simp; done) | (simp; omega)) _)
      · have c3b : decide (wrap64 (limit - fr) > 0) = false := decide_eq_false (by omega)
        by_cases c4 : limit - fr = 0
        · have c4b : (wrap64 (limit - fr) == 0) = true := by rw [ew, c4]; rfl
          cases i with
          | false =>
            have e : PxM.cut r fr dy limit false = { r with none := true } := by unfold PxM.cut; rw [if_neg c1, if_neg c2, if_pos (by simp; omega)]
            clear h1 h2 ha hb hc hd c1 c2 ew c3 c4
            have hb := lit_below25 w B
            have HR' := Aside0.mk (HR.out.below hb)
            have o0 := HR.out.c0
            have o1 := HR.out.c1
            have o2 := HR.out.c2
            have o3 := HR.out.c3
            have o4 := HR.out.c4
            have o5 := HR.out.c5
            have o6 := HR.out.c6
            have fz := HR.out.fz
            have HB' := Aside0.mk (HB.out.alloc (Nat.le_of_lt hlt) (.cells #[.func (.func 41) #[.pointer (some ⟨B, 0, none⟩)] #[], .func (.func 42) #[.pointer (some ⟨B, 0, none⟩)] #[]] 72))
            go_enter Try.func25, Try.ntmps25
            go_wp2_with fail
            go_end0
            refine ⟨rfl, ?_, ?_⟩
            · first | rw [e] | skip
              exact ⟨by go_simp, by go_simp, by go_simp, by go_simp, by go_simp, by go_simp, by go_simp, fun i => by refine Eq.trans (World.frozen?_alloc_old _ _ _ ?_) (Eq.trans (World.frozen?_setCell _ _ _ _) (HR.out.fz i)); first | (simp; done) | (simp; omega)⟩
            · repeat (first | exact HB.out | refine Below.setCell ?_ (by simp) _ | refine Below.alloc ?_ (by first | (simp; done) | (simp; omega)) _)
          | true =>
            have e : PxM.cut r fr dy limit true = r := by unfold PxM.cut; rw [if_neg c1, if_neg c2, if_neg (by simp; omega)]
            clear h1 h2 ha hb hc hd c1 c2 ew c3 c4
            have hb := lit_below25 w B
            have HR' := Aside0.mk (HR.out.below hb)
            have HB' := Aside0.mk (HB.out.alloc (Nat.le_of_lt hlt) (.cells #[.func (.func 41) #[.pointer (some ⟨B, 0, none⟩)] #[], .func (.func 42) #[.pointer (some ⟨B, 0, none⟩)] #[]] 72))
            go_enter Try.func25, Try.ntmps25
            go_wp2_with fail
            go_end0
            refine ⟨rfl, ?_, HB'.out⟩
            first | rw [e] | skip
            exact HR'.out
        · have c4b : (wrap64 (limit - fr) == 0) = false := by rw [ew]; simpa using c4
          have e : PxM.cut r fr dy limit i = r := by unfold PxM.cut; rw [if_neg c1, if_neg c2, if_neg (by simp; omega)]
          clear h1 h2 ha hb hc hd c1 c2 ew c3 c4
          have hb := lit_below25 w B
          have HR' := Aside0.mk (HR.out.below hb)
          have HB' := Aside0.mk (HB.out.alloc (Nat.le_of_lt hlt) (.cells #[.func (.func 41) #[.pointer (some ⟨B, 0, none⟩)] #[], .func (.func 42) #[.pointer (some ⟨B, 0, none⟩)] #[]] 72))
          go_enter Try.func25, Try.ntmps25
          go_wp2_with fail
          go_end0
          refine ⟨rfl, ?_, HB'.out⟩
          first | rw [e] | skip
          exact HR'.out
end Go.Proofs.Ytglkjeeiiflpjaa.F
