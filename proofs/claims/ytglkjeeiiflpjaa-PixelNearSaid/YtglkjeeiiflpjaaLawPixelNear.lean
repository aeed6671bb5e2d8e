/- whether a segment has a place that is no farther from a point than told is what the document says -/
import Derived.Test.YtglkjeeiiflpjaaRows
import Derived.Test.YtglkjeeiiflpjaaR
import Derived.Test.YtglkjeeiiflpjaaK5
import Derived.WalkKit
import Derived.ProofKit
import Derived.OpenShut
import Derived.ShutString
import Derived.ChangeOld
import Derived.Below
import Derived.SizedLaws
namespace Go.Proofs.Ytglkjeeiiflpjaa.pixelNear
open Go.ChangeShapes Go.WideShapes Go.ChangeAt Go.RowKit
open Go.ChangeMaps (open_string shut_string)
set_option linter.unusedVariables false
theorem own : ownKnob Try.prog.godebug = none := by kernel_rfl
theorem laidOut : laidOutB Try.prog = true := by kernel_rfl
theorem len2 {x : List Int} (h : x.length = 2) : ∃ a0 a1, x = [a0, a1] := by
  match x, h with
  | [a0, a1], _ => exact ⟨a0, a1, rfl⟩
theorem len4 {x : List Int} (h : x.length = 4) : ∃ a0 a1 a2 a3, x = [a0, a1, a2, a3] := by
  match x, h with
  | [a0, a1, a2, a3], _ => exact ⟨a0, a1, a2, a3, rfl⟩
/-- The row's closed facts, each a declaration of its own (the kernel's memory is given back behind each). -/
theorem amk {a b : Bool} (h : a = true) (k : b = true) : (a && b) = true := by rw [h, k]; rfl
theorem fact0 : (fun (P : Program) (f : FuncId) (fn : Func) (s : ChangeSpec) (c : OpenClaim) => (c.wf (OpenSpec.ofChange s) : Bool)) Try.pinned.checked.prog 5 Try.f5 Rows.pixelNearSpec Rows.pixelNearRow = true := by kernel_rfl
theorem fact1 : (fun (P : Program) (f : FuncId) (fn : Func) (s : ChangeSpec) (c : OpenClaim) => (laidOutB P : Bool)) Try.pinned.checked.prog 5 Try.f5 Rows.pixelNearSpec Rows.pixelNearRow = true := by kernel_rfl
theorem fact2 : (fun (P : Program) (f : FuncId) (fn : Func) (s : ChangeSpec) (c : OpenClaim) => (mapsRowed P : Bool)) Try.pinned.checked.prog 5 Try.f5 Rows.pixelNearSpec Rows.pixelNearRow = true := by kernel_rfl
theorem fact3 : (fun (P : Program) (f : FuncId) (fn : Func) (s : ChangeSpec) (c : OpenClaim) => (fn.params.all (P.readableRec ·) : Bool)) Try.pinned.checked.prog 5 Try.f5 Rows.pixelNearSpec Rows.pixelNearRow = true := by kernel_rfl
theorem fact4 : (fun (P : Program) (f : FuncId) (fn : Func) (s : ChangeSpec) (c : OpenClaim) => (namedTie P c.named s.vars : Bool)) Try.pinned.checked.prog 5 Try.f5 Rows.pixelNearSpec Rows.pixelNearRow = true := by kernel_rfl
theorem fact5 : (fun (P : Program) (f : FuncId) (fn : Func) (s : ChangeSpec) (c : OpenClaim) => ((c.stops == []) : Bool)) Try.pinned.checked.prog 5 Try.f5 Rows.pixelNearSpec Rows.pixelNearRow = true := by kernel_rfl
theorem fact6 : (fun (P : Program) (f : FuncId) (fn : Func) (s : ChangeSpec) (c : OpenClaim) => ((P.stops == []) : Bool)) Try.pinned.checked.prog 5 Try.f5 Rows.pixelNearSpec Rows.pixelNearRow = true := by kernel_rfl
theorem fact7 : (fun (P : Program) (f : FuncId) (fn : Func) (s : ChangeSpec) (c : OpenClaim) => ((c.knobs == []) : Bool)) Try.pinned.checked.prog 5 Try.f5 Rows.pixelNearSpec Rows.pixelNearRow = true := by kernel_rfl
theorem fact8 : (fun (P : Program) (f : FuncId) (fn : Func) (s : ChangeSpec) (c : OpenClaim) => ((P.stopKnobs == []) : Bool)) Try.pinned.checked.prog 5 Try.f5 Rows.pixelNearSpec Rows.pixelNearRow = true := by kernel_rfl
theorem fact9 : (fun (P : Program) (f : FuncId) (fn : Func) (s : ChangeSpec) (c : OpenClaim) => ((c.inPlace == P.inPlace f) : Bool)) Try.pinned.checked.prog 5 Try.f5 Rows.pixelNearSpec Rows.pixelNearRow = true := by kernel_rfl
theorem fact10 : (fun (P : Program) (f : FuncId) (fn : Func) (s : ChangeSpec) (c : OpenClaim) => ((c.unfollowed == P.unfollowed f) : Bool)) Try.pinned.checked.prog 5 Try.f5 Rows.pixelNearSpec Rows.pixelNearRow = true := by kernel_rfl
theorem fact11 : (fun (P : Program) (f : FuncId) (fn : Func) (s : ChangeSpec) (c : OpenClaim) => ((c.recurses == P.recurses f) : Bool)) Try.pinned.checked.prog 5 Try.f5 Rows.pixelNearSpec Rows.pixelNearRow = true := by kernel_rfl
theorem fact12 : (fun (P : Program) (f : FuncId) (fn : Func) (s : ChangeSpec) (c : OpenClaim) => ((c.named == P.varsNamed f) : Bool)) Try.pinned.checked.prog 5 Try.f5 Rows.pixelNearSpec Rows.pixelNearRow = true := by kernel_rfl
theorem fact13 : (fun (P : Program) (f : FuncId) (fn : Func) (s : ChangeSpec) (c : OpenClaim) => ((c.maps == (fn.params.toList ++ s.plain.varTypes P).any (P.mapsRec ·)) : Bool)) Try.pinned.checked.prog 5 Try.f5 Rows.pixelNearSpec Rows.pixelNearRow = true := by kernel_rfl
theorem fact14 : (fun (P : Program) (f : FuncId) (fn : Func) (s : ChangeSpec) (c : OpenClaim) => ((c.ifaces == (fn.params.toList ++ s.plain.varTypes P).any (P.ifacesRec ·)) : Bool)) Try.pinned.checked.prog 5 Try.f5 Rows.pixelNearSpec Rows.pixelNearRow = true := by kernel_rfl
theorem fact15 : (fun (P : Program) (f : FuncId) (fn : Func) (s : ChangeSpec) (c : OpenClaim) => ((c.mapsOut == P.mapsAmong fn.resultTypes.toList) : Bool)) Try.pinned.checked.prog 5 Try.f5 Rows.pixelNearSpec Rows.pixelNearRow = true := by kernel_rfl
theorem fact16 : (fun (P : Program) (f : FuncId) (fn : Func) (s : ChangeSpec) (c : OpenClaim) => ((c.loops == (fn.params.toList ++ s.plain.varTypes P).any (P.loopsFrom ·)) : Bool)) Try.pinned.checked.prog 5 Try.f5 Rows.pixelNearSpec Rows.pixelNearRow = true := by kernel_rfl
theorem fact17 : (fun (P : Program) (f : FuncId) (fn : Func) (s : ChangeSpec) (c : OpenClaim) => ((c.wideKeys == (fn.params.toList ++ s.plain.varTypes P ++ fn.resultTypes.toList).any (P.wideKeysFrom ·)) : Bool)) Try.pinned.checked.prog 5 Try.f5 Rows.pixelNearSpec Rows.pixelNearRow = true := by kernel_rfl
theorem fact18 : (fun (P : Program) (f : FuncId) (fn : Func) (s : ChangeSpec) (c : OpenClaim) => (s.vars.all (P.varReadable ·) : Bool)) Try.pinned.checked.prog 5 Try.f5 Rows.pixelNearSpec Rows.pixelNearRow = true := by kernel_rfl
theorem fact19 : (fun (P : Program) (f : FuncId) (fn : Func) (s : ChangeSpec) (c : OpenClaim) => (fn.resultTypes.all (fun t => P.readableRec t && decide (t < P.types.size)) : Bool)) Try.pinned.checked.prog 5 Try.f5 Rows.pixelNearSpec Rows.pixelNearRow = true := by kernel_rfl
theorem fact20 : (fun (P : Program) (f : FuncId) (fn : Func) (s : ChangeSpec) (c : OpenClaim) => ((c.ifacesOut == fn.resultTypes.toList.any (P.ifacesRec ·)) : Bool)) Try.pinned.checked.prog 5 Try.f5 Rows.pixelNearSpec Rows.pixelNearRow = true := by kernel_rfl
theorem fact21 : (fun (P : Program) (f : FuncId) (fn : Func) (s : ChangeSpec) (c : OpenClaim) => ((c.loopsOut == fn.resultTypes.toList.any (P.loopsFrom ·)) : Bool)) Try.pinned.checked.prog 5 Try.f5 Rows.pixelNearSpec Rows.pixelNearRow = true := by kernel_rfl
theorem fact22 : (fun (P : Program) (f : FuncId) (fn : Func) (s : ChangeSpec) (c : OpenClaim) => ((c.plainKeys == P.plainKeys) : Bool)) Try.pinned.checked.prog 5 Try.f5 Rows.pixelNearSpec Rows.pixelNearRow = true := by kernel_rfl
theorem fact23 : (fun (P : Program) (f : FuncId) (fn : Func) (s : ChangeSpec) (c : OpenClaim) => (c.shortTexts.isNone : Bool)) Try.pinned.checked.prog 5 Try.f5 Rows.pixelNearSpec Rows.pixelNearRow = true := by kernel_rfl
theorem fact24 : (fun (P : Program) (f : FuncId) (fn : Func) (s : ChangeSpec) (c : OpenClaim) => (P.stopsHeard : Bool)) Try.pinned.checked.prog 5 Try.f5 Rows.pixelNearSpec Rows.pixelNearRow = true := by kernel_rfl
theorem fact25 : (fun (P : Program) (f : FuncId) (fn : Func) (s : ChangeSpec) (c : OpenClaim) => (P.mayEnter : Bool)) Try.pinned.checked.prog 5 Try.f5 Rows.pixelNearSpec Rows.pixelNearRow = true := by kernel_rfl
theorem fact26 : (fun (P : Program) (f : FuncId) (fn : Func) (s : ChangeSpec) (c : OpenClaim) => ((c.lifted == P.liftsFinal) : Bool)) Try.pinned.checked.prog 5 Try.f5 Rows.pixelNearSpec Rows.pixelNearRow = true := by kernel_rfl
theorem fact27 : (fun (P : Program) (f : FuncId) (fn : Func) (s : ChangeSpec) (c : OpenClaim) => ((P.make == some c.make) : Bool)) Try.pinned.checked.prog 5 Try.f5 Rows.pixelNearSpec Rows.pixelNearRow = true := by kernel_rfl
theorem fact28 : (fun (P : Program) (f : FuncId) (fn : Func) (s : ChangeSpec) (c : OpenClaim) => ((c.kinds == (if c.domain.isEmpty then [] else fn.params.toList.map fun t => match P.underlying t with | some (.int k) => some k | _ => none)) : Bool)) Try.pinned.checked.prog 5 Try.f5 Rows.pixelNearSpec Rows.pixelNearRow = true := by kernel_rfl
theorem fact29 : (fun (P : Program) (f : FuncId) (fn : Func) (s : ChangeSpec) (c : OpenClaim) => ((c.pinned == c.pinnedBy) : Bool)) Try.pinned.checked.prog 5 Try.f5 Rows.pixelNearSpec Rows.pixelNearRow = true := by kernel_rfl
theorem fact30 : (fun (P : Program) (f : FuncId) (fn : Func) (s : ChangeSpec) (c : OpenClaim) => ((c.veiled == (fn.params.toList ++ s.plain.varTypes P ++ fn.resultTypes.toList).any (P.veiledRec ·)) : Bool)) Try.pinned.checked.prog 5 Try.f5 Rows.pixelNearSpec Rows.pixelNearRow = true := by kernel_rfl
theorem fact31 : (fun (P : Program) (f : FuncId) (fn : Func) (s : ChangeSpec) (c : OpenClaim) => (c.veiledFits P fn.params.toList (fn.params.toList ++ s.plain.varTypes P ++ fn.resultTypes.toList) : Bool)) Try.pinned.checked.prog 5 Try.f5 Rows.pixelNearSpec Rows.pixelNearRow = true := by kernel_rfl
set_option maxRecDepth 100000 in
theorem closed : joinedFacts Try.pinned.checked.prog 5 Try.f5 Rows.pixelNearSpec Rows.pixelNearRow = true := by
  unfold joinedFacts
  exact (amk (amk (amk (amk (amk (amk (amk (amk (amk (amk (amk (amk (amk (amk (amk (amk (amk (amk (amk (amk (amk (amk (amk (amk (amk (amk (amk (amk (amk (amk (amk fact0 fact1) fact2) fact3) fact4) fact5) fact6) fact7) fact8) fact9) fact10) fact11) fact12) fact13) fact14) fact15) fact16) fact17) fact18) fact19) fact20) fact21) fact22) fact23) fact24) fact25) fact26) fact27) fact28) fact29) fact30) fact31)
theorem instance_ : Try.f5.isInstance Try.pinned.checked.prog Rows.pixelNearRow.origin Rows.pixelNearRow.targs := of_decide_eq_true (by kernel_rfl)
theorem wrapped : Try.f5.isWrapper Try.pinned.checked.prog Rows.pixelNearRow.wrapper Rows.pixelNearRow.mainSum := by unfold Func.isWrapper; first | (rw [if_pos (by decide +kernel)]; kernel_rfl) | (rw [if_neg (by decide +kernel)]; exact ⟨rfl, rfl⟩)
theorem found : Try.pinned.checked.prog.funcNamed Rows.pixelNearRow.func = some 5 := by kernel_rfl
set_option maxHeartbeats 2000000 in
set_option maxRecDepth 100000 in
theorem lifted (os : Os) (started : os.Started) (H : Type) (enc : TypeId × Value → H) :
    ReturnsInHanded {} Try.checked os 5 .any (Rows.pixelNearSpec.pre6 enc Try.prog Try.f5 Rows.pixelNearRow.domain false) (Rows.pixelNearSpec.post enc Try.prog Try.f5 false true false false) := by
  refine returnsInHanded_of_change_sized (C := Try.checked) own started (by kernel_rfl) Try.func5
    (ChangeSpec.witness6 (enc := enc) (C := Try.checked) false ⟨#[], #[.agg #[.int .i64 0, .int .i64 0, .int .i64 0, .int .i64 0], .agg #[.int .i64 0, .int .i64 0], .int .i64 0], []⟩ 8 (by kernel_rfl) (by kernel_rfl) (by kernel_rfl) (by kernel_rfl)) ?_
  intro W base args ds gs before hval0 hW hcnd hsz0 _
  have hsz : (DataW.weightsEach Try.prog (Try.f5.params.toList ++ Rows.pixelNearSpec.plain.varTypes Try.prog) (ds ++ gs)).all (· ≤ reachBytes) = true := hsz0
  have hval : ∀ (j : Nat) t v, Try.f5.params[j]? = some t → args[j]? = some v → Value.okWide Try.prog W .any base t v := hval0
  have hW' := hW
  obtain ⟨p, q, hA0, hV, rfl, hfz, hnd⟩ := hW
  have hA : DataW.TrodAll enc Try.prog W 0 (fun _ => true) true Try.f5.params.toList args.toList ds p := hA0
  rw [Try.params5] at hA hval hsz
  obtain ⟨v0, vs0, d0, ds0, p0, q0, hargs, rfl, rfl, h0, r0⟩ := trodAll_cons hA
  obtain ⟨v1, vs1, d1, ds1, p1, q1, rfl, rfl, rfl, h1, r1⟩ := trodAll_cons r0
  obtain ⟨v2, vs2, d2, ds2, p2, q2, rfl, rfl, rfl, h2, r2⟩ := trodAll_cons r1
  obtain ⟨rfl, rfl, rfl⟩ := trodAll_nil r2
  obtain rfl : args = #[v0, v1, v2] := by cases args; simp_all
  obtain ⟨rfl, rfl⟩ := trodVars_none hV
  have k0 := h0
  have lt0 : ∀ x ∈ p0, x.block < W.heap.size := by obtain ⟨m, hm⟩ := k0; exact DataW.trod_lt m _ _ _ hm
  obtain ⟨x0, rfl, l0, w0⟩ := R.open_flat (k := 4) 4 (by kernel_rfl) (by first | exact .inl ⟨_, Try.underlying24⟩ | exact .inr ⟨_, _, Try.underlying24⟩) (by kernel_rfl) (hval 0 24 v0 rfl rfl) h0
  obtain ⟨c0_0, c0_1, c0_2, c0_3, rfl⟩ := len4 l0
  have k1 := h1
  have lt1 : ∀ x ∈ p1, x.block < W.heap.size := by obtain ⟨m, hm⟩ := k1; exact DataW.trod_lt m _ _ _ hm
  obtain ⟨x1, rfl, l1, w1⟩ := R.open_flat (k := 4) 2 (by kernel_rfl) (by first | exact .inl ⟨_, Try.underlying23⟩ | exact .inr ⟨_, _, Try.underlying23⟩) (by kernel_rfl) (hval 1 23 v1 rfl rfl) h1
  obtain ⟨c1_0, c1_1, rfl⟩ := len2 l1
  obtain ⟨a2, rfl, rfl, rfl, w2⟩ := open_int Try.underlying3 (hval 2 3 v2 rfl rfl) h2
  clear hA0 hval0 hsz0 hsz
  refine (R.PixelNear_walk c0_0 c0_1 c0_2 c0_3 c1_0 c1_1 a2 W (w0 c0_0 (by simp)) (w0 c0_1 (by simp)) (w0 c0_2 (by simp)) (w0 c0_3 (by simp)) (w1 c1_0 (by simp)) (w1 c1_1 (by simp)) w2).mono fun e W' ⟨he, bel⟩ => ?_
  subst he
  exact ⟨_, rfl, _, _, _, [], _, [], hW', trodAll_mk1 (shut_bool Try.underlying4 _), (trodAll_cons_mk (Below.trod laidOut (by kernel_rfl) (of_decide_eq_true (by kernel_rfl)) k0 bel lt0) (trodAll_cons_mk (Below.trod laidOut (by kernel_rfl) (of_decide_eq_true (by kernel_rfl)) k1 bel lt1) (trodAll_cons_mk (shut_int Try.underlying3 w2) trodAll_mk0))), rfl, bel.frame _, fun h => by cases h⟩
theorem over : Rows.pixelNearRow.holds Try.pinned (OpenSpec.ofChange Rows.pixelNearSpec) :=
  OpenClaim.holds_of_wide 5 Try.f5 rfl rfl rfl rfl rfl rfl rfl ⟨rfl, rfl, rfl, rfl, rfl⟩ rfl rfl rfl rfl rfl found Try.func5 closed instance_ wrapped
    (fun os started H enc _ => lifted os started H enc)
theorem proved : Rows.PixelNearSaid := over
#print axioms proved
end Go.Proofs.Ytglkjeeiiflpjaa.pixelNear
namespace Go.Proofs.Ytglkjeeiiflpjaa
/-- The row, under a short name, for the claim. -/
theorem pixelNear_holds : Rows.PixelNearSaid := pixelNear.proved
end Go.Proofs.Ytglkjeeiiflpjaa
