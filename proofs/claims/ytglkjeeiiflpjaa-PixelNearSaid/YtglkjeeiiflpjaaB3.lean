/- Short words for what printed texts say again and again: how facts are carried on, and the steps of a region. -/
import Derived.Test.YtglkjeeiiflpjaaB2
import Derived.Test.YtglkjeeiiflpjaaWRest
namespace Go.Proofs.YtglkjeeiiflpjaaW.PrintWords
open Go.RowKit
/-- A row of n Booleans out of a number. -/
def bb (n x : Nat) : Array Bool := ((List.range n).map x.testBit).toArray
theorem A_ {p : Prop} (h : p) : Aside0 p := ⟨h⟩
/-- A world that was before another one. -/
class Up (W W' : World) : Prop where out : Below W.heap.size W W'
instance (W : World) : Up W W := ⟨Below.refl _ _⟩
instance {W V : World} [h : Up W V] : Up W V.drew := ⟨below_drew1 h.out⟩
instance {W V : World} (n : Nat) [h : Up W V] : Up W (V.drewN n) := ⟨pw_below_drewN h.out n⟩
instance {W V : World} (o : Obj) [h : Up W V] : Up W (V.alloc o) := ⟨below_alloc h.out o⟩
/-- What was below before is so behind. -/
class UpL (w W W' : World) : Prop where out : Below w.heap.size w W → Below w.heap.size w W'
instance (w W : World) : UpL w W W := ⟨id⟩
instance {w W V : World} [h : UpL w W V] : UpL w W V.drew := ⟨fun k => below_drew1 (h.out k)⟩
instance {w W V : World} (n : Nat) [h : UpL w W V] : UpL w W (V.drewN n) := ⟨fun k => pw_below_drewN (h.out k) n⟩
instance {w W V : World} (o : Obj) [h : UpL w W V] : UpL w W (V.alloc o) := ⟨fun k => below_alloc (h.out k) o⟩
instance {w W V : World} (g j : Nat) (v : Value) [h : UpL w W V] [hg : Aside0 (w.heap.size ≤ g)] : UpL w W (V.setCell ⟨g, j, none⟩ v) := ⟨fun k => below_set (h.out k) hg.out⟩
section
variable {w W W' w1 : World} {g g' : Nat} {o : Obj}
theorem b_ (h : Aside0 (W.heap[g]? = some o)) [u : Up W W'] : W'.heap[g]? = some o := blk_below h.out u.out
theorem l_ (h : Aside0 (Below w.heap.size w W)) [u : UpL w W W'] : Below w.heap.size w W' := u.out h.out
theorem bb_ (h : Aside0 (W.heap[g]? = some o)) (hb : Below W'.heap.size W' w1) [u : Up W W'] : Aside0 (w1.heap[g]? = some o) := ⟨blk_below (b_ h) hb⟩
theorem ne_ (h : Aside0 (W.heap[g]? = some o)) (hg : g' = W'.heap.size) [u : Up W W'] : Aside0 (g ≠ g') := ⟨by rw [hg]; exact Nat.ne_of_lt (blk_lt (b_ h))⟩
theorem ge_ (h : Aside0 (Below w.heap.size w W)) (hg : g' = W'.heap.size) [u : UpL w W W'] : Aside0 (w.heap.size ≤ g') := ⟨by rw [hg]; exact below_size (l_ h)⟩
theorem st_ (h : Aside0 (Below w.heap.size w W)) (hb : Below W'.heap.size W' w1) [u : UpL w W W'] : Aside0 (Below w.heap.size w w1) := ⟨below_step (l_ h) hb⟩
variable {α : Type} {d : Kd α} {e base n : Nat} {ok : Nat → Prop} {v : Value} {xs : List α} {A : Option Addr}
theorem c_ (h : d.C W A n xs) [u : Up W W'] : d.C W' A n xs := Kd.C_below h u.out
theorem v_ (h : Kd.V d e W base ok v xs) [u : Up W W'] : Kd.V d e W' base ok v xs := Kd.V_below h u.out
theorem n_ (h : Kd.N d e W base ok v xs) [u : Up W W'] : Kd.N d e W' base ok v xs := Kd.N_below h u.out
theorem r_ (h : Kd.R d e W base ok v xs) [u : Up W W'] : Kd.R d e W' base ok v xs := Kd.R_below h u.out
end
end Go.Proofs.YtglkjeeiiflpjaaW.PrintWords
namespace Go.Proofs.YtglkjeeiiflpjaaW.PrintLast
open Go.RowKit Go.Proofs.YtglkjeeiiflpjaaW.PrintWords
section
variable {P : Program} {ops : Array Oper} {Q : Exit → Act → World → Prop} {md : Region.Mode} {S : World → Prop} {ds : List Nat} {T : Bool × List (List Nat × List Nat)} {B : List Nat}
/-- What has come up, and one more. -/
def upA (l : Array Bool) (i : Nat) : Array Bool := ⟨l.toList.set i true⟩
theorem pureq_ {oi : Oper} {v : Value} {fuel : Nat} {l : Array Bool} {a a' : Act} {w : World} (i N : Nat) (hT : Aside0 (rtab md ops = T)) (h : wpAnyLast P md ops Q S ds fuel (upA l i) a' w)
    (hi : ops[i]? = some oi := by exact rfl) (hN : oi.dst = some N := by exact rfl) (hc : (T.1 && freeT T.2 l.toList i && readyAt T.2 l.toList i) = true := by kernel_rfl)
    (hQ : ∀ c a w, Q (.panic c) (a.put oi.dst v) w → Q (.panic c) a w := by exact fun _ _ _ h => h)
    (hw : Region.wanted oi (yielded ops a.tmps) = true := by rfl) (hy : ∀ w', (execOp a.eval oi).run P w' = .ok (.value v) w' := by intro w'; go_simp; with_reducible rfl)
    (ha : a.put (some N) v = a' := by simp only [Act.put, List.setIfInBounds_toArray, List.set_cons_zero, List.set_cons_succ, i64_w, i32_w]; rfl) : wpAnyLast P md ops Q S ds (fuel + 1) l a w :=
  pure_ (i := i) (N := some N) (upA l i) hi hN (any_of hT.out (by unfold anyT; rw [hc]; simp [upA])) hQ (Or.inl ⟨hw, hy⟩) ha h
theorem puren_ {oi : Oper} {fuel : Nat} {l : Array Bool} {a a' : Act} {w : World} (i N : Nat) (hT : Aside0 (rtab md ops = T)) (h : wpAnyLast P md ops Q S ds fuel (upA l i) a' w)
    (hi : ops[i]? = some oi := by exact rfl) (hN : oi.dst = some N := by exact rfl) (hc : (T.1 && freeT T.2 l.toList i && readyAt T.2 l.toList i) = true := by kernel_rfl)
    (hQ : ∀ c a w, Q (.panic c) (a.put oi.dst undef) w → Q (.panic c) a w := by exact fun _ _ _ h => h)
    (hw : Region.wanted oi (yielded ops a.tmps) = false := by rfl)
    (ha : a.put (some N) undef = a' := by simp only [Act.put, List.setIfInBounds_toArray, List.set_cons_zero, List.set_cons_succ, i64_w, i32_w]; rfl) : wpAnyLast P md ops Q S ds (fuel + 1) l a w :=
  pure_ (i := i) (N := some N) (upA l i) hi hN (any_of hT.out (by unfold anyT; rw [hc]; simp [upA])) hQ (Or.inr ⟨hw, rfl⟩) ha h
theorem takeq_ {oi : Oper} {v : Value} {fuel : Nat} {l : Array Bool} {a a' : Act} {w : World} (i N : Nat) (hT : Aside0 (rtab md ops = T)) (hB : Aside0 (waitsOk T.2 B = true)) (hS : S w) (h : wpAnyLast P md ops Q S ds fuel (upA l i) a' w)
    (hi : ops[i]? = some oi := by exact rfl) (hN : oi.dst = some N := by exact rfl) (hc : (T.1 && freeT T.2 l.toList i && readyAt T.2 l.toList i && closedT T.2 l.toList && lastW T.2 B l.toList ds i) = true := by kernel_rfl)
    (hQ : ∀ c a w, Q (.panic c) (a.put oi.dst v) w → Q (.panic c) a w := by exact fun _ _ _ h => h)
    (hw : Region.wanted oi (yielded ops a.tmps) = true := by rfl) (hy : ∀ w', S w' → (execOp a.eval oi).run P w' = .ok (.value v) w' := by intro w' hs; go_simp; with_reducible rfl)
    (ha : a.put (some N) v = a' := by simp only [Act.put, List.setIfInBounds_toArray, List.set_cons_zero, List.set_cons_succ, i64_w, i32_w]; rfl) : wpAnyLast P md ops Q S ds (fuel + 1) l a w :=
  take_ (i := i) (N := some N) (upA l i) hi hN (take_ofW hT.out hB.out (by unfold takeW; rw [hc]; simp [upA])) hQ (Or.inl ⟨hw, hy⟩) hS ha h
theorem taken_ {oi : Oper} {fuel : Nat} {l : Array Bool} {a a' : Act} {w : World} (i N : Nat) (hT : Aside0 (rtab md ops = T)) (hB : Aside0 (waitsOk T.2 B = true)) (hS : S w) (h : wpAnyLast P md ops Q S ds fuel (upA l i) a' w)
    (hi : ops[i]? = some oi := by exact rfl) (hN : oi.dst = some N := by exact rfl) (hc : (T.1 && freeT T.2 l.toList i && readyAt T.2 l.toList i && closedT T.2 l.toList && lastW T.2 B l.toList ds i) = true := by kernel_rfl)
    (hQ : ∀ c a w, Q (.panic c) (a.put oi.dst undef) w → Q (.panic c) a w := by exact fun _ _ _ h => h)
    (hw : Region.wanted oi (yielded ops a.tmps) = false := by rfl)
    (ha : a.put (some N) undef = a' := by simp only [Act.put, List.setIfInBounds_toArray, List.set_cons_zero, List.set_cons_succ, i64_w, i32_w]; rfl) : wpAnyLast P md ops Q S ds (fuel + 1) l a w :=
  take_ (i := i) (N := some N) (upA l i) hi hN (take_ofW hT.out hB.out (by unfold takeW; rw [hc]; simp [upA])) hQ (Or.inr ⟨hw, rfl⟩) hS ha h
theorem oneq_ {oi : Oper} {fuel : Nat} {l : Array Bool} {a : Act} {w : World} (i : Nat) (N : Option Tmp) (hT : Aside0 (rtab md ops = T))
    (h : ∀ K : Act → World → Prop, Shut (∀ a' w', S w' → (S w' → wpAnyLast P md ops Q S ds fuel (upA l i) a' w') → K a' w') → if Region.wanted oi (yielded ops a.tmps) = true then Oper.wp P oi a w K Q else K (a.put N undef) w)
    (hi : ops[i]? = some oi := by exact rfl) (hN : oi.dst = N := by exact rfl) (hc : (readyT T.2 l.toList == [i]) = true := by kernel_rfl) (hd : i ∉ ds := by decide) : wpAnyLast P md ops Q S ds (fuel + 1) l a w :=
  one_ (upA l i) hi hN (one_of hT.out (by rw [hc]; simp [upA])) hd h
theorem twoq_ {oi oj : Oper} {fuel : Nat} {l : Array Bool} {a : Act} {w : World} (i j : Nat) (Ni Nj : Option Tmp) (hT : Aside0 (rtab md ops = T))
    (h1 : ∀ K : Act → World → Prop, Shut (∀ a' w', S w' → (S w' → wpAnyLast P md ops Q S ds fuel (upA l i) a' w') → K a' w') → if Region.wanted oi (yielded ops a.tmps) = true then Oper.wp P oi a w K Q else K (a.put Ni undef) w)
    (h2 : ∀ K : Act → World → Prop, Shut (∀ a' w', S w' → (S w' → wpAnyLast P md ops Q S ds fuel (upA l j) a' w') → K a' w') → if Region.wanted oj (yielded ops a.tmps) = true then Oper.wp P oj a w K Q else K (a.put Nj undef) w)
    (hi : ops[i]? = some oi := by exact rfl) (hj : ops[j]? = some oj := by exact rfl) (hNi : oi.dst = Ni := by exact rfl) (hNj : oj.dst = Nj := by exact rfl) (hc : (readyT T.2 l.toList == [i, j]) = true := by kernel_rfl) (hd : i ∉ ds := by decide) (hd' : j ∉ ds := by decide) : wpAnyLast P md ops Q S ds (fuel + 1) l a w :=
  two_ (upA l i) (upA l j) hi hj hNi hNj (two_of hT.out (by rw [hc]; simp [upA])) hd hd' h1 h2
theorem normq_ {fuel : Nat} {l : Array Bool} {a a' : Act} {w : World} {v : Value} (N : Nat) (h : wpAnyLast P md ops Q S ds fuel l a' w)
    (ha : a.put (some N) v = a' := by simp only [Act.put, List.setIfInBounds_toArray, List.set_cons_zero, List.set_cons_succ, i64_w, i32_w]; rfl) : wpAnyLast P md ops Q S ds fuel l (a.put (some N) v) w := norm_ ha h
theorem normp_ {fuel : Nat} {l : Array Bool} {a a' : Act} {w : World} (h : wpAnyLast P md ops Q S ds fuel l a' w)
    (ha : a = a' := by simp only [putAll, Act.put, List.setIfInBounds_toArray, List.set_cons_zero, List.set_cons_succ]) : wpAnyLast P md ops Q S ds fuel l a w := norm_ ha h
theorem goesq_ {oi : Oper} {N : Option Tmp} {a : Act} {w : World} {K : Act → World → Prop} {f : FuncId} {fn : Func} {as : Array Operand} {ts : Array TypeId} (hf : P.funcs[f]? = some fn) (args : Array Value) (h : Calls P f args w fun e w' => ∃ v, e = .returned v ∧ K (a.put N v) w')
    (hname : (fn.name == "runtime.NumGoroutine") = false := by kernel_rfl) (hb : fn.body.isSome = true := by exact rfl)
    (hw : Region.wanted oi (yielded ops a.tmps) = true := by exact rfl) (hN : oi.dst = N := by exact rfl) (hop : oi.op = .call { callee := .value (.func f), args := as, argTypes := ts } := by exact rfl)
    (hargs : as.map a.eval = args := by (try simp only [List.map_toArray, List.map_cons, List.map_nil]); first | done | rfl | (simp only [List.length_drop, List.length_take]; rfl)) : if Region.wanted oi (yielded ops a.tmps) = true then Oper.wp P oi a w K Q else K (a.put N undef) w :=
  goes_ hf hname hb args hw hN hop hargs h
end
end Go.Proofs.YtglkjeeiiflpjaaW.PrintLast
namespace Go.Proofs.YtglkjeeiiflpjaaW.PrintWords
open Go.RowKit
section
variable {P : Program} {ops : Array Oper} {rest : List Oper} {o : Oper} {a : Act} {Q : Exit → Act → World → Prop} {Kc : Act → World → Prop}
theorem boxeq_ {W : World} (N : Tmp) (cs : Array Value) (t : TypeId)
    (h : ∀ g, g = W.heap.size → ∀ w1, w1.heap[g]? = some (.cells cs t (0, 0)) → Below W.heap.size W w1 → wpList P ops Q rest (a.put o.dst (.pointer (some ⟨g, 0, none⟩))) w1)
    (hd : o.dst = some N := by rfl) (hgd : o.guard = none := by rfl)
    (hrun : (execOp a.eval o).run P W = .ok (.value (.pointer (some ⟨W.heap.size, 0, none⟩))) (W.alloc (.cells cs t (0, 0))) := by first | (go_simp; done) | (go_simp; rfl)) : wpList P ops Q (o :: rest) a W := box_event hgd hd hrun h
theorem boxsq_ {W : World} (N : Tmp) (cs : Array Value) (t : TypeId)
    (h : ∀ g, g = W.heap.size → ∀ w1, w1.heap[g]? = some (.cells cs t (0, 0)) → Below W.heap.size W w1 → Kc (a.put o.dst (.pointer (some ⟨g, 0, none⟩))) w1)
    (hd : o.dst = some N := by rfl) (hw : Region.wanted o (yielded ops a.tmps) = true := by rfl)
    (hrun : (execOp a.eval o).run P W = .ok (.value (.pointer (some ⟨W.heap.size, 0, none⟩))) (W.alloc (.cells cs t (0, 0))) := by first | (go_simp; done) | (go_simp; rfl)) : if Region.wanted o (yielded ops a.tmps) = true then Oper.wp P o a W Kc Q else Kc (a.put o.dst undef) W := box_step hw hd hrun h
open Go.Proofs.YtglkjeeiiflpjaaW.PrintLast in
theorem goesLq_ {oi : Oper} {w : World} {f : FuncId} {fn : Func} {as : Array Operand} {ts : Array TypeId} (N : Nat) (hd : oi.dst = some N) (hf : P.funcs[f]? = some fn) (args : Array Value) (h : Calls P f args w fun e w' => ∃ v, e = .returned v ∧ wpList P ops Q rest (a.put (some N) v) w')
    (hg : oi.guard = none := by exact rfl) (hop : oi.op = .call { callee := .value (.func f), args := as, argTypes := ts } := by exact rfl)
    (hname : (fn.name == "runtime.NumGoroutine") = false := by kernel_rfl) (hb : fn.body.isSome = true := by exact rfl)
    (hargs : as.map a.eval = args := by (try simp only [List.map_toArray, List.map_cons, List.map_nil]); first | done | rfl | (simp only [List.length_drop, List.length_take]; rfl)) : wpList P ops Q (oi :: rest) a w :=
  goesL_ (some N) hd hg hf hname hb args hop hargs h
end
end Go.Proofs.YtglkjeeiiflpjaaW.PrintWords
