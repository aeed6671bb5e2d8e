-- PRINTED by print.py (a twelfth state) out of the translation. Not trusted: Lean checks it.
import Derived.Test.YtglkjeeiiflpjaaF0
import Derived.Test.YtglkjeeiiflpjaaB3
import Derived.Test.YtglkjeeiiflpjaaFS
import Derived.Test.YtglkjeeiiflpjaaF28
import Derived.Test.YtglkjeeiiflpjaaF29
import Derived.Test.YtglkjeeiiflpjaaF30
import Derived.Test.YtglkjeeiiflpjaaF31
import Derived.Test.YtglkjeeiiflpjaaF32
import Derived.Test.YtglkjeeiiflpjaaF33
namespace Go.Proofs.Ytglkjeeiiflpjaa.F
open Go.RowKit Go.Proofs.YtglkjeeiiflpjaaW.PrintWords Go.Proofs.YtglkjeeiiflpjaaW.PrintLast Go.Proofs.YtglkjeeiiflpjaaW.PrintMore
attribute [local go_sem] max2_int min2_int max_two min_two max_three min_three max_four min_four   -- for this text's walks alone
set_option linter.unusedVariables false
set_option linter.unusedSimpArgs false

/-! ### cobwebref06_Meets: function 12 -/
mutual
def cobwebref06_Meets.j0 : Nat → Int → Bool → Int → Int → Int → Int → Int → Int → Int → Int → Option (Bool)
 | 0, _, _, _, _, _, _, _, _, _, _ => none
 | k + 1, x4, x42, x102000, x102001, x103000, x103001, x104000, x104001, x105000, x105001 => if x42 = true then (some false) else ((cobwebref06_num.f k 0).bind fun bt109 => ((cobwebref06_num.f k 1).bind fun bt113 => ((cobwebref06_num.f k 1).bind fun bt117 => ((cobwebref06_num.f k 1).bind fun bt121 => ((some (([(⟨(⟨bt109.1, bt109.2⟩ : S55), (⟨bt113.1, bt113.2⟩ : S55)⟩ : S58), (⟨(⟨bt117.1, bt117.2⟩ : S55), (⟨bt121.1, bt121.2⟩ : S55)⟩ : S58)] : List (S58)) : List (S58))).bind fun y125 => ((cobwebref06_ways.f k x102000 x103000 x104000).bind fun t128 => (if y125.length + t128.length < 2199023255552 then ((some (y125 ++ t128 : List (S58))).bind fun y131 => ((cobwebref06_ways.f k x102000 x103000 x105000).bind fun t134 => (if y131.length + t134.length < 2199023255552 then ((some (y131 ++ t134 : List (S58))).bind fun y137 => ((cobwebref06_ways.f k x102001 x103001 x104001).bind fun t140 => (if y137.length + t140.length < 2199023255552 then ((some (y137 ++ t140 : List (S58))).bind fun y143 => ((cobwebref06_ways.f k x102001 x103001 x105001).bind fun t146 => (if y143.length + t146.length < 2199023255552 then ((some (y143 ++ t146 : List (S58))).bind fun y149 => (cobwebref06_Meets.l0 k x4 y149 (y149.length : Int) 0 x102000 x102001 x103000 x103001 x104000 x104001 x105000 x105001)) else (none)))) else (none)))) else (none)))) else (none))))))))
def cobwebref06_Meets.l0 : Nat → Int → List (S58) → Int → Int → Int → Int → Int → Int → Int → Int → Int → Int → Option (Bool)
 | 0, _, _, _, _, _, _, _, _, _, _, _, _ => none
 | k + 1, x4, x11, x12, x13, x102000, x102001, x103000, x103001, x104000, x104001, x105000, x105001 => if x13 < x12 then (cobwebref06_Meets.l1 k x4 x11 x12 x13 0 x102000 x102001 x103000 x103001 x104000 x104001 x105000 x105001) else (cobwebref06_Meets.l2 k x4 x11 0 x102000 x102001 x103000 x103001 x104000 x104001 x105000 x105001)
def cobwebref06_Meets.l1 : Nat → Int → List (S58) → Int → Int → Int → Int → Int → Int → Int → Int → Int → Int → Int → Option (Bool)
 | 0, _, _, _, _, _, _, _, _, _, _, _, _, _ => none
 | k + 1, x4, x11, x12, x13, x14, x102000, x102001, x103000, x103001, x104000, x104001, x105000, x105001 => if x14 < x13 then (if 0 ≤ x13 then (if x13 < (x11.length : Int) then (if 0 ≤ x14 then (if x14 < (x11.length : Int) then ((cobwebref06_sum.f k ((rd_T58 x11 x13).f0.f0) ((rd_T58 x11 x13).f0.f1) ((rd_T58 x11 x13).f1.f0) ((rd_T58 x11 x13).f1.f1) ((rd_T58 x11 x14).f0.f0) ((rd_T58 x11 x14).f0.f1) ((rd_T58 x11 x14).f1.f0) ((rd_T58 x11 x14).f1.f1)).bind fun bt154 => ((cobwebref01_Add.f k bt154.2.2.1 bt154.2.2.2 bt154.2.2.1 bt154.2.2.2).bind fun bt163 => (if x11.length < 2199023255552 then (cobwebref06_Meets.l1 k x4 (x11 ++ [(⟨(⟨bt154.1, bt154.2.1⟩ : S55), (⟨bt163.1, bt163.2⟩ : S55)⟩ : S58)]) x12 x13 (wrap64 (x14 + 1)) x102000 x102001 x103000 x103001 x104000 x104001 x105000 x105001) else (none)))) else (none)) else (none)) else (none)) else (none)) else (cobwebref06_Meets.l0 k x4 x11 x12 (wrap64 (x13 + 1)) x102000 x102001 x103000 x103001 x104000 x104001 x105000 x105001)
def cobwebref06_Meets.l2 : Nat → Int → List (S58) → Int → Int → Int → Int → Int → Int → Int → Int → Int → Option (Bool)
 | 0, _, _, _, _, _, _, _, _, _, _, _ => none
 | k + 1, x4, x11, x16, x102000, x102001, x103000, x103001, x104000, x104001, x105000, x105001 => if x16 < (x11.length : Int) then (if 0 ≤ x16 then ((cobwebref06_on.f k x102000 x103000 ((rd_T58 x11 x16).f0.f0) ((rd_T58 x11 x16).f0.f1) ((rd_T58 x11 x16).f1.f0) ((rd_T58 x11 x16).f1.f1)).bind fun bt171 => ((cobwebref06_within.f k bt171.1 bt171.2.1 bt171.2.2.1 bt171.2.2.2 x104000 x105000 x4).bind fun t179 => (if t179 = true then ((cobwebref06_on.f k x102001 x103001 ((rd_T58 x11 x16).f0.f0) ((rd_T58 x11 x16).f0.f1) ((rd_T58 x11 x16).f1.f0) ((rd_T58 x11 x16).f1.f1)).bind fun bt181 => ((cobwebref06_within.f k bt181.1 bt181.2.1 bt181.2.2.1 bt181.2.2.2 x104001 x105001 x4).bind fun t189 => (if t189 = true then (some true) else (cobwebref06_Meets.l2 k x4 x11 (wrap64 (x16 + 1)) x102000 x102001 x103000 x103001 x104000 x104001 x105000 x105001)))) else (cobwebref06_Meets.l2 k x4 x11 (wrap64 (x16 + 1)) x102000 x102001 x103000 x103001 x104000 x104001 x105000 x105001)))) else (none)) else (some false)
end
def cobwebref06_Meets.f (k : Nat) (a0_0 : Int) (a0_1 : Int) (a1_0 : Int) (a1_1 : Int) (a2_0 : Int) (a2_1 : Int) (a3_0 : Int) (a3_1 : Int) (a4 : Int) : Option (Bool) := (cobwebref05_Right.f a0_0 a0_1).bind fun t105 => (if t105 = true then ((cobwebref05_Right.f a1_0 a1_1).bind fun t106 => (if t106 = true then ((cobwebref06_right.f a2_0 a2_1).bind fun t107 => (if t107 = true then ((cobwebref06_right.f a3_0 a3_1).bind fun t108 => (if t108 = true then (if a4 < 0 then (cobwebref06_Meets.j0 k a4 true a0_0 a0_1 a1_0 a1_1 a2_0 a2_1 a3_0 a3_1) else (cobwebref06_Meets.j0 k a4 (decide (a4 > 2)) a0_0 a0_1 a1_0 a1_1 a2_0 a2_1 a3_0 a3_1)) else (cobwebref06_Meets.j0 k a4 true a0_0 a0_1 a1_0 a1_1 a2_0 a2_1 a3_0 a3_1))) else (cobwebref06_Meets.j0 k a4 true a0_0 a0_1 a1_0 a1_1 a2_0 a2_1 a3_0 a3_1))) else (cobwebref06_Meets.j0 k a4 true a0_0 a0_1 a1_0 a1_1 a2_0 a2_1 a3_0 a3_1))) else (cobwebref06_Meets.j0 k a4 true a0_0 a0_1 a1_0 a1_1 a2_0 a2_1 a3_0 a3_1))
theorem cobwebref06_Meets.mono_l : ∀ k, (∀ y0 y1 y2 y3 y4 y5 y6 y7 y8 y9, LeO (cobwebref06_Meets.j0 k y0 y1 y2 y3 y4 y5 y6 y7 y8 y9) (cobwebref06_Meets.j0 (k + 1) y0 y1 y2 y3 y4 y5 y6 y7 y8 y9)) ∧ (∀ y0 y1 y2 y3 y4 y5 y6 y7 y8 y9 y10 y11, LeO (cobwebref06_Meets.l0 k y0 y1 y2 y3 y4 y5 y6 y7 y8 y9 y10 y11) (cobwebref06_Meets.l0 (k + 1) y0 y1 y2 y3 y4 y5 y6 y7 y8 y9 y10 y11)) ∧ (∀ y0 y1 y2 y3 y4 y5 y6 y7 y8 y9 y10 y11 y12, LeO (cobwebref06_Meets.l1 k y0 y1 y2 y3 y4 y5 y6 y7 y8 y9 y10 y11 y12) (cobwebref06_Meets.l1 (k + 1) y0 y1 y2 y3 y4 y5 y6 y7 y8 y9 y10 y11 y12)) ∧ (∀ y0 y1 y2 y3 y4 y5 y6 y7 y8 y9 y10, LeO (cobwebref06_Meets.l2 k y0 y1 y2 y3 y4 y5 y6 y7 y8 y9 y10) (cobwebref06_Meets.l2 (k + 1) y0 y1 y2 y3 y4 y5 y6 y7 y8 y9 y10))
 | 0 => ⟨fun _ _ _ _ _ _ _ _ _ _ r h => by simp [cobwebref06_Meets.j0] at h, fun _ _ _ _ _ _ _ _ _ _ _ _ r h => by simp [cobwebref06_Meets.l0] at h, fun _ _ _ _ _ _ _ _ _ _ _ _ _ r h => by simp [cobwebref06_Meets.l1] at h, fun _ _ _ _ _ _ _ _ _ _ _ r h => by simp [cobwebref06_Meets.l2] at h⟩
 | k + 1 => by
  obtain ⟨ih0, ih1, ih2, ih3⟩ := cobwebref06_Meets.mono_l k
  refine ⟨?_, ?_, ?_, ?_⟩
  ·intro y0 y1 y2 y3 y4 y5 y6 y7 y8 y9
   unfold cobwebref06_Meets.j0
   repeat' first
   | (with_reducible exact ih0 _ _ _ _ _ _ _ _ _ _)
   | (with_reducible exact ih1 _ _ _ _ _ _ _ _ _ _ _ _)
   | (with_reducible exact ih2 _ _ _ _ _ _ _ _ _ _ _ _ _)
   | (with_reducible exact ih3 _ _ _ _ _ _ _ _ _ _ _)
   | (with_reducible exact cobwebref01_Add.mono _ _ _ _ _)
   | (with_reducible exact cobwebref06_num.mono _ _)
   | (with_reducible exact cobwebref06_on.mono _ _ _ _ _ _ _)
   | (with_reducible exact cobwebref06_sum.mono _ _ _ _ _ _ _ _ _)
   | (with_reducible exact cobwebref06_ways.mono _ _ _ _)
   | (with_reducible exact cobwebref06_within.mono _ _ _ _ _ _ _ _)
   | (with_reducible exact LeO.refl _)
   | (with_reducible exact LeO.none _)
   | (with_reducible refine LeO.ite ?_ ?_)
   | (with_reducible refine LeO.bind ?_ (fun _ => ?_))
   | exact ih0 _ _ _ _ _ _ _ _ _ _
   | exact ih1 _ _ _ _ _ _ _ _ _ _ _ _
   | exact ih2 _ _ _ _ _ _ _ _ _ _ _ _ _
   | exact ih3 _ _ _ _ _ _ _ _ _ _ _
   | exact cobwebref01_Add.mono _ _ _ _ _
   | exact cobwebref06_num.mono _ _
   | exact cobwebref06_on.mono _ _ _ _ _ _ _
   | exact cobwebref06_sum.mono _ _ _ _ _ _ _ _ _
   | exact cobwebref06_ways.mono _ _ _ _
   | exact cobwebref06_within.mono _ _ _ _ _ _ _ _
   | exact LeO.none _
   | refine LeO.ite ?_ ?_
   | refine LeO.bind ?_ (fun _ => ?_)
  ·intro y0 y1 y2 y3 y4 y5 y6 y7 y8 y9 y10 y11
   unfold cobwebref06_Meets.l0
   repeat' first
   | (with_reducible exact ih0 _ _ _ _ _ _ _ _ _ _)
   | (with_reducible exact ih1 _ _ _ _ _ _ _ _ _ _ _ _)
   | (with_reducible exact ih2 _ _ _ _ _ _ _ _ _ _ _ _ _)
   | (with_reducible exact ih3 _ _ _ _ _ _ _ _ _ _ _)
   | (with_reducible exact cobwebref01_Add.mono _ _ _ _ _)
   | (with_reducible exact cobwebref06_num.mono _ _)
   | (with_reducible exact cobwebref06_on.mono _ _ _ _ _ _ _)
   | (with_reducible exact cobwebref06_sum.mono _ _ _ _ _ _ _ _ _)
   | (with_reducible exact cobwebref06_ways.mono _ _ _ _)
   | (with_reducible exact cobwebref06_within.mono _ _ _ _ _ _ _ _)
   | (with_reducible exact LeO.refl _)
   | (with_reducible exact LeO.none _)
   | (with_reducible refine LeO.ite ?_ ?_)
   | (with_reducible refine LeO.bind ?_ (fun _ => ?_))
   | exact ih0 _ _ _ _ _ _ _ _ _ _
   | exact ih1 _ _ _ _ _ _ _ _ _ _ _ _
   | exact ih2 _ _ _ _ _ _ _ _ _ _ _ _ _
   | exact ih3 _ _ _ _ _ _ _ _ _ _ _
   | exact cobwebref01_Add.mono _ _ _ _ _
   | exact cobwebref06_num.mono _ _
   | exact cobwebref06_on.mono _ _ _ _ _ _ _
   | exact cobwebref06_sum.mono _ _ _ _ _ _ _ _ _
   | exact cobwebref06_ways.mono _ _ _ _
   | exact cobwebref06_within.mono _ _ _ _ _ _ _ _
   | exact LeO.none _
   | refine LeO.ite ?_ ?_
   | refine LeO.bind ?_ (fun _ => ?_)
  ·intro y0 y1 y2 y3 y4 y5 y6 y7 y8 y9 y10 y11 y12
   unfold cobwebref06_Meets.l1
   repeat' first
   | (with_reducible exact ih0 _ _ _ _ _ _ _ _ _ _)
   | (with_reducible exact ih1 _ _ _ _ _ _ _ _ _ _ _ _)
   | (with_reducible exact ih2 _ _ _ _ _ _ _ _ _ _ _ _ _)
   | (with_reducible exact ih3 _ _ _ _ _ _ _ _ _ _ _)
   | (with_reducible exact cobwebref01_Add.mono _ _ _ _ _)
   | (with_reducible exact cobwebref06_num.mono _ _)
   | (with_reducible exact cobwebref06_on.mono _ _ _ _ _ _ _)
   | (with_reducible exact cobwebref06_sum.mono _ _ _ _ _ _ _ _ _)
   | (with_reducible exact cobwebref06_ways.mono _ _ _ _)
   | (with_reducible exact cobwebref06_within.mono _ _ _ _ _ _ _ _)
   | (with_reducible exact LeO.refl _)
   | (with_reducible exact LeO.none _)
   | (with_reducible refine LeO.ite ?_ ?_)
   | (with_reducible refine LeO.bind ?_ (fun _ => ?_))
   | exact ih0 _ _ _ _ _ _ _ _ _ _
   | exact ih1 _ _ _ _ _ _ _ _ _ _ _ _
   | exact ih2 _ _ _ _ _ _ _ _ _ _ _ _ _
   | exact ih3 _ _ _ _ _ _ _ _ _ _ _
   | exact cobwebref01_Add.mono _ _ _ _ _
   | exact cobwebref06_num.mono _ _
   | exact cobwebref06_on.mono _ _ _ _ _ _ _
   | exact cobwebref06_sum.mono _ _ _ _ _ _ _ _ _
   | exact cobwebref06_ways.mono _ _ _ _
   | exact cobwebref06_within.mono _ _ _ _ _ _ _ _
   | exact LeO.none _
   | refine LeO.ite ?_ ?_
   | refine LeO.bind ?_ (fun _ => ?_)
  ·intro y0 y1 y2 y3 y4 y5 y6 y7 y8 y9 y10
   unfold cobwebref06_Meets.l2
   repeat' first
   | (with_reducible exact ih0 _ _ _ _ _ _ _ _ _ _)
   | (with_reducible exact ih1 _ _ _ _ _ _ _ _ _ _ _ _)
   | (with_reducible exact ih2 _ _ _ _ _ _ _ _ _ _ _ _ _)
   | (with_reducible exact ih3 _ _ _ _ _ _ _ _ _ _ _)
   | (with_reducible exact cobwebref01_Add.mono _ _ _ _ _)
   | (with_reducible exact cobwebref06_num.mono _ _)
   | (with_reducible exact cobwebref06_on.mono _ _ _ _ _ _ _)
   | (with_reducible exact cobwebref06_sum.mono _ _ _ _ _ _ _ _ _)
   | (with_reducible exact cobwebref06_ways.mono _ _ _ _)
   | (with_reducible exact cobwebref06_within.mono _ _ _ _ _ _ _ _)
   | (with_reducible exact LeO.refl _)
   | (with_reducible exact LeO.none _)
   | (with_reducible refine LeO.ite ?_ ?_)
   | (with_reducible refine LeO.bind ?_ (fun _ => ?_))
   | exact ih0 _ _ _ _ _ _ _ _ _ _
   | exact ih1 _ _ _ _ _ _ _ _ _ _ _ _
   | exact ih2 _ _ _ _ _ _ _ _ _ _ _ _ _
   | exact ih3 _ _ _ _ _ _ _ _ _ _ _
   | exact cobwebref01_Add.mono _ _ _ _ _
   | exact cobwebref06_num.mono _ _
   | exact cobwebref06_on.mono _ _ _ _ _ _ _
   | exact cobwebref06_sum.mono _ _ _ _ _ _ _ _ _
   | exact cobwebref06_ways.mono _ _ _ _
   | exact cobwebref06_within.mono _ _ _ _ _ _ _ _
   | exact LeO.none _
   | refine LeO.ite ?_ ?_
   | refine LeO.bind ?_ (fun _ => ?_)
theorem cobwebref06_Meets.mono : ∀ a0 a1 a2 a3 a4 a5 a6 a7 a8 k, LeO (cobwebref06_Meets.f k a0 a1 a2 a3 a4 a5 a6 a7 a8) (cobwebref06_Meets.f (k + 1) a0 a1 a2 a3 a4 a5 a6 a7 a8) := by
 intro a0 a1 a2 a3 a4 a5 a6 a7 a8 k
 obtain ⟨ih0, ih1, ih2, ih3⟩ := cobwebref06_Meets.mono_l k
 unfold cobwebref06_Meets.f
 repeat' first
   | (with_reducible exact ih0 _ _ _ _ _ _ _ _ _ _)
   | (with_reducible exact ih1 _ _ _ _ _ _ _ _ _ _ _ _)
   | (with_reducible exact ih2 _ _ _ _ _ _ _ _ _ _ _ _ _)
   | (with_reducible exact ih3 _ _ _ _ _ _ _ _ _ _ _)
   | (with_reducible exact cobwebref01_Add.mono _ _ _ _ _)
   | (with_reducible exact cobwebref06_num.mono _ _)
   | (with_reducible exact cobwebref06_on.mono _ _ _ _ _ _ _)
   | (with_reducible exact cobwebref06_sum.mono _ _ _ _ _ _ _ _ _)
   | (with_reducible exact cobwebref06_ways.mono _ _ _ _)
   | (with_reducible exact cobwebref06_within.mono _ _ _ _ _ _ _ _)
   | (with_reducible exact LeO.refl _)
   | (with_reducible exact LeO.none _)
   | (with_reducible refine LeO.ite ?_ ?_)
   | (with_reducible refine LeO.bind ?_ (fun _ => ?_))
   | exact ih0 _ _ _ _ _ _ _ _ _ _
   | exact ih1 _ _ _ _ _ _ _ _ _ _ _ _
   | exact ih2 _ _ _ _ _ _ _ _ _ _ _ _ _
   | exact ih3 _ _ _ _ _ _ _ _ _ _ _
   | exact cobwebref01_Add.mono _ _ _ _ _
   | exact cobwebref06_num.mono _ _
   | exact cobwebref06_on.mono _ _ _ _ _ _ _
   | exact cobwebref06_sum.mono _ _ _ _ _ _ _ _ _
   | exact cobwebref06_ways.mono _ _ _ _
   | exact cobwebref06_within.mono _ _ _ _ _ _ _ _
   | exact LeO.none _
   | refine LeO.ite ?_ ?_
   | refine LeO.bind ?_ (fun _ => ?_)
def cobwebref06_Meets.T4 : Bool × List (List Nat × List Nat) := (true, [([], []), ([], []), ([1], [1]), ([], []), ([3], [3]), ([], []), ([5], [5]), ([2, 4, 6], [2, 4, 6]), ([0, 7, 7], [0, 7]), ([], []), ([9], [9]), ([], []), ([11], [11]), ([], []), ([13], [13]), ([10, 12, 14, 8], [10, 12, 14]), ([8, 15, 15], [8, 15]), ([16, 16, 0, 1, 2, 3, 4, 5, 6, 7, 8, 9, 10, 11, 12, 13, 14, 15, 16], [0, 16])])
def cobwebref06_Meets.B4 : List Nat := [0, 0, 2, 0, 8, 0, 32, 126, 255, 0, 512, 0, 2048, 0, 8192, 32767, 65535, 131071]
theorem cobwebref06_Meets.tab4 : rtab .any (opsOf Try.f12 4) = cobwebref06_Meets.T4 := by kernel_rfl
theorem cobwebref06_Meets.bits4 : waitsOk cobwebref06_Meets.T4.2 cobwebref06_Meets.B4 = true := by kernel_rfl
def cobwebref06_Meets.T5 : Bool × List (List Nat × List Nat) := (true, [([], []), ([], []), ([1], [1]), ([], []), ([3], [3]), ([], []), ([5], [5]), ([2, 4, 6], [2, 4, 6]), ([0, 7, 7], [0, 7]), ([], []), ([9], [9]), ([], []), ([11], [11]), ([], []), ([13], [13]), ([10, 12, 14, 8], [10, 12, 14]), ([8, 15, 15], [8, 15]), ([16, 16, 0, 1, 2, 3, 4, 5, 6, 7, 8, 9, 10, 11, 12, 13, 14, 15, 16], [0, 16])])
def cobwebref06_Meets.B5 : List Nat := [0, 0, 2, 0, 8, 0, 32, 126, 255, 0, 512, 0, 2048, 0, 8192, 32767, 65535, 131071]
theorem cobwebref06_Meets.tab5 : rtab .any (opsOf Try.f12 5) = cobwebref06_Meets.T5 := by kernel_rfl
theorem cobwebref06_Meets.bits5 : waitsOk cobwebref06_Meets.T5.2 cobwebref06_Meets.B5 = true := by kernel_rfl
def cobwebref06_Meets.T13 : Bool × List (List Nat × List Nat) := (true, [([], []), ([], []), ([0, 1], [0, 1]), ([2], [2]), ([], []), ([], []), ([4, 5], [4, 5]), ([6], [6]), ([3, 7], [3, 7]), ([], []), ([9, 8, 8, 0, 1, 2, 3, 4, 5, 6, 7, 8, 9], [8, 9])])
def cobwebref06_Meets.B13 : List Nat := [0, 0, 3, 7, 0, 0, 48, 112, 255, 0, 1023]
theorem cobwebref06_Meets.tab13 : rtab .any (opsOf Try.f12 13) = cobwebref06_Meets.T13 := by kernel_rfl
theorem cobwebref06_Meets.bits13 : waitsOk cobwebref06_Meets.T13.2 cobwebref06_Meets.B13 = true := by kernel_rfl
def cobwebref06_Meets.T14 : Bool × List (List Nat × List Nat) := (true, [([], []), ([], []), ([1], [1]), ([], []), ([3], [3]), ([], []), ([5], [5]), ([4, 6], [4, 6]), ([2, 7], [2, 7]), ([8], [8]), ([0, 9, 7], [0, 9]), ([10, 10, 0, 1, 2, 3, 4, 5, 6, 7, 8, 9, 10], [0, 10])])
def cobwebref06_Meets.B14 : List Nat := [0, 0, 2, 0, 8, 0, 32, 120, 254, 510, 1023, 2047]
theorem cobwebref06_Meets.tab14 : rtab .any (opsOf Try.f12 14) = cobwebref06_Meets.T14 := by kernel_rfl
theorem cobwebref06_Meets.bits14 : waitsOk cobwebref06_Meets.T14.2 cobwebref06_Meets.B14 = true := by kernel_rfl
def cobwebref06_Meets.T18 : Bool × List (List Nat × List Nat) := (true, [([], []), ([0], [0]), ([], []), ([2], [2]), ([], []), ([], []), ([4, 5], [4, 5]), ([6], [6]), ([1, 3, 7], [1, 3, 7]), ([], []), ([9], [9]), ([], []), ([11], [11]), ([], []), ([8, 10, 12, 13, 8], [8, 10, 12, 13]), ([14, 14], [14]), ([15], [15]), ([16, 15], [15, 16]), ([15], [15]), ([18, 15], [15, 18]), ([15], [15]), ([15], [15]), ([20, 21, 15], [15, 20, 21]), ([22, 15], [15, 22]), ([17, 19, 23, 15, 15], [15, 17, 19, 23]), ([15], [15]), ([25, 15], [15, 25]), ([15], [15]), ([27, 15], [15, 27]), ([15], [15]), ([24, 26, 28, 29, 24, 15], [15, 24, 26, 28, 29]), ([15, 30], [15, 30])])
def cobwebref06_Meets.B18 : List Nat := [0, 1, 0, 4, 0, 0, 48, 112, 255, 0, 512, 0, 2048, 0, 16383, 32767, 65535, 131071, 65535, 327679, 65535, 65535, 3211263, 7405567, 16777215, 65535, 33619967, 65535, 134283263, 65535, 1073741823, 2147483647]
theorem cobwebref06_Meets.tab18 : rtab .any (opsOf Try.f12 18) = cobwebref06_Meets.T18 := by kernel_rfl
theorem cobwebref06_Meets.bits18 : waitsOk cobwebref06_Meets.T18.2 cobwebref06_Meets.B18 = true := by kernel_rfl
set_option maxHeartbeats 8000000 in
set_option maxRecDepth 100000 in
theorem cobwebref06_Meets.calls (k : Nat) (a0_0 : Int) (a0_1 : Int) (a1_0 : Int) (a1_1 : Int) (a2_0 : Int) (a2_1 : Int) (a3_0 : Int) (a3_1 : Int) (a4 : Int) (r : Bool) (w : World) (h : cobwebref06_Meets.f k a0_0 a0_1 a1_0 a1_1 a2_0 a2_1 a3_0 a3_1 a4 = some r) :
  Calls Try.prog 12 #[.agg #[.int .i64 a0_0, .int .i64 a0_1], .agg #[.int .i64 a1_0, .int .i64 a1_1], .agg #[.int .i64 a2_0, .int .i64 a2_1], .agg #[.int .i64 a3_0, .int .i64 a3_1], .int .i64 a4] w fun e w' => e = .returned (.bool r) ∧ Below w.heap.size w w' := by
 have hu23 := Try.underlying23
 have hu58 := Try.underlying58
 have hu55 := Try.underlying55
 have HB := A_ (Below.refl w.heap.size w)
 have H : ((cobwebref05_Right.f a0_0 a0_1).bind fun t105 => (if t105 = true then ((cobwebref05_Right.f a1_0 a1_1).bind fun t106 => (if t106 = true then ((cobwebref06_right.f a2_0 a2_1).bind fun t107 => (if t107 = true then ((cobwebref06_right.f a3_0 a3_1).bind fun t108 => (if t108 = true then (if a4 < 0 then (cobwebref06_Meets.j0 k a4 true a0_0 a0_1 a1_0 a1_1 a2_0 a2_1 a3_0 a3_1) else (cobwebref06_Meets.j0 k a4 (decide (a4 > 2)) a0_0 a0_1 a1_0 a1_1 a2_0 a2_1 a3_0 a3_1)) else (cobwebref06_Meets.j0 k a4 true a0_0 a0_1 a1_0 a1_1 a2_0 a2_1 a3_0 a3_1))) else (cobwebref06_Meets.j0 k a4 true a0_0 a0_1 a1_0 a1_1 a2_0 a2_1 a3_0 a3_1))) else (cobwebref06_Meets.j0 k a4 true a0_0 a0_1 a1_0 a1_1 a2_0 a2_1 a3_0 a3_1))) else (cobwebref06_Meets.j0 k a4 true a0_0 a0_1 a1_0 a1_1 a2_0 a2_1 a3_0 a3_1))) = some r := h
 clear h
 have HC6 := A_ H
 clear H
 go_enter Try.func12, Try.ntmps12
 go_upto_region 1 with (first | ((with_reducible refine gate_dst (N := 5) rfl ?_); refine boxeq_ 5 #[.int .i64 a0_0, .int .i64 a0_1] 23 ?_; intro gb101 hg w7 hbox hb; have BK101 := A_ (hbox); have GW101 := ge_ HB hg; replace HB := st_ HB hb; have GE101 := GW101; clear hb hbox hg) | ((with_reducible refine gate_dst (N := 6) rfl ?_); refine boxeq_ 6 #[.int .i64 a1_0, .int .i64 a1_1] 23 ?_; intro gb102 hg w8 hbox hb; have BK102 := A_ (hbox); have GW102 := ge_ HB hg; replace HB := st_ HB hb; have GE102 := GW102; have NB101_102 := ne_ BK101 hg; replace BK101 := bb_ BK101 hb; have NB102_101 := A_ NB101_102.out.symm; clear hb hbox hg) | ((with_reducible refine gate_dst (N := 7) rfl ?_); refine boxeq_ 7 #[.int .i64 a2_0, .int .i64 a2_1] 23 ?_; intro gb103 hg w9 hbox hb; have BK103 := A_ (hbox); have GW103 := ge_ HB hg; replace HB := st_ HB hb; have GE103 := GW103; have NB101_103 := ne_ BK101 hg; replace BK101 := bb_ BK101 hb; have NB103_101 := A_ NB101_103.out.symm; have NB102_103 := ne_ BK102 hg; replace BK102 := bb_ BK102 hb; have NB103_102 := A_ NB102_103.out.symm; clear hb hbox hg) | ((with_reducible refine gate_dst (N := 8) rfl ?_); refine boxeq_ 8 #[.int .i64 a3_0, .int .i64 a3_1] 23 ?_; intro gb104 hg w10 hbox hb; have BK104 := A_ (hbox); have GW104 := ge_ HB hg; replace HB := st_ HB hb; have GE104 := GW104; have NB101_104 := ne_ BK101 hg; replace BK101 := bb_ BK101 hb; have NB104_101 := A_ NB101_104.out.symm; have NB102_104 := ne_ BK102 hg; replace BK102 := bb_ BK102 hb; have NB104_102 := A_ NB102_104.out.symm; have NB103_104 := ne_ BK103 hg; replace BK103 := bb_ BK103 hb; have NB104_103 := A_ NB103_104.out.symm; clear hb hbox hg))
 (try simp only [Act.put, List.setIfInBounds_toArray, List.set_cons_zero, List.set_cons_succ])
 go_cut [42] (fun v42 wc => ∃ (kq : Nat) (x42_5 : Bool), v42 = .bool x42_5 ∧ Aside0 (cobwebref06_Meets.j0 kq a4 x42_5 a0_0 a0_1 a1_0 a1_1 a2_0 a2_1 a3_0 a3_1 = some r) ∧ Aside0 (kq ≤ k) ∧ Aside0 (wc.heap[gb101]? = some (.cells #[.int .i64 a0_0, .int .i64 a0_1] 23 (0, 0))) ∧ Aside0 (wc.heap[gb102]? = some (.cells #[.int .i64 a1_0, .int .i64 a1_1] 23 (0, 0))) ∧ Aside0 (wc.heap[gb103]? = some (.cells #[.int .i64 a2_0, .int .i64 a2_1] 23 (0, 0))) ∧ Aside0 (wc.heap[gb104]? = some (.cells #[.int .i64 a3_0, .int .i64 a3_1] 23 (0, 0))) ∧ Aside0 (Below w.heap.size w wc))
 case first =>
  have H := HC6.out
  clear HC6
  replace H := Option.bind_eq_some_iff.mp H
  obtain ⟨t105, A110, H⟩ := H
  replace H : (if t105 = true then ((cobwebref05_Right.f a1_0 a1_1).bind fun t106 => (if t106 = true then ((cobwebref06_right.f a2_0 a2_1).bind fun t107 => (if t107 = true then ((cobwebref06_right.f a3_0 a3_1).bind fun t108 => (if t108 = true then (if a4 < 0 then (cobwebref06_Meets.j0 k a4 true a0_0 a0_1 a1_0 a1_1 a2_0 a2_1 a3_0 a3_1) else (cobwebref06_Meets.j0 k a4 (decide (a4 > 2)) a0_0 a0_1 a1_0 a1_1 a2_0 a2_1 a3_0 a3_1)) else (cobwebref06_Meets.j0 k a4 true a0_0 a0_1 a1_0 a1_1 a2_0 a2_1 a3_0 a3_1))) else (cobwebref06_Meets.j0 k a4 true a0_0 a0_1 a1_0 a1_1 a2_0 a2_1 a3_0 a3_1))) else (cobwebref06_Meets.j0 k a4 true a0_0 a0_1 a1_0 a1_1 a2_0 a2_1 a3_0 a3_1))) else (cobwebref06_Meets.j0 k a4 true a0_0 a0_1 a1_0 a1_1 a2_0 a2_1 a3_0 a3_1)) = some r := H
  have A11 := A_ A110
  clear A110
  by_cases c12 : t105 = true
  ·subst c12
   have H1 : ((cobwebref05_Right.f a1_0 a1_1).bind fun t106 => (if t106 = true then ((cobwebref06_right.f a2_0 a2_1).bind fun t107 => (if t107 = true then ((cobwebref06_right.f a3_0 a3_1).bind fun t108 => (if t108 = true then (if a4 < 0 then (cobwebref06_Meets.j0 k a4 true a0_0 a0_1 a1_0 a1_1 a2_0 a2_1 a3_0 a3_1) else (cobwebref06_Meets.j0 k a4 (decide (a4 > 2)) a0_0 a0_1 a1_0 a1_1 a2_0 a2_1 a3_0 a3_1)) else (cobwebref06_Meets.j0 k a4 true a0_0 a0_1 a1_0 a1_1 a2_0 a2_1 a3_0 a3_1))) else (cobwebref06_Meets.j0 k a4 true a0_0 a0_1 a1_0 a1_1 a2_0 a2_1 a3_0 a3_1))) else (cobwebref06_Meets.j0 k a4 true a0_0 a0_1 a1_0 a1_1 a2_0 a2_1 a3_0 a3_1))) = some r := by rw [if_pos rfl] at H; exact H
   clear H
   have H := H1
   clear H1
   replace H := Option.bind_eq_some_iff.mp H
   obtain ⟨t106, A130, H⟩ := H
   replace H : (if t106 = true then ((cobwebref06_right.f a2_0 a2_1).bind fun t107 => (if t107 = true then ((cobwebref06_right.f a3_0 a3_1).bind fun t108 => (if t108 = true then (if a4 < 0 then (cobwebref06_Meets.j0 k a4 true a0_0 a0_1 a1_0 a1_1 a2_0 a2_1 a3_0 a3_1) else (cobwebref06_Meets.j0 k a4 (decide (a4 > 2)) a0_0 a0_1 a1_0 a1_1 a2_0 a2_1 a3_0 a3_1)) else (cobwebref06_Meets.j0 k a4 true a0_0 a0_1 a1_0 a1_1 a2_0 a2_1 a3_0 a3_1))) else (cobwebref06_Meets.j0 k a4 true a0_0 a0_1 a1_0 a1_1 a2_0 a2_1 a3_0 a3_1))) else (cobwebref06_Meets.j0 k a4 true a0_0 a0_1 a1_0 a1_1 a2_0 a2_1 a3_0 a3_1)) = some r := H
   have A13 := A_ A130
   clear A130
   by_cases c14 : t106 = true
   ·subst c14
    have H1 : ((cobwebref06_right.f a2_0 a2_1).bind fun t107 => (if t107 = true then ((cobwebref06_right.f a3_0 a3_1).bind fun t108 => (if t108 = true then (if a4 < 0 then (cobwebref06_Meets.j0 k a4 true a0_0 a0_1 a1_0 a1_1 a2_0 a2_1 a3_0 a3_1) else (cobwebref06_Meets.j0 k a4 (decide (a4 > 2)) a0_0 a0_1 a1_0 a1_1 a2_0 a2_1 a3_0 a3_1)) else (cobwebref06_Meets.j0 k a4 true a0_0 a0_1 a1_0 a1_1 a2_0 a2_1 a3_0 a3_1))) else (cobwebref06_Meets.j0 k a4 true a0_0 a0_1 a1_0 a1_1 a2_0 a2_1 a3_0 a3_1))) = some r := by rw [if_pos rfl] at H; exact H
    clear H
    have H := H1
    clear H1
    replace H := Option.bind_eq_some_iff.mp H
    obtain ⟨t107, A150, H⟩ := H
    replace H : (if t107 = true then ((cobwebref06_right.f a3_0 a3_1).bind fun t108 => (if t108 = true then (if a4 < 0 then (cobwebref06_Meets.j0 k a4 true a0_0 a0_1 a1_0 a1_1 a2_0 a2_1 a3_0 a3_1) else (cobwebref06_Meets.j0 k a4 (decide (a4 > 2)) a0_0 a0_1 a1_0 a1_1 a2_0 a2_1 a3_0 a3_1)) else (cobwebref06_Meets.j0 k a4 true a0_0 a0_1 a1_0 a1_1 a2_0 a2_1 a3_0 a3_1))) else (cobwebref06_Meets.j0 k a4 true a0_0 a0_1 a1_0 a1_1 a2_0 a2_1 a3_0 a3_1)) = some r := H
    have A15 := A_ A150
    clear A150
    by_cases c16 : t107 = true
    ·subst c16
     have H1 : ((cobwebref06_right.f a3_0 a3_1).bind fun t108 => (if t108 = true then (if a4 < 0 then (cobwebref06_Meets.j0 k a4 true a0_0 a0_1 a1_0 a1_1 a2_0 a2_1 a3_0 a3_1) else (cobwebref06_Meets.j0 k a4 (decide (a4 > 2)) a0_0 a0_1 a1_0 a1_1 a2_0 a2_1 a3_0 a3_1)) else (cobwebref06_Meets.j0 k a4 true a0_0 a0_1 a1_0 a1_1 a2_0 a2_1 a3_0 a3_1))) = some r := by rw [if_pos rfl] at H; exact H
     clear H
     have H := H1
     clear H1
     replace H := Option.bind_eq_some_iff.mp H
     obtain ⟨t108, A170, H⟩ := H
     replace H : (if t108 = true then (if a4 < 0 then (cobwebref06_Meets.j0 k a4 true a0_0 a0_1 a1_0 a1_1 a2_0 a2_1 a3_0 a3_1) else (cobwebref06_Meets.j0 k a4 (decide (a4 > 2)) a0_0 a0_1 a1_0 a1_1 a2_0 a2_1 a3_0 a3_1)) else (cobwebref06_Meets.j0 k a4 true a0_0 a0_1 a1_0 a1_1 a2_0 a2_1 a3_0 a3_1)) = some r := H
     have A17 := A_ A170
     clear A170
     by_cases c18 : t108 = true
     ·subst c18
      have H1 : (if a4 < 0 then (cobwebref06_Meets.j0 k a4 true a0_0 a0_1 a1_0 a1_1 a2_0 a2_1 a3_0 a3_1) else (cobwebref06_Meets.j0 k a4 (decide (a4 > 2)) a0_0 a0_1 a1_0 a1_1 a2_0 a2_1 a3_0 a3_1)) = some r := by rw [if_pos rfl] at H; exact H
      clear H
      have H := H1
      clear H1
      by_cases c19 : a4 < 0
      ·rw [if_pos c19] at H
       have c19b0 : decide (a4 < 0) = true := decide_eq_true c19
       clear c19
       (first | rw [c19b0] | (simp only [i64_w, i32_w]; rw [c19b0]) | skip)
       have H' := A_ H
       clear H
       have hnb20 := NB101_102.out
       have hnc20 := NB102_101.out
       have hnb21 := NB101_103.out
       have hnc21 := NB103_101.out
       have hnb22 := NB101_104.out
       have hnc22 := NB104_101.out
       have hcz23_0 : w10.cell? ⟨gb101, 0, none⟩ = some (.int .i64 a0_0) := (blk_cell BK101.out 0).trans rfl
       have hcz23_1 : w10.cell? ⟨gb101, 1, none⟩ = some (.int .i64 a0_1) := (blk_cell BK101.out 1).trans rfl
       have hfz23_0 := blk_frozen BK101.out 0
       have hfz23_1 := blk_frozen BK101.out 1
       go_wp2_with (first | ((with_reducible refine gate_callee (f := 19) rfl ?_); refine goesLq_ 18 rfl Try.func19 #[.agg #[.int .i64 a0_0, .int .i64 a0_1]] ?_; (with_reducible refine (cobwebref05_Right.calls a0_0 a0_1 true _ A11.out).mono ?_); rintro e w24 ⟨rfl, hb⟩; refine ⟨_, rfl, ?_⟩; replace BK101 := bb_ BK101 hb; replace BK102 := bb_ BK102 hb; replace BK103 := bb_ BK103 hb; replace BK104 := bb_ BK104 hb; replace HB := st_ HB hb; (try clear hb); (try clear hb2); (try clear hk); (try clear hi); have hnb25 := NB102_103.out; have hnc25 := NB103_102.out; have hnb26 := NB102_104.out; have hnc26 := NB104_102.out; have hcz27_0 : w24.cell? ⟨gb102, 0, none⟩ = some (.int .i64 a1_0) := (blk_cell BK102.out 0).trans rfl; have hcz27_1 : w24.cell? ⟨gb102, 1, none⟩ = some (.int .i64 a1_1) := (blk_cell BK102.out 1).trans rfl; have hfz27_0 := blk_frozen BK102.out 0; have hfz27_1 := blk_frozen BK102.out 1) | (go_at_call 19; (with_reducible refine (cobwebref05_Right.calls a1_0 a1_1 true _ A13.out).mono ?_); rintro e w28 ⟨rfl, hb⟩; replace BK101 := bb_ BK101 hb; replace BK102 := bb_ BK102 hb; replace BK103 := bb_ BK103 hb; replace BK104 := bb_ BK104 hb; replace HB := st_ HB hb; (try clear hb); (try clear hb2); (try clear hk); (try clear hi); have hnb29 := NB103_104.out; have hnc29 := NB104_103.out; have hcz30_0 : w28.cell? ⟨gb103, 0, none⟩ = some (.int .i64 a2_0) := (blk_cell BK103.out 0).trans rfl; have hcz30_1 : w28.cell? ⟨gb103, 1, none⟩ = some (.int .i64 a2_1) := (blk_cell BK103.out 1).trans rfl; have hfz30_0 := blk_frozen BK103.out 0; have hfz30_1 := blk_frozen BK103.out 1) | (go_at_call 27; (with_reducible refine (cobwebref06_right.calls a2_0 a2_1 true _ A15.out).mono ?_); rintro e w31 ⟨rfl, hb⟩; replace BK101 := bb_ BK101 hb; replace BK102 := bb_ BK102 hb; replace BK103 := bb_ BK103 hb; replace BK104 := bb_ BK104 hb; replace HB := st_ HB hb; (try clear hb); (try clear hb2); (try clear hk); (try clear hi); have hcz32_0 : w31.cell? ⟨gb104, 0, none⟩ = some (.int .i64 a3_0) := (blk_cell BK104.out 0).trans rfl; have hcz32_1 : w31.cell? ⟨gb104, 1, none⟩ = some (.int .i64 a3_1) := (blk_cell BK104.out 1).trans rfl; have hfz32_0 := blk_frozen BK104.out 0; have hfz32_1 := blk_frozen BK104.out 1) | (go_at_call 27; (with_reducible refine (cobwebref06_right.calls a3_0 a3_1 true _ A17.out).mono ?_); rintro e w33 ⟨rfl, hb⟩; replace BK101 := bb_ BK101 hb; replace BK102 := bb_ BK102 hb; replace BK103 := bb_ BK103 hb; replace BK104 := bb_ BK104 hb; replace HB := st_ HB hb; (try clear hb); (try clear hb2); (try clear hk); (try clear hi)))
       go_meet
       case rel => exact ⟨_, (true), (by first | rfl | (simp; done) | (simp [*]; done)), H', ⟨by first | omega | exact Nat.le_refl _⟩, ⟨b_ BK101⟩, ⟨b_ BK102⟩, ⟨b_ BK103⟩, ⟨b_ BK104⟩, ⟨l_ HB⟩⟩
      ·rw [if_neg c19] at H
       have c19b0 : decide (a4 < 0) = false := decide_eq_false c19
       clear c19
       (first | rw [c19b0] | (simp only [i64_w, i32_w]; rw [c19b0]) | skip)
       have H' := A_ H
       clear H
       have hnb34 := NB101_102.out
       have hnc34 := NB102_101.out
       have hnb35 := NB101_103.out
       have hnc35 := NB103_101.out
       have hnb36 := NB101_104.out
       have hnc36 := NB104_101.out
       have hcz37_0 : w10.cell? ⟨gb101, 0, none⟩ = some (.int .i64 a0_0) := (blk_cell BK101.out 0).trans rfl
       have hcz37_1 : w10.cell? ⟨gb101, 1, none⟩ = some (.int .i64 a0_1) := (blk_cell BK101.out 1).trans rfl
       have hfz37_0 := blk_frozen BK101.out 0
       have hfz37_1 := blk_frozen BK101.out 1
       go_wp2_with (first | ((with_reducible refine gate_callee (f := 19) rfl ?_); refine goesLq_ 18 rfl Try.func19 #[.agg #[.int .i64 a0_0, .int .i64 a0_1]] ?_; (with_reducible refine (cobwebref05_Right.calls a0_0 a0_1 true _ A11.out).mono ?_); rintro e w38 ⟨rfl, hb⟩; refine ⟨_, rfl, ?_⟩; replace BK101 := bb_ BK101 hb; replace BK102 := bb_ BK102 hb; replace BK103 := bb_ BK103 hb; replace BK104 := bb_ BK104 hb; replace HB := st_ HB hb; (try clear hb); (try clear hb2); (try clear hk); (try clear hi); have hnb39 := NB102_103.out; have hnc39 := NB103_102.out; have hnb40 := NB102_104.out; have hnc40 := NB104_102.out; have hcz41_0 : w38.cell? ⟨gb102, 0, none⟩ = some (.int .i64 a1_0) := (blk_cell BK102.out 0).trans rfl; have hcz41_1 : w38.cell? ⟨gb102, 1, none⟩ = some (.int .i64 a1_1) := (blk_cell BK102.out 1).trans rfl; have hfz41_0 := blk_frozen BK102.out 0; have hfz41_1 := blk_frozen BK102.out 1) | (go_at_call 19; (with_reducible refine (cobwebref05_Right.calls a1_0 a1_1 true _ A13.out).mono ?_); rintro e w42 ⟨rfl, hb⟩; replace BK101 := bb_ BK101 hb; replace BK102 := bb_ BK102 hb; replace BK103 := bb_ BK103 hb; replace BK104 := bb_ BK104 hb; replace HB := st_ HB hb; (try clear hb); (try clear hb2); (try clear hk); (try clear hi); have hnb43 := NB103_104.out; have hnc43 := NB104_103.out; have hcz44_0 : w42.cell? ⟨gb103, 0, none⟩ = some (.int .i64 a2_0) := (blk_cell BK103.out 0).trans rfl; have hcz44_1 : w42.cell? ⟨gb103, 1, none⟩ = some (.int .i64 a2_1) := (blk_cell BK103.out 1).trans rfl; have hfz44_0 := blk_frozen BK103.out 0; have hfz44_1 := blk_frozen BK103.out 1) | (go_at_call 27; (with_reducible refine (cobwebref06_right.calls a2_0 a2_1 true _ A15.out).mono ?_); rintro e w45 ⟨rfl, hb⟩; replace BK101 := bb_ BK101 hb; replace BK102 := bb_ BK102 hb; replace BK103 := bb_ BK103 hb; replace BK104 := bb_ BK104 hb; replace HB := st_ HB hb; (try clear hb); (try clear hb2); (try clear hk); (try clear hi); have hcz46_0 : w45.cell? ⟨gb104, 0, none⟩ = some (.int .i64 a3_0) := (blk_cell BK104.out 0).trans rfl; have hcz46_1 : w45.cell? ⟨gb104, 1, none⟩ = some (.int .i64 a3_1) := (blk_cell BK104.out 1).trans rfl; have hfz46_0 := blk_frozen BK104.out 0; have hfz46_1 := blk_frozen BK104.out 1) | (go_at_call 27; (with_reducible refine (cobwebref06_right.calls a3_0 a3_1 true _ A17.out).mono ?_); rintro e w47 ⟨rfl, hb⟩; replace BK101 := bb_ BK101 hb; replace BK102 := bb_ BK102 hb; replace BK103 := bb_ BK103 hb; replace BK104 := bb_ BK104 hb; replace HB := st_ HB hb; (try clear hb); (try clear hb2); (try clear hk); (try clear hi)))
       go_meet
       case rel => exact ⟨_, (decide (a4 > 2)), (by first | rfl | (simp; done) | (simp [*]; done)), H', ⟨by first | omega | exact Nat.le_refl _⟩, ⟨b_ BK101⟩, ⟨b_ BK102⟩, ⟨b_ BK103⟩, ⟨b_ BK104⟩, ⟨l_ HB⟩⟩
     ·replace c18 := Bool.eq_false_iff.mpr c18
      subst c18
      have H1 : (cobwebref06_Meets.j0 k a4 true a0_0 a0_1 a1_0 a1_1 a2_0 a2_1 a3_0 a3_1) = some r := by rw [if_neg (show ¬ (false = true) by decide)] at H; exact H
      clear H
      have H := H1
      clear H1
      have H' := A_ H
      clear H
      have hnb48 := NB101_102.out
      have hnc48 := NB102_101.out
      have hnb49 := NB101_103.out
      have hnc49 := NB103_101.out
      have hnb50 := NB101_104.out
      have hnc50 := NB104_101.out
      have hcz51_0 : w10.cell? ⟨gb101, 0, none⟩ = some (.int .i64 a0_0) := (blk_cell BK101.out 0).trans rfl
      have hcz51_1 : w10.cell? ⟨gb101, 1, none⟩ = some (.int .i64 a0_1) := (blk_cell BK101.out 1).trans rfl
      have hfz51_0 := blk_frozen BK101.out 0
      have hfz51_1 := blk_frozen BK101.out 1
      go_wp2_with (first | ((with_reducible refine gate_callee (f := 19) rfl ?_); refine goesLq_ 18 rfl Try.func19 #[.agg #[.int .i64 a0_0, .int .i64 a0_1]] ?_; (with_reducible refine (cobwebref05_Right.calls a0_0 a0_1 true _ A11.out).mono ?_); rintro e w52 ⟨rfl, hb⟩; refine ⟨_, rfl, ?_⟩; replace BK101 := bb_ BK101 hb; replace BK102 := bb_ BK102 hb; replace BK103 := bb_ BK103 hb; replace BK104 := bb_ BK104 hb; replace HB := st_ HB hb; (try clear hb); (try clear hb2); (try clear hk); (try clear hi); have hnb53 := NB102_103.out; have hnc53 := NB103_102.out; have hnb54 := NB102_104.out; have hnc54 := NB104_102.out; have hcz55_0 : w52.cell? ⟨gb102, 0, none⟩ = some (.int .i64 a1_0) := (blk_cell BK102.out 0).trans rfl; have hcz55_1 : w52.cell? ⟨gb102, 1, none⟩ = some (.int .i64 a1_1) := (blk_cell BK102.out 1).trans rfl; have hfz55_0 := blk_frozen BK102.out 0; have hfz55_1 := blk_frozen BK102.out 1) | (go_at_call 19; (with_reducible refine (cobwebref05_Right.calls a1_0 a1_1 true _ A13.out).mono ?_); rintro e w56 ⟨rfl, hb⟩; replace BK101 := bb_ BK101 hb; replace BK102 := bb_ BK102 hb; replace BK103 := bb_ BK103 hb; replace BK104 := bb_ BK104 hb; replace HB := st_ HB hb; (try clear hb); (try clear hb2); (try clear hk); (try clear hi); have hnb57 := NB103_104.out; have hnc57 := NB104_103.out; have hcz58_0 : w56.cell? ⟨gb103, 0, none⟩ = some (.int .i64 a2_0) := (blk_cell BK103.out 0).trans rfl; have hcz58_1 : w56.cell? ⟨gb103, 1, none⟩ = some (.int .i64 a2_1) := (blk_cell BK103.out 1).trans rfl; have hfz58_0 := blk_frozen BK103.out 0; have hfz58_1 := blk_frozen BK103.out 1) | (go_at_call 27; (with_reducible refine (cobwebref06_right.calls a2_0 a2_1 true _ A15.out).mono ?_); rintro e w59 ⟨rfl, hb⟩; replace BK101 := bb_ BK101 hb; replace BK102 := bb_ BK102 hb; replace BK103 := bb_ BK103 hb; replace BK104 := bb_ BK104 hb; replace HB := st_ HB hb; (try clear hb); (try clear hb2); (try clear hk); (try clear hi); have hcz60_0 : w59.cell? ⟨gb104, 0, none⟩ = some (.int .i64 a3_0) := (blk_cell BK104.out 0).trans rfl; have hcz60_1 : w59.cell? ⟨gb104, 1, none⟩ = some (.int .i64 a3_1) := (blk_cell BK104.out 1).trans rfl; have hfz60_0 := blk_frozen BK104.out 0; have hfz60_1 := blk_frozen BK104.out 1) | (go_at_call 27; (with_reducible refine (cobwebref06_right.calls a3_0 a3_1 false _ A17.out).mono ?_); rintro e w61 ⟨rfl, hb⟩; replace BK101 := bb_ BK101 hb; replace BK102 := bb_ BK102 hb; replace BK103 := bb_ BK103 hb; replace BK104 := bb_ BK104 hb; replace HB := st_ HB hb; (try clear hb); (try clear hb2); (try clear hk); (try clear hi)))
      go_meet
      case rel => exact ⟨_, (true), (by first | rfl | (simp; done) | (simp [*]; done)), H', ⟨by first | omega | exact Nat.le_refl _⟩, ⟨b_ BK101⟩, ⟨b_ BK102⟩, ⟨b_ BK103⟩, ⟨b_ BK104⟩, ⟨l_ HB⟩⟩
    ·replace c16 := Bool.eq_false_iff.mpr c16
     subst c16
     have H1 : (cobwebref06_Meets.j0 k a4 true a0_0 a0_1 a1_0 a1_1 a2_0 a2_1 a3_0 a3_1) = some r := by rw [if_neg (show ¬ (false = true) by decide)] at H; exact H
     clear H
     have H := H1
     clear H1
     have H' := A_ H
     clear H
     have hnb62 := NB101_102.out
     have hnc62 := NB102_101.out
     have hnb63 := NB101_103.out
     have hnc63 := NB103_101.out
     have hnb64 := NB101_104.out
     have hnc64 := NB104_101.out
     have hcz65_0 : w10.cell? ⟨gb101, 0, none⟩ = some (.int .i64 a0_0) := (blk_cell BK101.out 0).trans rfl
     have hcz65_1 : w10.cell? ⟨gb101, 1, none⟩ = some (.int .i64 a0_1) := (blk_cell BK101.out 1).trans rfl
     have hfz65_0 := blk_frozen BK101.out 0
     have hfz65_1 := blk_frozen BK101.out 1
     go_wp2_with (first | ((with_reducible refine gate_callee (f := 19) rfl ?_); refine goesLq_ 18 rfl Try.func19 #[.agg #[.int .i64 a0_0, .int .i64 a0_1]] ?_; (with_reducible refine (cobwebref05_Right.calls a0_0 a0_1 true _ A11.out).mono ?_); rintro e w66 ⟨rfl, hb⟩; refine ⟨_, rfl, ?_⟩; replace BK101 := bb_ BK101 hb; replace BK102 := bb_ BK102 hb; replace BK103 := bb_ BK103 hb; replace BK104 := bb_ BK104 hb; replace HB := st_ HB hb; (try clear hb); (try clear hb2); (try clear hk); (try clear hi); have hnb67 := NB102_103.out; have hnc67 := NB103_102.out; have hnb68 := NB102_104.out; have hnc68 := NB104_102.out; have hcz69_0 : w66.cell? ⟨gb102, 0, none⟩ = some (.int .i64 a1_0) := (blk_cell BK102.out 0).trans rfl; have hcz69_1 : w66.cell? ⟨gb102, 1, none⟩ = some (.int .i64 a1_1) := (blk_cell BK102.out 1).trans rfl; have hfz69_0 := blk_frozen BK102.out 0; have hfz69_1 := blk_frozen BK102.out 1) | (go_at_call 19; (with_reducible refine (cobwebref05_Right.calls a1_0 a1_1 true _ A13.out).mono ?_); rintro e w70 ⟨rfl, hb⟩; replace BK101 := bb_ BK101 hb; replace BK102 := bb_ BK102 hb; replace BK103 := bb_ BK103 hb; replace BK104 := bb_ BK104 hb; replace HB := st_ HB hb; (try clear hb); (try clear hb2); (try clear hk); (try clear hi); have hnb71 := NB103_104.out; have hnc71 := NB104_103.out; have hcz72_0 : w70.cell? ⟨gb103, 0, none⟩ = some (.int .i64 a2_0) := (blk_cell BK103.out 0).trans rfl; have hcz72_1 : w70.cell? ⟨gb103, 1, none⟩ = some (.int .i64 a2_1) := (blk_cell BK103.out 1).trans rfl; have hfz72_0 := blk_frozen BK103.out 0; have hfz72_1 := blk_frozen BK103.out 1) | (go_at_call 27; (with_reducible refine (cobwebref06_right.calls a2_0 a2_1 false _ A15.out).mono ?_); rintro e w73 ⟨rfl, hb⟩; replace BK101 := bb_ BK101 hb; replace BK102 := bb_ BK102 hb; replace BK103 := bb_ BK103 hb; replace BK104 := bb_ BK104 hb; replace HB := st_ HB hb; (try clear hb); (try clear hb2); (try clear hk); (try clear hi)))
     go_meet
     case rel => exact ⟨_, (true), (by first | rfl | (simp; done) | (simp [*]; done)), H', ⟨by first | omega | exact Nat.le_refl _⟩, ⟨b_ BK101⟩, ⟨b_ BK102⟩, ⟨b_ BK103⟩, ⟨b_ BK104⟩, ⟨l_ HB⟩⟩
   ·replace c14 := Bool.eq_false_iff.mpr c14
    subst c14
    have H1 : (cobwebref06_Meets.j0 k a4 true a0_0 a0_1 a1_0 a1_1 a2_0 a2_1 a3_0 a3_1) = some r := by rw [if_neg (show ¬ (false = true) by decide)] at H; exact H
    clear H
    have H := H1
    clear H1
    have H' := A_ H
    clear H
    have hnb74 := NB101_102.out
    have hnc74 := NB102_101.out
    have hnb75 := NB101_103.out
    have hnc75 := NB103_101.out
    have hnb76 := NB101_104.out
    have hnc76 := NB104_101.out
    have hcz77_0 : w10.cell? ⟨gb101, 0, none⟩ = some (.int .i64 a0_0) := (blk_cell BK101.out 0).trans rfl
    have hcz77_1 : w10.cell? ⟨gb101, 1, none⟩ = some (.int .i64 a0_1) := (blk_cell BK101.out 1).trans rfl
    have hfz77_0 := blk_frozen BK101.out 0
    have hfz77_1 := blk_frozen BK101.out 1
    go_wp2_with (first | ((with_reducible refine gate_callee (f := 19) rfl ?_); refine goesLq_ 18 rfl Try.func19 #[.agg #[.int .i64 a0_0, .int .i64 a0_1]] ?_; (with_reducible refine (cobwebref05_Right.calls a0_0 a0_1 true _ A11.out).mono ?_); rintro e w78 ⟨rfl, hb⟩; refine ⟨_, rfl, ?_⟩; replace BK101 := bb_ BK101 hb; replace BK102 := bb_ BK102 hb; replace BK103 := bb_ BK103 hb; replace BK104 := bb_ BK104 hb; replace HB := st_ HB hb; (try clear hb); (try clear hb2); (try clear hk); (try clear hi); have hnb79 := NB102_103.out; have hnc79 := NB103_102.out; have hnb80 := NB102_104.out; have hnc80 := NB104_102.out; have hcz81_0 : w78.cell? ⟨gb102, 0, none⟩ = some (.int .i64 a1_0) := (blk_cell BK102.out 0).trans rfl; have hcz81_1 : w78.cell? ⟨gb102, 1, none⟩ = some (.int .i64 a1_1) := (blk_cell BK102.out 1).trans rfl; have hfz81_0 := blk_frozen BK102.out 0; have hfz81_1 := blk_frozen BK102.out 1) | (go_at_call 19; (with_reducible refine (cobwebref05_Right.calls a1_0 a1_1 false _ A13.out).mono ?_); rintro e w82 ⟨rfl, hb⟩; replace BK101 := bb_ BK101 hb; replace BK102 := bb_ BK102 hb; replace BK103 := bb_ BK103 hb; replace BK104 := bb_ BK104 hb; replace HB := st_ HB hb; (try clear hb); (try clear hb2); (try clear hk); (try clear hi)))
    go_meet
    case rel => exact ⟨_, (true), (by first | rfl | (simp; done) | (simp [*]; done)), H', ⟨by first | omega | exact Nat.le_refl _⟩, ⟨b_ BK101⟩, ⟨b_ BK102⟩, ⟨b_ BK103⟩, ⟨b_ BK104⟩, ⟨l_ HB⟩⟩
  ·replace c12 := Bool.eq_false_iff.mpr c12
   subst c12
   have H1 : (cobwebref06_Meets.j0 k a4 true a0_0 a0_1 a1_0 a1_1 a2_0 a2_1 a3_0 a3_1) = some r := by rw [if_neg (show ¬ (false = true) by decide)] at H; exact H
   clear H
   have H := H1
   clear H1
   have H' := A_ H
   clear H
   have hnb83 := NB101_102.out
   have hnc83 := NB102_101.out
   have hnb84 := NB101_103.out
   have hnc84 := NB103_101.out
   have hnb85 := NB101_104.out
   have hnc85 := NB104_101.out
   have hcz86_0 : w10.cell? ⟨gb101, 0, none⟩ = some (.int .i64 a0_0) := (blk_cell BK101.out 0).trans rfl
   have hcz86_1 : w10.cell? ⟨gb101, 1, none⟩ = some (.int .i64 a0_1) := (blk_cell BK101.out 1).trans rfl
   have hfz86_0 := blk_frozen BK101.out 0
   have hfz86_1 := blk_frozen BK101.out 1
   go_wp2_with (first | ((with_reducible refine gate_callee (f := 19) rfl ?_); refine goesLq_ 18 rfl Try.func19 #[.agg #[.int .i64 a0_0, .int .i64 a0_1]] ?_; (with_reducible refine (cobwebref05_Right.calls a0_0 a0_1 false _ A11.out).mono ?_); rintro e w87 ⟨rfl, hb⟩; refine ⟨_, rfl, ?_⟩; replace BK101 := bb_ BK101 hb; replace BK102 := bb_ BK102 hb; replace BK103 := bb_ BK103 hb; replace BK104 := bb_ BK104 hb; replace HB := st_ HB hb; (try clear hb); (try clear hb2); (try clear hk); (try clear hi)))
   go_meet
   case rel => exact ⟨_, (true), (by first | rfl | (simp; done) | (simp [*]; done)), H', ⟨by first | omega | exact Nat.le_refl _⟩, ⟨b_ BK101⟩, ⟨b_ BK102⟩, ⟨b_ BK103⟩, ⟨b_ BK104⟩, ⟨l_ HB⟩⟩
 case rest =>
  clear HC6
  try clear c1
  try clear c2
  try clear p2
  try clear c3
  try clear c4
  try clear c5
  try clear c6
  try clear c7
  try clear c8
  try clear c12
  try clear c14
  try clear c16
  try clear c18
  try clear c19
  try clear c19b0
  try clear c20
  try clear c21
  try clear c22
  try clear c25
  try clear c26
  try clear c29
  try clear c34
  try clear c35
  try clear c36
  try clear c39
  try clear c40
  try clear c43
  try clear c48
  try clear c49
  try clear c50
  try clear c53
  try clear c54
  try clear c57
  try clear c62
  try clear c63
  try clear c64
  try clear c67
  try clear c68
  try clear c71
  try clear c74
  try clear c75
  try clear c76
  try clear c79
  try clear c80
  try clear c83
  try clear c84
  try clear c85
  try clear hcz23_0
  try clear hcz23_1
  try clear hcz27_0
  try clear hcz27_1
  try clear hcz30_0
  try clear hcz30_1
  try clear hcz32_0
  try clear hcz32_1
  try clear hcz37_0
  try clear hcz37_1
  try clear hcz41_0
  try clear hcz41_1
  try clear hcz44_0
  try clear hcz44_1
  try clear hcz46_0
  try clear hcz46_1
  try clear hcz51_0
  try clear hcz51_1
  try clear hcz55_0
  try clear hcz55_1
  try clear hcz58_0
  try clear hcz58_1
  try clear hcz60_0
  try clear hcz60_1
  try clear hcz65_0
  try clear hcz65_1
  try clear hcz69_0
  try clear hcz69_1
  try clear hcz72_0
  try clear hcz72_1
  try clear hcz77_0
  try clear hcz77_1
  try clear hcz81_0
  try clear hcz81_1
  try clear hcz86_0
  try clear hcz86_1
  try clear hfz23_0
  try clear hfz23_1
  try clear hfz27_0
  try clear hfz27_1
  try clear hfz30_0
  try clear hfz30_1
  try clear hfz32_0
  try clear hfz32_1
  try clear hfz37_0
  try clear hfz37_1
  try clear hfz41_0
  try clear hfz41_1
  try clear hfz44_0
  try clear hfz44_1
  try clear hfz46_0
  try clear hfz46_1
  try clear hfz51_0
  try clear hfz51_1
  try clear hfz55_0
  try clear hfz55_1
  try clear hfz58_0
  try clear hfz58_1
  try clear hfz60_0
  try clear hfz60_1
  try clear hfz65_0
  try clear hfz65_1
  try clear hfz69_0
  try clear hfz69_1
  try clear hfz72_0
  try clear hfz72_1
  try clear hfz77_0
  try clear hfz77_1
  try clear hfz81_0
  try clear hfz81_1
  try clear hfz86_0
  try clear hfz86_1
  obtain ⟨kq, x42_5, rfl, HA, HJ5, BK101, BK102, BK103, BK104, HB⟩ := hcut
  cases kq with
  | zero => exact absurd HA.out (by simp [cobwebref06_Meets.j0])
  | succ kj5 =>
   have H := HA.out
   clear HA
   simp only [cobwebref06_Meets.j0] at H
   by_cases c88 : x42_5 = true
   ·subst c88
    have H1 : (some false) = some r := by rw [if_pos rfl] at H; exact H
    clear H
    have H := H1
    clear H1
    obtain rfl := Option.some.inj H
    go_wp2
    go_ret
    exact ⟨by first | rfl | (simp [errW_none, errW_some] <;> rfl) | (simp [*, errW_none, errW_some] <;> rfl), l_ HB⟩
   ·replace c88 := Bool.eq_false_iff.mpr c88
    subst c88
    have H1 : ((cobwebref06_num.f kj5 0).bind fun bt109 => ((cobwebref06_num.f kj5 1).bind fun bt113 => ((cobwebref06_num.f kj5 1).bind fun bt117 => ((cobwebref06_num.f kj5 1).bind fun bt121 => ((some (([(⟨(⟨bt109.1, bt109.2⟩ : S55), (⟨bt113.1, bt113.2⟩ : S55)⟩ : S58), (⟨(⟨bt117.1, bt117.2⟩ : S55), (⟨bt121.1, bt121.2⟩ : S55)⟩ : S58)] : List (S58)) : List (S58))).bind fun y125 => ((cobwebref06_ways.f kj5 a0_0 a1_0 a2_0).bind fun t128 => (if y125.length + t128.length < 2199023255552 then ((some (y125 ++ t128 : List (S58))).bind fun y131 => ((cobwebref06_ways.f kj5 a0_0 a1_0 a3_0).bind fun t134 => (if y131.length + t134.length < 2199023255552 then ((some (y131 ++ t134 : List (S58))).bind fun y137 => ((cobwebref06_ways.f kj5 a0_1 a1_1 a2_1).bind fun t140 => (if y137.length + t140.length < 2199023255552 then ((some (y137 ++ t140 : List (S58))).bind fun y143 => ((cobwebref06_ways.f kj5 a0_1 a1_1 a3_1).bind fun t146 => (if y143.length + t146.length < 2199023255552 then ((some (y143 ++ t146 : List (S58))).bind fun y149 => (cobwebref06_Meets.l0 kj5 a4 y149 (y149.length : Int) 0 a0_0 a0_1 a1_0 a1_1 a2_0 a2_1 a3_0 a3_1)) else (none)))) else (none)))) else (none)))) else (none)))))))) = some r := by rw [if_neg (show ¬ (false = true) by decide)] at H; exact H
    clear H
    have H := H1
    clear H1
    replace H := Option.bind_eq_some_iff.mp H
    obtain ⟨⟨t109, t110⟩, A890, H⟩ := H
    replace H : ((cobwebref06_num.f kj5 1).bind fun bt113 => ((cobwebref06_num.f kj5 1).bind fun bt117 => ((cobwebref06_num.f kj5 1).bind fun bt121 => ((some (([(⟨(⟨t109, t110⟩ : S55), (⟨bt113.1, bt113.2⟩ : S55)⟩ : S58), (⟨(⟨bt117.1, bt117.2⟩ : S55), (⟨bt121.1, bt121.2⟩ : S55)⟩ : S58)] : List (S58)) : List (S58))).bind fun y125 => ((cobwebref06_ways.f kj5 a0_0 a1_0 a2_0).bind fun t128 => (if y125.length + t128.length < 2199023255552 then ((some (y125 ++ t128 : List (S58))).bind fun y131 => ((cobwebref06_ways.f kj5 a0_0 a1_0 a3_0).bind fun t134 => (if y131.length + t134.length < 2199023255552 then ((some (y131 ++ t134 : List (S58))).bind fun y137 => ((cobwebref06_ways.f kj5 a0_1 a1_1 a2_1).bind fun t140 => (if y137.length + t140.length < 2199023255552 then ((some (y137 ++ t140 : List (S58))).bind fun y143 => ((cobwebref06_ways.f kj5 a0_1 a1_1 a3_1).bind fun t146 => (if y143.length + t146.length < 2199023255552 then ((some (y143 ++ t146 : List (S58))).bind fun y149 => (cobwebref06_Meets.l0 kj5 a4 y149 (y149.length : Int) 0 a0_0 a0_1 a1_0 a1_1 a2_0 a2_1 a3_0 a3_1)) else (none)))) else (none)))) else (none)))) else (none))))))) = some r := H
    have A89 := A_ A890
    clear A890
    replace H := Option.bind_eq_some_iff.mp H
    obtain ⟨⟨t113, t114⟩, A900, H⟩ := H
    replace H : ((cobwebref06_num.f kj5 1).bind fun bt117 => ((cobwebref06_num.f kj5 1).bind fun bt121 => ((some (([(⟨(⟨t109, t110⟩ : S55), (⟨t113, t114⟩ : S55)⟩ : S58), (⟨(⟨bt117.1, bt117.2⟩ : S55), (⟨bt121.1, bt121.2⟩ : S55)⟩ : S58)] : List (S58)) : List (S58))).bind fun y125 => ((cobwebref06_ways.f kj5 a0_0 a1_0 a2_0).bind fun t128 => (if y125.length + t128.length < 2199023255552 then ((some (y125 ++ t128 : List (S58))).bind fun y131 => ((cobwebref06_ways.f kj5 a0_0 a1_0 a3_0).bind fun t134 => (if y131.length + t134.length < 2199023255552 then ((some (y131 ++ t134 : List (S58))).bind fun y137 => ((cobwebref06_ways.f kj5 a0_1 a1_1 a2_1).bind fun t140 => (if y137.length + t140.length < 2199023255552 then ((some (y137 ++ t140 : List (S58))).bind fun y143 => ((cobwebref06_ways.f kj5 a0_1 a1_1 a3_1).bind fun t146 => (if y143.length + t146.length < 2199023255552 then ((some (y143 ++ t146 : List (S58))).bind fun y149 => (cobwebref06_Meets.l0 kj5 a4 y149 (y149.length : Int) 0 a0_0 a0_1 a1_0 a1_1 a2_0 a2_1 a3_0 a3_1)) else (none)))) else (none)))) else (none)))) else (none)))))) = some r := H
    have A90 := A_ A900
    clear A900
    replace H := Option.bind_eq_some_iff.mp H
    obtain ⟨⟨t117, t118⟩, A910, H⟩ := H
    replace H : ((cobwebref06_num.f kj5 1).bind fun bt121 => ((some (([(⟨(⟨t109, t110⟩ : S55), (⟨t113, t114⟩ : S55)⟩ : S58), (⟨(⟨t117, t118⟩ : S55), (⟨bt121.1, bt121.2⟩ : S55)⟩ : S58)] : List (S58)) : List (S58))).bind fun y125 => ((cobwebref06_ways.f kj5 a0_0 a1_0 a2_0).bind fun t128 => (if y125.length + t128.length < 2199023255552 then ((some (y125 ++ t128 : List (S58))).bind fun y131 => ((cobwebref06_ways.f kj5 a0_0 a1_0 a3_0).bind fun t134 => (if y131.length + t134.length < 2199023255552 then ((some (y131 ++ t134 : List (S58))).bind fun y137 => ((cobwebref06_ways.f kj5 a0_1 a1_1 a2_1).bind fun t140 => (if y137.length + t140.length < 2199023255552 then ((some (y137 ++ t140 : List (S58))).bind fun y143 => ((cobwebref06_ways.f kj5 a0_1 a1_1 a3_1).bind fun t146 => (if y143.length + t146.length < 2199023255552 then ((some (y143 ++ t146 : List (S58))).bind fun y149 => (cobwebref06_Meets.l0 kj5 a4 y149 (y149.length : Int) 0 a0_0 a0_1 a1_0 a1_1 a2_0 a2_1 a3_0 a3_1)) else (none)))) else (none)))) else (none)))) else (none))))) = some r := H
    have A91 := A_ A910
    clear A910
    replace H := Option.bind_eq_some_iff.mp H
    obtain ⟨⟨t121, t122⟩, A920, H⟩ := H
    replace H : ((some (([(⟨(⟨t109, t110⟩ : S55), (⟨t113, t114⟩ : S55)⟩ : S58), (⟨(⟨t117, t118⟩ : S55), (⟨t121, t122⟩ : S55)⟩ : S58)] : List (S58)) : List (S58))).bind fun y125 => ((cobwebref06_ways.f kj5 a0_0 a1_0 a2_0).bind fun t128 => (if y125.length + t128.length < 2199023255552 then ((some (y125 ++ t128 : List (S58))).bind fun y131 => ((cobwebref06_ways.f kj5 a0_0 a1_0 a3_0).bind fun t134 => (if y131.length + t134.length < 2199023255552 then ((some (y131 ++ t134 : List (S58))).bind fun y137 => ((cobwebref06_ways.f kj5 a0_1 a1_1 a2_1).bind fun t140 => (if y137.length + t140.length < 2199023255552 then ((some (y137 ++ t140 : List (S58))).bind fun y143 => ((cobwebref06_ways.f kj5 a0_1 a1_1 a3_1).bind fun t146 => (if y143.length + t146.length < 2199023255552 then ((some (y143 ++ t146 : List (S58))).bind fun y149 => (cobwebref06_Meets.l0 kj5 a4 y149 (y149.length : Int) 0 a0_0 a0_1 a1_0 a1_1 a2_0 a2_1 a3_0 a3_1)) else (none)))) else (none)))) else (none)))) else (none)))) = some r := H
    have A92 := A_ A920
    clear A920
    obtain ⟨y125, hy125⟩ : ∃ y_ : List (S58), y_ = (([(⟨(⟨t109, t110⟩ : S55), (⟨t113, t114⟩ : S55)⟩ : S58), (⟨(⟨t117, t118⟩ : S55), (⟨t121, t122⟩ : S55)⟩ : S58)] : List (S58))) := ⟨_, rfl⟩
    replace H : ((cobwebref06_ways.f kj5 a0_0 a1_0 a2_0).bind fun t128 => (if y125.length + t128.length < 2199023255552 then ((some (y125 ++ t128 : List (S58))).bind fun y131 => ((cobwebref06_ways.f kj5 a0_0 a1_0 a3_0).bind fun t134 => (if y131.length + t134.length < 2199023255552 then ((some (y131 ++ t134 : List (S58))).bind fun y137 => ((cobwebref06_ways.f kj5 a0_1 a1_1 a2_1).bind fun t140 => (if y137.length + t140.length < 2199023255552 then ((some (y137 ++ t140 : List (S58))).bind fun y143 => ((cobwebref06_ways.f kj5 a0_1 a1_1 a3_1).bind fun t146 => (if y143.length + t146.length < 2199023255552 then ((some (y143 ++ t146 : List (S58))).bind fun y149 => (cobwebref06_Meets.l0 kj5 a4 y149 (y149.length : Int) 0 a0_0 a0_1 a1_0 a1_1 a2_0 a2_1 a3_0 a3_1)) else (none)))) else (none)))) else (none)))) else (none))) = some r := by first | (rw [hy125]; with_reducible exact H) | (have H2_ := (Option.bind_some _ _).symm.trans H; rw [hy125]; with_reducible exact H2_) | (have H2_ := (Option.bind_some _ _).symm.trans H; with_reducible exact H2_) | with_reducible exact H | (rw [hy125]; exact H) | exact H
    have Ny125 := A_ hy125
    clear hy125
    replace H := Option.bind_eq_some_iff.mp H
    obtain ⟨t128, A930, H⟩ := H
    replace H : (if y125.length + t128.length < 2199023255552 then ((some (y125 ++ t128 : List (S58))).bind fun y131 => ((cobwebref06_ways.f kj5 a0_0 a1_0 a3_0).bind fun t134 => (if y131.length + t134.length < 2199023255552 then ((some (y131 ++ t134 : List (S58))).bind fun y137 => ((cobwebref06_ways.f kj5 a0_1 a1_1 a2_1).bind fun t140 => (if y137.length + t140.length < 2199023255552 then ((some (y137 ++ t140 : List (S58))).bind fun y143 => ((cobwebref06_ways.f kj5 a0_1 a1_1 a3_1).bind fun t146 => (if y143.length + t146.length < 2199023255552 then ((some (y143 ++ t146 : List (S58))).bind fun y149 => (cobwebref06_Meets.l0 kj5 a4 y149 (y149.length : Int) 0 a0_0 a0_1 a1_0 a1_1 a2_0 a2_1 a3_0 a3_1)) else (none)))) else (none)))) else (none)))) else (none)) = some r := H
    have A93 := A_ A930
    clear A930
    by_cases c94 : y125.length + t128.length < 2199023255552
    ·rw [if_pos c94] at H
     have LMc94 := A_ c94
     clear c94
     obtain ⟨y131, hy131⟩ : ∃ y_ : List (S58), y_ = (y125 ++ t128) := ⟨_, rfl⟩
     replace H : ((cobwebref06_ways.f kj5 a0_0 a1_0 a3_0).bind fun t134 => (if y131.length + t134.length < 2199023255552 then ((some (y131 ++ t134 : List (S58))).bind fun y137 => ((cobwebref06_ways.f kj5 a0_1 a1_1 a2_1).bind fun t140 => (if y137.length + t140.length < 2199023255552 then ((some (y137 ++ t140 : List (S58))).bind fun y143 => ((cobwebref06_ways.f kj5 a0_1 a1_1 a3_1).bind fun t146 => (if y143.length + t146.length < 2199023255552 then ((some (y143 ++ t146 : List (S58))).bind fun y149 => (cobwebref06_Meets.l0 kj5 a4 y149 (y149.length : Int) 0 a0_0 a0_1 a1_0 a1_1 a2_0 a2_1 a3_0 a3_1)) else (none)))) else (none)))) else (none))) = some r := by first | (rw [hy131]; with_reducible exact H) | (have H2_ := (Option.bind_some _ _).symm.trans H; rw [hy131]; with_reducible exact H2_) | (have H2_ := (Option.bind_some _ _).symm.trans H; with_reducible exact H2_) | with_reducible exact H | (rw [hy131]; exact H) | exact H
     have Ny131 := A_ hy131
     clear hy131
     replace H := Option.bind_eq_some_iff.mp H
     obtain ⟨t134, A950, H⟩ := H
     replace H : (if y131.length + t134.length < 2199023255552 then ((some (y131 ++ t134 : List (S58))).bind fun y137 => ((cobwebref06_ways.f kj5 a0_1 a1_1 a2_1).bind fun t140 => (if y137.length + t140.length < 2199023255552 then ((some (y137 ++ t140 : List (S58))).bind fun y143 => ((cobwebref06_ways.f kj5 a0_1 a1_1 a3_1).bind fun t146 => (if y143.length + t146.length < 2199023255552 then ((some (y143 ++ t146 : List (S58))).bind fun y149 => (cobwebref06_Meets.l0 kj5 a4 y149 (y149.length : Int) 0 a0_0 a0_1 a1_0 a1_1 a2_0 a2_1 a3_0 a3_1)) else (none)))) else (none)))) else (none)) = some r := H
     have A95 := A_ A950
     clear A950
     by_cases c96 : y131.length + t134.length < 2199023255552
     ·rw [if_pos c96] at H
      have LMc96 := A_ c96
      clear c96
      obtain ⟨y137, hy137⟩ : ∃ y_ : List (S58), y_ = (y131 ++ t134) := ⟨_, rfl⟩
      replace H : ((cobwebref06_ways.f kj5 a0_1 a1_1 a2_1).bind fun t140 => (if y137.length + t140.length < 2199023255552 then ((some (y137 ++ t140 : List (S58))).bind fun y143 => ((cobwebref06_ways.f kj5 a0_1 a1_1 a3_1).bind fun t146 => (if y143.length + t146.length < 2199023255552 then ((some (y143 ++ t146 : List (S58))).bind fun y149 => (cobwebref06_Meets.l0 kj5 a4 y149 (y149.length : Int) 0 a0_0 a0_1 a1_0 a1_1 a2_0 a2_1 a3_0 a3_1)) else (none)))) else (none))) = some r := by first | (rw [hy137]; with_reducible exact H) | (have H2_ := (Option.bind_some _ _).symm.trans H; rw [hy137]; with_reducible exact H2_) | (have H2_ := (Option.bind_some _ _).symm.trans H; with_reducible exact H2_) | with_reducible exact H | (rw [hy137]; exact H) | exact H
      have Ny137 := A_ hy137
      clear hy137
      replace H := Option.bind_eq_some_iff.mp H
      obtain ⟨t140, A970, H⟩ := H
      replace H : (if y137.length + t140.length < 2199023255552 then ((some (y137 ++ t140 : List (S58))).bind fun y143 => ((cobwebref06_ways.f kj5 a0_1 a1_1 a3_1).bind fun t146 => (if y143.length + t146.length < 2199023255552 then ((some (y143 ++ t146 : List (S58))).bind fun y149 => (cobwebref06_Meets.l0 kj5 a4 y149 (y149.length : Int) 0 a0_0 a0_1 a1_0 a1_1 a2_0 a2_1 a3_0 a3_1)) else (none)))) else (none)) = some r := H
      have A97 := A_ A970
      clear A970
      by_cases c98 : y137.length + t140.length < 2199023255552
      ·rw [if_pos c98] at H
       have LMc98 := A_ c98
       clear c98
       obtain ⟨y143, hy143⟩ : ∃ y_ : List (S58), y_ = (y137 ++ t140) := ⟨_, rfl⟩
       replace H : ((cobwebref06_ways.f kj5 a0_1 a1_1 a3_1).bind fun t146 => (if y143.length + t146.length < 2199023255552 then ((some (y143 ++ t146 : List (S58))).bind fun y149 => (cobwebref06_Meets.l0 kj5 a4 y149 (y149.length : Int) 0 a0_0 a0_1 a1_0 a1_1 a2_0 a2_1 a3_0 a3_1)) else (none))) = some r := by first | (rw [hy143]; with_reducible exact H) | (have H2_ := (Option.bind_some _ _).symm.trans H; rw [hy143]; with_reducible exact H2_) | (have H2_ := (Option.bind_some _ _).symm.trans H; with_reducible exact H2_) | with_reducible exact H | (rw [hy143]; exact H) | exact H
       have Ny143 := A_ hy143
       clear hy143
       replace H := Option.bind_eq_some_iff.mp H
       obtain ⟨t146, A990, H⟩ := H
       replace H : (if y143.length + t146.length < 2199023255552 then ((some (y143 ++ t146 : List (S58))).bind fun y149 => (cobwebref06_Meets.l0 kj5 a4 y149 (y149.length : Int) 0 a0_0 a0_1 a1_0 a1_1 a2_0 a2_1 a3_0 a3_1)) else (none)) = some r := H
       have A99 := A_ A990
       clear A990
       by_cases c100 : y143.length + t146.length < 2199023255552
       ·rw [if_pos c100] at H
        have LMc100 := A_ c100
        clear c100
        obtain ⟨y149, hy149⟩ : ∃ y_ : List (S58), y_ = (y143 ++ t146) := ⟨_, rfl⟩
        replace H : (cobwebref06_Meets.l0 kj5 a4 y149 (y149.length : Int) 0 a0_0 a0_1 a1_0 a1_1 a2_0 a2_1 a3_0 a3_1) = some r := by first | (rw [hy149]; with_reducible exact H) | (have H2_ := (Option.bind_some _ _).symm.trans H; rw [hy149]; with_reducible exact H2_) | (have H2_ := (Option.bind_some _ _).symm.trans H; with_reducible exact H2_) | with_reducible exact H | (rw [hy149]; exact H) | exact H
        have Ny149 := A_ hy149
        clear hy149
        have H' := A_ H
        clear H
        try go_wp2_with (first | ((with_reducible refine gate_callee (f := 28) rfl ?_); refine goesLq_ 43 rfl Try.func28 #[.int .i64 0] ?_; (with_reducible refine (cobwebref06_num.calls kj5 0 t109 t110 _ A89.out).mono ?_); rintro e w101 ⟨v111, rfl, ho0, hb⟩; refine ⟨_, rfl, ?_⟩; have HO112 := A_ (Kd.R_lower ho0 (below_size (l_ HB))); replace BK101 := bb_ BK101 hb; replace BK102 := bb_ BK102 hb; replace BK103 := bb_ BK103 hb; replace BK104 := bb_ BK104 hb; replace HB := st_ HB hb; (try clear hb); (try clear hb2); (try clear hk); (try clear hi); (try clear ho0)) | ((with_reducible refine gate_callee (f := 28) rfl ?_); refine goesLq_ 44 rfl Try.func28 #[.int .i64 1] ?_; (with_reducible refine (cobwebref06_num.calls kj5 1 t113 t114 _ A90.out).mono ?_); rintro e w102 ⟨v115, rfl, ho0, hb⟩; refine ⟨_, rfl, ?_⟩; have HO116 := A_ (Kd.R_lower (Kd.R_new' ho0 (Kd.R_lt (r_ HO112.out))) (below_size (l_ HB))); replace HO112 := A_ (Kd.R_elder' (r_ HO112.out) (Kd.R_base ho0) hb); replace BK101 := bb_ BK101 hb; replace BK102 := bb_ BK102 hb; replace BK103 := bb_ BK103 hb; replace BK104 := bb_ BK104 hb; replace HB := st_ HB hb; (try clear hb); (try clear hb2); (try clear hk); (try clear hi); (try clear ho0); obtain ⟨Ao103, co103, eo103⟩ := Kd.R_slice HO116.out; subst eo103; obtain ⟨Ao104, co104, eo104⟩ := Kd.R_slice HO112.out; subst eo104) | ((with_reducible refine gate_callee (f := 28) rfl ?_); refine goesLq_ 46 rfl Try.func28 #[.int .i64 1] ?_; (with_reducible refine (cobwebref06_num.calls kj5 1 t117 t118 _ A91.out).mono ?_); rintro e w105 ⟨v119, rfl, ho0, hb⟩; refine ⟨_, rfl, ?_⟩; have HO120 := A_ (Kd.R_lower (Kd.R_new' (Kd.R_new' ho0 (Kd.R_lt (r_ HO112.out))) (Kd.R_lt (r_ HO116.out))) (below_size (l_ HB))); replace HO112 := A_ (Kd.R_elder' (r_ HO112.out) (Kd.R_base ho0) hb); replace HO116 := A_ (Kd.R_elder' (r_ HO116.out) (Kd.R_base ho0) hb); replace BK101 := bb_ BK101 hb; replace BK102 := bb_ BK102 hb; replace BK103 := bb_ BK103 hb; replace BK104 := bb_ BK104 hb; replace HB := st_ HB hb; (try clear hb); (try clear hb2); (try clear hk); (try clear hi); (try clear ho0)) | ((with_reducible refine gate_callee (f := 28) rfl ?_); refine goesLq_ 47 rfl Try.func28 #[.int .i64 1] ?_; (with_reducible refine (cobwebref06_num.calls kj5 1 t121 t122 _ A92.out).mono ?_); rintro e w106 ⟨v123, rfl, ho0, hb⟩; refine ⟨_, rfl, ?_⟩; have HO124 := A_ (Kd.R_lower (Kd.R_new' (Kd.R_new' (Kd.R_new' ho0 (Kd.R_lt (r_ HO112.out))) (Kd.R_lt (r_ HO116.out))) (Kd.R_lt (r_ HO120.out))) (below_size (l_ HB))); replace HO112 := A_ (Kd.R_elder' (r_ HO112.out) (Kd.R_base ho0) hb); replace HO116 := A_ (Kd.R_elder' (r_ HO116.out) (Kd.R_base ho0) hb); replace HO120 := A_ (Kd.R_elder' (r_ HO120.out) (Kd.R_base ho0) hb); replace BK101 := bb_ BK101 hb; replace BK102 := bb_ BK102 hb; replace BK103 := bb_ BK103 hb; replace BK104 := bb_ BK104 hb; replace HB := st_ HB hb; (try clear hb); (try clear hb2); (try clear hk); (try clear hi); (try clear ho0); obtain ⟨Ao107, co107, eo107⟩ := Kd.R_slice HO124.out; subst eo107; obtain ⟨Ao108, co108, eo108⟩ := Kd.R_slice HO120.out; subst eo108) | ((with_reducible refine gate_dst (N := 49) rfl ?_); refine Kd.N_lit k58 _ 58 ?hg (N' := 49) ?hd (xs := ([(⟨(⟨t109, t110⟩ : S55), (⟨t113, t114⟩ : S55)⟩ : S58), (⟨(⟨t117, t118⟩ : S55), (⟨t121, t122⟩ : S55)⟩ : S58)] : List (S58))) (inner := [.bool t109, .slice Ao104 t110.length co104, .bool t113, .slice Ao103 t114.length co103, .bool t117, .slice Ao108 t118.length co108, .bool t121, .slice Ao107 t122.length co107]) (ok := (fun k_ => k_ ≠ gb101 ∧ k_ ≠ gb102 ∧ k_ ≠ gb103 ∧ k_ ≠ gb104)) (okp := (fun k_ => k_ ≠ gb101 ∧ k_ ≠ gb102 ∧ k_ ≠ gb103 ∧ k_ ≠ gb104)) ?hr ?hp (fun _ hk => hk) ((show ∀ k_, w106.heap.size ≤ k_ → (fun k_ => k_ ≠ gb101 ∧ k_ ≠ gb102 ∧ k_ ≠ gb103 ∧ k_ ≠ gb104) k_ from fun k_ hk => ⟨Kd.freshB (b_ BK101) k_ hk, Kd.freshB (b_ BK102) k_ hk, Kd.freshB (b_ BK103) k_ hk, Kd.freshB (b_ BK104) k_ hk⟩) _ (Nat.le_refl _)) (Below.refl _ _) (Nat.le_refl _) (by simp) ?_; (case hd => rfl); (case hg => rfl); (case hr => first | (go_simp; done) | (go_simp; rfl)); (case hp => exact (Reps.c4 (show Kd.FK k58 _ _ (⟨(⟨t109, t110⟩ : S55), (⟨t113, t114⟩ : S55)⟩ : S58) [.bool t109, .slice Ao104 t110.length co104, .bool t113, .slice Ao103 t114.length co103] from (k58_mkF _ _ (⟨(⟨t109, t110⟩ : S55), (⟨t113, t114⟩ : S55)⟩ : S58) (Kd.R_reads' (Kd.R_mono (ok' := (fun k_ => k_ ≠ gb101 ∧ k_ ≠ gb102 ∧ k_ ≠ gb103 ∧ k_ ≠ gb104)) (Kd.R_types (Kd.R_types (Kd.R_types (Kd.R_types (HO112.out) BK101.out (by decide)) BK102.out (by decide)) BK103.out (by decide)) BK104.out (by decide)) (fun k_ hk => ⟨hk.1.1.1.2, ⟨hk.1.1.2, ⟨hk.1.2, hk.2⟩⟩⟩))).2.1 (Kd.R_F (Kd.R_mono (ok' := (fun k_ => k_ ≠ gb101 ∧ k_ ≠ gb102 ∧ k_ ≠ gb103 ∧ k_ ≠ gb104)) (Kd.R_types (Kd.R_types (Kd.R_types (Kd.R_types (HO112.out) BK101.out (by decide)) BK102.out (by decide)) BK103.out (by decide)) BK104.out (by decide)) (fun k_ hk => ⟨hk.1.1.1.2, ⟨hk.1.1.2, ⟨hk.1.2, hk.2⟩⟩⟩))) (Kd.R_reads' (Kd.R_mono (ok' := (fun k_ => k_ ≠ gb101 ∧ k_ ≠ gb102 ∧ k_ ≠ gb103 ∧ k_ ≠ gb104)) (Kd.R_types (Kd.R_types (Kd.R_types (Kd.R_types (HO116.out) BK101.out (by decide)) BK102.out (by decide)) BK103.out (by decide)) BK104.out (by decide)) (fun k_ hk => ⟨hk.1.1.1.2, ⟨hk.1.1.2, ⟨hk.1.2, hk.2⟩⟩⟩))).2.1 (Kd.R_F (Kd.R_mono (ok' := (fun k_ => k_ ≠ gb101 ∧ k_ ≠ gb102 ∧ k_ ≠ gb103 ∧ k_ ≠ gb104)) (Kd.R_types (Kd.R_types (Kd.R_types (Kd.R_types (HO116.out) BK101.out (by decide)) BK102.out (by decide)) BK103.out (by decide)) BK104.out (by decide)) (fun k_ hk => ⟨hk.1.1.1.2, ⟨hk.1.1.2, ⟨hk.1.2, hk.2⟩⟩⟩))))) (Reps.c4 (show Kd.FK k58 _ _ (⟨(⟨t117, t118⟩ : S55), (⟨t121, t122⟩ : S55)⟩ : S58) [.bool t117, .slice Ao108 t118.length co108, .bool t121, .slice Ao107 t122.length co107] from (k58_mkF _ _ (⟨(⟨t117, t118⟩ : S55), (⟨t121, t122⟩ : S55)⟩ : S58) (Kd.R_reads' (Kd.R_mono (ok' := (fun k_ => k_ ≠ gb101 ∧ k_ ≠ gb102 ∧ k_ ≠ gb103 ∧ k_ ≠ gb104)) (Kd.R_types (Kd.R_types (Kd.R_types (Kd.R_types (HO120.out) BK101.out (by decide)) BK102.out (by decide)) BK103.out (by decide)) BK104.out (by decide)) (fun k_ hk => ⟨hk.1.1.1.2, ⟨hk.1.1.2, ⟨hk.1.2, hk.2⟩⟩⟩))).2.1 (Kd.R_F (Kd.R_mono (ok' := (fun k_ => k_ ≠ gb101 ∧ k_ ≠ gb102 ∧ k_ ≠ gb103 ∧ k_ ≠ gb104)) (Kd.R_types (Kd.R_types (Kd.R_types (Kd.R_types (HO120.out) BK101.out (by decide)) BK102.out (by decide)) BK103.out (by decide)) BK104.out (by decide)) (fun k_ hk => ⟨hk.1.1.1.2, ⟨hk.1.1.2, ⟨hk.1.2, hk.2⟩⟩⟩))) (Kd.R_reads' (Kd.R_mono (ok' := (fun k_ => k_ ≠ gb101 ∧ k_ ≠ gb102 ∧ k_ ≠ gb103 ∧ k_ ≠ gb104)) (Kd.R_types (Kd.R_types (Kd.R_types (Kd.R_types (HO124.out) BK101.out (by decide)) BK102.out (by decide)) BK103.out (by decide)) BK104.out (by decide)) (fun k_ hk => ⟨hk.1.1.1.2, ⟨hk.1.1.2, ⟨hk.1.2, hk.2⟩⟩⟩))).2.1 (Kd.R_F (Kd.R_mono (ok' := (fun k_ => k_ ≠ gb101 ∧ k_ ≠ gb102 ∧ k_ ≠ gb103 ∧ k_ ≠ gb104)) (Kd.R_types (Kd.R_types (Kd.R_types (Kd.R_types (HO124.out) BK101.out (by decide)) BK102.out (by decide)) BK103.out (by decide)) BK104.out (by decide)) (fun k_ hk => ⟨hk.1.1.1.2, ⟨hk.1.1.2, ⟨hk.1.2, hk.2⟩⟩⟩))))) (Reps.none _ _)))); intro v126 w109 ho110 hb hg_ hnew_; clear hg_ hnew_; (first | rw [← Ny125.out] at ho110 | (simp only [Int.reduceToNat] at ho110; rw [← Ny125.out] at ho110)); have HO127 := A_ (Kd.N_lower ho110 (below_size (l_ HB))); replace BK101 := bb_ BK101 hb; replace BK102 := bb_ BK102 hb; replace BK103 := bb_ BK103 hb; replace BK104 := bb_ BK104 hb; replace HB := st_ HB hb; clear HO112 HO116 HO120 HO124; clear hb ho110))
        replace HO127 := A_ (Kd.N_drew HO127.out)
        replace BK101 := A_ (blk_drew BK101.out)
        replace BK102 := A_ (blk_drew BK102.out)
        replace BK103 := A_ (blk_drew BK103.out)
        replace BK104 := A_ (blk_drew BK104.out)
        replace HB := A_ (below_drew1 HB.out)
        refine start_ (n := 18) (S := fun w' => w'.cell? ⟨gb101, 0, none⟩ = some (.int .i64 a0_0) ∧ w'.cell? ⟨gb101, 1, none⟩ = some (.int .i64 a0_1) ∧ w'.cell? ⟨gb102, 0, none⟩ = some (.int .i64 a1_0) ∧ w'.cell? ⟨gb102, 1, none⟩ = some (.int .i64 a1_1) ∧ w'.cell? ⟨gb103, 0, none⟩ = some (.int .i64 a2_0) ∧ w'.cell? ⟨gb103, 1, none⟩ = some (.int .i64 a2_1) ∧ w'.cell? ⟨gb104, 0, none⟩ = some (.int .i64 a3_0) ∧ w'.cell? ⟨gb104, 1, none⟩ = some (.int .i64 a3_1)) (ds := []) (Array.replicate 18 false) (by kernel_rfl) rfl rfl ⟨(blk_cell BK101.out 0).trans rfl, (blk_cell BK101.out 1).trans rfl, (blk_cell BK102.out 0).trans rfl, (blk_cell BK102.out 1).trans rfl, (blk_cell BK103.out 0).trans rfl, (blk_cell BK103.out 1).trans rfl, (blk_cell BK104.out 0).trans rfl, (blk_cell BK104.out 1).trans rfl⟩ (fun hHeld => ?_); refine with_tabW cobwebref06_Meets.tab4 cobwebref06_Meets.bits4 (fun HT_ HW_ => ?_)
        generalize w109.drew = w111 at HO127 BK101 BK102 BK103 BK104 HB hHeld ⊢
        refine pureq_ 0 50 HT_ ?_
        refine pureq_ 1 51 HT_ ?_
        refine pureq_ 3 53 HT_ ?_
        refine pureq_ 5 55 HT_ ?_
        refine pureq_ 9 59 HT_ ?_
        refine pureq_ 11 61 HT_ ?_
        refine pureq_ 13 63 HT_ ?_
        refine takeq_ 2 52 HT_ HW_ hHeld ?_
        refine takeq_ 4 54 HT_ HW_ hHeld ?_
        refine takeq_ 6 56 HT_ HW_ hHeld ?_
        refine takeq_ 10 60 HT_ HW_ hHeld ?_
        refine takeq_ 12 62 HT_ HW_ hHeld ?_
        refine takeq_ 14 64 HT_ HW_ hHeld ?_
        refine oneq_ 7 (some 57) HT_ (fun K hK => ?_)
        refine goesq_ Try.func29 #[.int .i64 a0_0, .int .i64 a1_0, .int .i64 a2_0] ?_
        with_reducible refine (cobwebref06_ways.calls kj5 a0_0 a1_0 a2_0 t128 _ A93.out).mono ?_
        rintro e w112 ⟨v129, rfl, ho0, hb⟩
        refine ⟨_, rfl, ?_⟩
        have HO130 := A_ (Kd.N_lower (Kd.N_mono (ok' := fun k_ => some k_ ≠ (v126 : Value).ownBlock ∧ k_ ≠ gb101 ∧ k_ ≠ gb102 ∧ k_ ≠ gb103 ∧ k_ ≠ gb104) ho0 (fun k_ hk_ => ⟨(Kd.fresh' (Kd.N_lt (n_ HO127.out)) k_ hk_), (Kd.freshB (b_ BK101) k_ hk_), (Kd.freshB (b_ BK102) k_ hk_), (Kd.freshB (b_ BK103) k_ hk_), (Kd.freshB (b_ BK104) k_ hk_)⟩)) (below_size (l_ HB)))
        replace HO127 := A_ (Kd.N_elder' (n_ HO127.out) (Kd.N_base ho0) hb)
        replace BK101 := bb_ BK101 hb
        replace BK102 := bb_ BK102 hb
        replace BK103 := bb_ BK103 hb
        replace BK104 := bb_ BK104 hb
        replace HB := st_ HB hb
        try clear hb ho0
        obtain ⟨Ao114, co114, eo114⟩ := Kd.N_slice HO130.out
        (first | subst eo114 | (injection eo114 with f1_ f2_ f3_; have f4_ := f1_.symm; have f5_ := f3_.symm; clear f1_ f2_ f3_; subst f4_; subst f5_))
        refine hK.out _ _ ⟨(blk_cell BK101.out 0).trans rfl, (blk_cell BK101.out 1).trans rfl, (blk_cell BK102.out 0).trans rfl, (blk_cell BK102.out 1).trans rfl, (blk_cell BK103.out 0).trans rfl, (blk_cell BK103.out 1).trans rfl, (blk_cell BK104.out 0).trans rfl, (blk_cell BK104.out 1).trans rfl⟩ (fun hHeld => ?_)
        clear hK K
        refine normq_ 57 ?_
        refine oneq_ 8 (some 58) HT_ (fun K hK => ?_)
        refine Kd.N_append_rows_step k58 (w0 := w) w.heap.size (by rfl) (.tmp 50) (.tmp 57) 59 58 (.agg #[(.bool false), (.slice none 0 0), (.bool false), (.slice none 0 0)]) 64 rfl Try.underlying59 info58 rfl (by decide) (by omega) v126 y125 t128 _ _ _ (fun k_ => k_ ≠ gb101 ∧ k_ ≠ gb102 ∧ k_ ≠ gb103 ∧ k_ ≠ gb104) (fun k_ => ((fun k_ => k_ ≠ gb101 ∧ k_ ≠ gb102 ∧ k_ ≠ gb103 ∧ k_ ≠ gb104)) k_ ∧ some k_ ≠ (v126 : Value).ownBlock) rfl rfl ?aO ?aR (fun _ hk => hk) ?aF ?aB ?aS ?aL ?_
        (case aR => exact (by skip; exact Kd.N_F (Kd.N_mono (ok' := (fun k_ => ((fun k_ => k_ ≠ gb101 ∧ k_ ≠ gb102 ∧ k_ ≠ gb103 ∧ k_ ≠ gb104)) k_ ∧ some k_ ≠ (v126 : Value).ownBlock)) (HO130.out) (fun k_ hk => ⟨⟨hk.2.1, ⟨hk.2.2.1, ⟨hk.2.2.2.1, hk.2.2.2.2⟩⟩⟩, hk.1⟩))))
        (case aB => exact (l_ HB))
        (case aF => exact (fun k_ hk => ⟨Kd.freshB (b_ BK101) k_ hk, Kd.freshB (b_ BK102) k_ hk, Kd.freshB (b_ BK103) k_ hk, Kd.freshB (b_ BK104) k_ hk⟩))
        (case aO => exact (Kd.N_mono (n_ HO127.out) (fun _ hk => ⟨hk.1.1, ⟨hk.1.2.1, ⟨hk.1.2.2.1, hk.1.2.2.2⟩⟩⟩)))
        (case aS => exact (below_size (l_ HB)))
        (case aL => have := LMc94.out; omega)
        intro v132 w113 ho hb hg hat
        rw [← Ny131.out] at ho
        replace BK101 := A_ (blk_grown (b_ BK101) hg (Kd.N_ne HO127.out BK101.out (by decide)))
        replace BK102 := A_ (blk_grown (b_ BK102) hg (Kd.N_ne HO127.out BK102.out (by decide)))
        replace BK103 := A_ (blk_grown (b_ BK103) hg (Kd.N_ne HO127.out BK103.out (by decide)))
        replace BK104 := A_ (blk_grown (b_ BK104) hg (Kd.N_ne HO127.out BK104.out (by decide)))
        replace HO130 := A_ (Kd.N_afterv (ok := (fun k_ => k_ ≠ gb101 ∧ k_ ≠ gb102 ∧ k_ ≠ gb103 ∧ k_ ≠ gb104)) (Kd.N_mono (n_ HO130.out) (fun _ hk => ⟨⟨hk.2.1, ⟨hk.2.2.1, ⟨hk.2.2.2.1, hk.2.2.2.2⟩⟩⟩, hk.1⟩)) hg hat)
        replace HB := A_ (hb)
        have HO133 := A_ (ho)
        clear HO127 ho hb hg hat
        refine hK.out _ _ ⟨(blk_cell BK101.out 0).trans rfl, (blk_cell BK101.out 1).trans rfl, (blk_cell BK102.out 0).trans rfl, (blk_cell BK102.out 1).trans rfl, (blk_cell BK103.out 0).trans rfl, (blk_cell BK103.out 1).trans rfl, (blk_cell BK104.out 0).trans rfl, (blk_cell BK104.out 1).trans rfl⟩ (fun hHeld => ?_)
        clear hK K
        refine normq_ 58 ?_
        refine oneq_ 15 (some 65) HT_ (fun K hK => ?_)
        refine goesq_ Try.func29 #[.int .i64 a0_0, .int .i64 a1_0, .int .i64 a3_0] ?_
        with_reducible refine (cobwebref06_ways.calls kj5 a0_0 a1_0 a3_0 t134 _ A95.out).mono ?_
        rintro e w115 ⟨v135, rfl, ho0, hb⟩
        refine ⟨_, rfl, ?_⟩
        have HO136 := A_ (Kd.N_lower (Kd.N_mono (ok' := fun k_ => some k_ ≠ (.slice Ao114 t128.length co114 : Value).ownBlock ∧ some k_ ≠ (v132 : Value).ownBlock ∧ k_ ≠ gb101 ∧ k_ ≠ gb102 ∧ k_ ≠ gb103 ∧ k_ ≠ gb104) ho0 (fun k_ hk_ => ⟨(Kd.fresh' (Kd.N_lt (n_ HO130.out)) k_ hk_), (Kd.fresh' (Kd.N_lt (n_ HO133.out)) k_ hk_), (Kd.freshB (b_ BK101) k_ hk_), (Kd.freshB (b_ BK102) k_ hk_), (Kd.freshB (b_ BK103) k_ hk_), (Kd.freshB (b_ BK104) k_ hk_)⟩)) (below_size (l_ HB)))
        replace HO130 := A_ (Kd.N_elder' (n_ HO130.out) (Kd.N_base ho0) hb)
        replace HO133 := A_ (Kd.N_elder' (n_ HO133.out) (Kd.N_base ho0) hb)
        replace BK101 := bb_ BK101 hb
        replace BK102 := bb_ BK102 hb
        replace BK103 := bb_ BK103 hb
        replace BK104 := bb_ BK104 hb
        replace HB := st_ HB hb
        try clear hb ho0
        obtain ⟨Ao117, co117, eo117⟩ := Kd.N_slice HO136.out
        (first | subst eo117 | (injection eo117 with f1_ f2_ f3_; have f4_ := f1_.symm; have f5_ := f3_.symm; clear f1_ f2_ f3_; subst f4_; subst f5_))
        refine hK.out _ _ ⟨(blk_cell BK101.out 0).trans rfl, (blk_cell BK101.out 1).trans rfl, (blk_cell BK102.out 0).trans rfl, (blk_cell BK102.out 1).trans rfl, (blk_cell BK103.out 0).trans rfl, (blk_cell BK103.out 1).trans rfl, (blk_cell BK104.out 0).trans rfl, (blk_cell BK104.out 1).trans rfl⟩ (fun hHeld => ?_)
        clear hK K
        refine normq_ 65 ?_
        refine oneq_ 16 (some 66) HT_ (fun K hK => ?_)
        refine Kd.N_append_rows_step k58 (w0 := w) w.heap.size (by rfl) (.tmp 58) (.tmp 65) 59 58 (.agg #[(.bool false), (.slice none 0 0), (.bool false), (.slice none 0 0)]) 64 rfl Try.underlying59 info58 rfl (by decide) (by omega) v132 y131 t134 _ _ _ (fun k_ => k_ ≠ gb101 ∧ k_ ≠ gb102 ∧ k_ ≠ gb103 ∧ k_ ≠ gb104) (fun k_ => ((fun k_ => k_ ≠ gb101 ∧ k_ ≠ gb102 ∧ k_ ≠ gb103 ∧ k_ ≠ gb104)) k_ ∧ some k_ ≠ (v132 : Value).ownBlock) rfl rfl ?aO ?aR (fun _ hk => hk) ?aF ?aB ?aS ?aL ?_
        (case aR => exact (by skip; exact Kd.N_F (Kd.N_mono (ok' := (fun k_ => ((fun k_ => k_ ≠ gb101 ∧ k_ ≠ gb102 ∧ k_ ≠ gb103 ∧ k_ ≠ gb104)) k_ ∧ some k_ ≠ (v132 : Value).ownBlock)) (HO136.out) (fun k_ hk => ⟨⟨hk.2.2.1, ⟨hk.2.2.2.1, ⟨hk.2.2.2.2.1, hk.2.2.2.2.2⟩⟩⟩, hk.2.1⟩))))
        (case aB => exact (l_ HB))
        (case aF => exact (fun k_ hk => ⟨Kd.freshB (b_ BK101) k_ hk, Kd.freshB (b_ BK102) k_ hk, Kd.freshB (b_ BK103) k_ hk, Kd.freshB (b_ BK104) k_ hk⟩))
        (case aO => exact (Kd.N_mono (n_ HO133.out) (fun _ hk => ⟨hk.1.1, ⟨hk.1.2.1, ⟨hk.1.2.2.1, hk.1.2.2.2⟩⟩⟩)))
        (case aS => exact (below_size (l_ HB)))
        (case aL => have := LMc96.out; omega)
        intro v138 w116 ho hb hg hat
        rw [← Ny137.out] at ho
        replace BK101 := A_ (blk_grown (b_ BK101) hg (Kd.N_ne HO133.out BK101.out (by decide)))
        replace BK102 := A_ (blk_grown (b_ BK102) hg (Kd.N_ne HO133.out BK102.out (by decide)))
        replace BK103 := A_ (blk_grown (b_ BK103) hg (Kd.N_ne HO133.out BK103.out (by decide)))
        replace BK104 := A_ (blk_grown (b_ BK104) hg (Kd.N_ne HO133.out BK104.out (by decide)))
        replace HO130 := A_ (Kd.N_afterv (ok := (fun k_ => some k_ ≠ (.slice Ao117 t134.length co117 : Value).ownBlock ∧ k_ ≠ gb101 ∧ k_ ≠ gb102 ∧ k_ ≠ gb103 ∧ k_ ≠ gb104)) (Kd.N_mono (n_ HO130.out) (fun _ hk => ⟨⟨hk.2, ⟨hk.1.1.1, ⟨hk.1.1.2.1, ⟨hk.1.1.2.2.1, hk.1.1.2.2.2⟩⟩⟩⟩, hk.1.2⟩)) hg hat)
        replace HO136 := A_ (Kd.N_afterv (ok := (fun k_ => some k_ ≠ (.slice Ao114 t128.length co114 : Value).ownBlock ∧ k_ ≠ gb101 ∧ k_ ≠ gb102 ∧ k_ ≠ gb103 ∧ k_ ≠ gb104)) (Kd.N_mono (n_ HO136.out) (fun _ hk => ⟨⟨hk.1, ⟨hk.2.2.1, ⟨hk.2.2.2.1, ⟨hk.2.2.2.2.1, hk.2.2.2.2.2⟩⟩⟩⟩, hk.2.1⟩)) hg hat)
        replace HB := A_ (hb)
        have HO139 := A_ (ho)
        clear HO133 ho hb hg hat
        refine hK.out _ _ ⟨(blk_cell BK101.out 0).trans rfl, (blk_cell BK101.out 1).trans rfl, (blk_cell BK102.out 0).trans rfl, (blk_cell BK102.out 1).trans rfl, (blk_cell BK103.out 0).trans rfl, (blk_cell BK103.out 1).trans rfl, (blk_cell BK104.out 0).trans rfl, (blk_cell BK104.out 1).trans rfl⟩ (fun hHeld => ?_)
        clear hK K
        refine normq_ 66 ?_
        refine pureq_ 17 11 HT_ ?_
        refine done_ (done_of HT_.out (by kernel_rfl)) ?_
        try go_wp2
        replace HO130 := A_ (Kd.N_drew HO130.out)
        replace HO136 := A_ (Kd.N_drew HO136.out)
        replace HO139 := A_ (Kd.N_drew HO139.out)
        replace BK101 := A_ (blk_drew BK101.out)
        replace BK102 := A_ (blk_drew BK102.out)
        replace BK103 := A_ (blk_drew BK103.out)
        replace BK104 := A_ (blk_drew BK104.out)
        replace HB := A_ (below_drew1 HB.out)
        refine start_ (n := 18) (S := fun w' => w'.cell? ⟨gb101, 0, none⟩ = some (.int .i64 a0_0) ∧ w'.cell? ⟨gb101, 1, none⟩ = some (.int .i64 a0_1) ∧ w'.cell? ⟨gb102, 0, none⟩ = some (.int .i64 a1_0) ∧ w'.cell? ⟨gb102, 1, none⟩ = some (.int .i64 a1_1) ∧ w'.cell? ⟨gb103, 0, none⟩ = some (.int .i64 a2_0) ∧ w'.cell? ⟨gb103, 1, none⟩ = some (.int .i64 a2_1) ∧ w'.cell? ⟨gb104, 0, none⟩ = some (.int .i64 a3_0) ∧ w'.cell? ⟨gb104, 1, none⟩ = some (.int .i64 a3_1)) (ds := []) (Array.replicate 18 false) (by kernel_rfl) rfl rfl ⟨(blk_cell BK101.out 0).trans rfl, (blk_cell BK101.out 1).trans rfl, (blk_cell BK102.out 0).trans rfl, (blk_cell BK102.out 1).trans rfl, (blk_cell BK103.out 0).trans rfl, (blk_cell BK103.out 1).trans rfl, (blk_cell BK104.out 0).trans rfl, (blk_cell BK104.out 1).trans rfl⟩ (fun hHeld => ?_); refine with_tabW cobwebref06_Meets.tab5 cobwebref06_Meets.bits5 (fun HT_ HW_ => ?_)
        generalize w116.drew = w118 at HO130 HO136 HO139 BK101 BK102 BK103 BK104 HB hHeld ⊢
        refine pureq_ 0 67 HT_ ?_
        refine pureq_ 1 68 HT_ ?_
        refine pureq_ 3 70 HT_ ?_
        refine pureq_ 5 72 HT_ ?_
        refine pureq_ 9 76 HT_ ?_
        refine pureq_ 11 78 HT_ ?_
        refine pureq_ 13 80 HT_ ?_
        refine takeq_ 2 69 HT_ HW_ hHeld ?_
        refine takeq_ 4 71 HT_ HW_ hHeld ?_
        refine takeq_ 6 73 HT_ HW_ hHeld ?_
        refine takeq_ 10 77 HT_ HW_ hHeld ?_
        refine takeq_ 12 79 HT_ HW_ hHeld ?_
        refine takeq_ 14 81 HT_ HW_ hHeld ?_
        refine oneq_ 7 (some 74) HT_ (fun K hK => ?_)
        refine goesq_ Try.func29 #[.int .i64 a0_1, .int .i64 a1_1, .int .i64 a2_1] ?_
        with_reducible refine (cobwebref06_ways.calls kj5 a0_1 a1_1 a2_1 t140 _ A97.out).mono ?_
        rintro e w119 ⟨v141, rfl, ho0, hb⟩
        refine ⟨_, rfl, ?_⟩
        have HO142 := A_ (Kd.N_lower (Kd.N_mono (ok' := fun k_ => some k_ ≠ (.slice Ao114 t128.length co114 : Value).ownBlock ∧ some k_ ≠ (.slice Ao117 t134.length co117 : Value).ownBlock ∧ some k_ ≠ (v138 : Value).ownBlock ∧ k_ ≠ gb101 ∧ k_ ≠ gb102 ∧ k_ ≠ gb103 ∧ k_ ≠ gb104) ho0 (fun k_ hk_ => ⟨(Kd.fresh' (Kd.N_lt (n_ HO130.out)) k_ hk_), (Kd.fresh' (Kd.N_lt (n_ HO136.out)) k_ hk_), (Kd.fresh' (Kd.N_lt (n_ HO139.out)) k_ hk_), (Kd.freshB (b_ BK101) k_ hk_), (Kd.freshB (b_ BK102) k_ hk_), (Kd.freshB (b_ BK103) k_ hk_), (Kd.freshB (b_ BK104) k_ hk_)⟩)) (below_size (l_ HB)))
        replace HO130 := A_ (Kd.N_elder' (n_ HO130.out) (Kd.N_base ho0) hb)
        replace HO136 := A_ (Kd.N_elder' (n_ HO136.out) (Kd.N_base ho0) hb)
        replace HO139 := A_ (Kd.N_elder' (n_ HO139.out) (Kd.N_base ho0) hb)
        replace BK101 := bb_ BK101 hb
        replace BK102 := bb_ BK102 hb
        replace BK103 := bb_ BK103 hb
        replace BK104 := bb_ BK104 hb
        replace HB := st_ HB hb
        try clear hb ho0
        obtain ⟨Ao121, co121, eo121⟩ := Kd.N_slice HO142.out
        (first | subst eo121 | (injection eo121 with f1_ f2_ f3_; have f4_ := f1_.symm; have f5_ := f3_.symm; clear f1_ f2_ f3_; subst f4_; subst f5_))
        refine hK.out _ _ ⟨(blk_cell BK101.out 0).trans rfl, (blk_cell BK101.out 1).trans rfl, (blk_cell BK102.out 0).trans rfl, (blk_cell BK102.out 1).trans rfl, (blk_cell BK103.out 0).trans rfl, (blk_cell BK103.out 1).trans rfl, (blk_cell BK104.out 0).trans rfl, (blk_cell BK104.out 1).trans rfl⟩ (fun hHeld => ?_)
        clear hK K
        refine normq_ 74 ?_
        refine oneq_ 8 (some 75) HT_ (fun K hK => ?_)
        refine Kd.N_append_rows_step k58 (w0 := w) w.heap.size (by rfl) (.tmp 67) (.tmp 74) 59 58 (.agg #[(.bool false), (.slice none 0 0), (.bool false), (.slice none 0 0)]) 64 rfl Try.underlying59 info58 rfl (by decide) (by omega) v138 y137 t140 _ _ _ (fun k_ => k_ ≠ gb101 ∧ k_ ≠ gb102 ∧ k_ ≠ gb103 ∧ k_ ≠ gb104) (fun k_ => ((fun k_ => k_ ≠ gb101 ∧ k_ ≠ gb102 ∧ k_ ≠ gb103 ∧ k_ ≠ gb104)) k_ ∧ some k_ ≠ (v138 : Value).ownBlock) rfl rfl ?aO ?aR (fun _ hk => hk) ?aF ?aB ?aS ?aL ?_
        (case aR => exact (by skip; exact Kd.N_F (Kd.N_mono (ok' := (fun k_ => ((fun k_ => k_ ≠ gb101 ∧ k_ ≠ gb102 ∧ k_ ≠ gb103 ∧ k_ ≠ gb104)) k_ ∧ some k_ ≠ (v138 : Value).ownBlock)) (HO142.out) (fun k_ hk => ⟨⟨hk.2.2.2.1, ⟨hk.2.2.2.2.1, ⟨hk.2.2.2.2.2.1, hk.2.2.2.2.2.2⟩⟩⟩, hk.2.2.1⟩))))
        (case aB => exact (l_ HB))
        (case aF => exact (fun k_ hk => ⟨Kd.freshB (b_ BK101) k_ hk, Kd.freshB (b_ BK102) k_ hk, Kd.freshB (b_ BK103) k_ hk, Kd.freshB (b_ BK104) k_ hk⟩))
        (case aO => exact (Kd.N_mono (n_ HO139.out) (fun _ hk => ⟨hk.1.1, ⟨hk.1.2.1, ⟨hk.1.2.2.1, hk.1.2.2.2⟩⟩⟩)))
        (case aS => exact (below_size (l_ HB)))
        (case aL => have := LMc98.out; omega)
        intro v144 w120 ho hb hg hat
        rw [← Ny143.out] at ho
        replace BK101 := A_ (blk_grown (b_ BK101) hg (Kd.N_ne HO139.out BK101.out (by decide)))
        replace BK102 := A_ (blk_grown (b_ BK102) hg (Kd.N_ne HO139.out BK102.out (by decide)))
        replace BK103 := A_ (blk_grown (b_ BK103) hg (Kd.N_ne HO139.out BK103.out (by decide)))
        replace BK104 := A_ (blk_grown (b_ BK104) hg (Kd.N_ne HO139.out BK104.out (by decide)))
        replace HO130 := A_ (Kd.N_afterv (ok := (fun k_ => some k_ ≠ (.slice Ao117 t134.length co117 : Value).ownBlock ∧ some k_ ≠ (.slice Ao121 t140.length co121 : Value).ownBlock ∧ k_ ≠ gb101 ∧ k_ ≠ gb102 ∧ k_ ≠ gb103 ∧ k_ ≠ gb104)) (Kd.N_mono (n_ HO130.out) (fun _ hk => ⟨⟨hk.1.1.1, ⟨hk.2, ⟨hk.1.1.2.1, ⟨hk.1.1.2.2.1, ⟨hk.1.1.2.2.2.1, hk.1.1.2.2.2.2⟩⟩⟩⟩⟩, hk.1.2⟩)) hg hat)
        replace HO136 := A_ (Kd.N_afterv (ok := (fun k_ => some k_ ≠ (.slice Ao114 t128.length co114 : Value).ownBlock ∧ some k_ ≠ (.slice Ao121 t140.length co121 : Value).ownBlock ∧ k_ ≠ gb101 ∧ k_ ≠ gb102 ∧ k_ ≠ gb103 ∧ k_ ≠ gb104)) (Kd.N_mono (n_ HO136.out) (fun _ hk => ⟨⟨hk.1.1.1, ⟨hk.2, ⟨hk.1.1.2.1, ⟨hk.1.1.2.2.1, ⟨hk.1.1.2.2.2.1, hk.1.1.2.2.2.2⟩⟩⟩⟩⟩, hk.1.2⟩)) hg hat)
        replace HO142 := A_ (Kd.N_afterv (ok := (fun k_ => some k_ ≠ (.slice Ao114 t128.length co114 : Value).ownBlock ∧ some k_ ≠ (.slice Ao117 t134.length co117 : Value).ownBlock ∧ k_ ≠ gb101 ∧ k_ ≠ gb102 ∧ k_ ≠ gb103 ∧ k_ ≠ gb104)) (Kd.N_mono (n_ HO142.out) (fun _ hk => ⟨⟨hk.1, ⟨hk.2.1, ⟨hk.2.2.2.1, ⟨hk.2.2.2.2.1, ⟨hk.2.2.2.2.2.1, hk.2.2.2.2.2.2⟩⟩⟩⟩⟩, hk.2.2.1⟩)) hg hat)
        replace HB := A_ (hb)
        have HO145 := A_ (ho)
        clear HO139 ho hb hg hat
        refine hK.out _ _ ⟨(blk_cell BK101.out 0).trans rfl, (blk_cell BK101.out 1).trans rfl, (blk_cell BK102.out 0).trans rfl, (blk_cell BK102.out 1).trans rfl, (blk_cell BK103.out 0).trans rfl, (blk_cell BK103.out 1).trans rfl, (blk_cell BK104.out 0).trans rfl, (blk_cell BK104.out 1).trans rfl⟩ (fun hHeld => ?_)
        clear hK K
        refine normq_ 75 ?_
        refine oneq_ 15 (some 82) HT_ (fun K hK => ?_)
        refine goesq_ Try.func29 #[.int .i64 a0_1, .int .i64 a1_1, .int .i64 a3_1] ?_
        with_reducible refine (cobwebref06_ways.calls kj5 a0_1 a1_1 a3_1 t146 _ A99.out).mono ?_
        rintro e w122 ⟨v147, rfl, ho0, hb⟩
        refine ⟨_, rfl, ?_⟩
        have HO148 := A_ (Kd.N_lower (Kd.N_mono (ok' := fun k_ => some k_ ≠ (.slice Ao114 t128.length co114 : Value).ownBlock ∧ some k_ ≠ (.slice Ao117 t134.length co117 : Value).ownBlock ∧ some k_ ≠ (.slice Ao121 t140.length co121 : Value).ownBlock ∧ some k_ ≠ (v144 : Value).ownBlock ∧ k_ ≠ gb101 ∧ k_ ≠ gb102 ∧ k_ ≠ gb103 ∧ k_ ≠ gb104) ho0 (fun k_ hk_ => ⟨(Kd.fresh' (Kd.N_lt (n_ HO130.out)) k_ hk_), (Kd.fresh' (Kd.N_lt (n_ HO136.out)) k_ hk_), (Kd.fresh' (Kd.N_lt (n_ HO142.out)) k_ hk_), (Kd.fresh' (Kd.N_lt (n_ HO145.out)) k_ hk_), (Kd.freshB (b_ BK101) k_ hk_), (Kd.freshB (b_ BK102) k_ hk_), (Kd.freshB (b_ BK103) k_ hk_), (Kd.freshB (b_ BK104) k_ hk_)⟩)) (below_size (l_ HB)))
        replace HO130 := A_ (Kd.N_elder' (n_ HO130.out) (Kd.N_base ho0) hb)
        replace HO136 := A_ (Kd.N_elder' (n_ HO136.out) (Kd.N_base ho0) hb)
        replace HO142 := A_ (Kd.N_elder' (n_ HO142.out) (Kd.N_base ho0) hb)
        replace HO145 := A_ (Kd.N_elder' (n_ HO145.out) (Kd.N_base ho0) hb)
        replace BK101 := bb_ BK101 hb
        replace BK102 := bb_ BK102 hb
        replace BK103 := bb_ BK103 hb
        replace BK104 := bb_ BK104 hb
        replace HB := st_ HB hb
        try clear hb ho0
        obtain ⟨Ao124, co124, eo124⟩ := Kd.N_slice HO148.out
        (first | subst eo124 | (injection eo124 with f1_ f2_ f3_; have f4_ := f1_.symm; have f5_ := f3_.symm; clear f1_ f2_ f3_; subst f4_; subst f5_))
        refine hK.out _ _ ⟨(blk_cell BK101.out 0).trans rfl, (blk_cell BK101.out 1).trans rfl, (blk_cell BK102.out 0).trans rfl, (blk_cell BK102.out 1).trans rfl, (blk_cell BK103.out 0).trans rfl, (blk_cell BK103.out 1).trans rfl, (blk_cell BK104.out 0).trans rfl, (blk_cell BK104.out 1).trans rfl⟩ (fun hHeld => ?_)
        clear hK K
        refine normq_ 82 ?_
        refine oneq_ 16 (some 83) HT_ (fun K hK => ?_)
        refine Kd.N_append_rows_step k58 (w0 := w) w.heap.size (by rfl) (.tmp 75) (.tmp 82) 59 58 (.agg #[(.bool false), (.slice none 0 0), (.bool false), (.slice none 0 0)]) 64 rfl Try.underlying59 info58 rfl (by decide) (by omega) v144 y143 t146 _ _ _ (fun k_ => k_ ≠ gb101 ∧ k_ ≠ gb102 ∧ k_ ≠ gb103 ∧ k_ ≠ gb104) (fun k_ => ((fun k_ => k_ ≠ gb101 ∧ k_ ≠ gb102 ∧ k_ ≠ gb103 ∧ k_ ≠ gb104)) k_ ∧ some k_ ≠ (v144 : Value).ownBlock) rfl rfl ?aO ?aR (fun _ hk => hk) ?aF ?aB ?aS ?aL ?_
        (case aR => exact (by skip; exact Kd.N_F (Kd.N_mono (ok' := (fun k_ => ((fun k_ => k_ ≠ gb101 ∧ k_ ≠ gb102 ∧ k_ ≠ gb103 ∧ k_ ≠ gb104)) k_ ∧ some k_ ≠ (v144 : Value).ownBlock)) (HO148.out) (fun k_ hk => ⟨⟨hk.2.2.2.2.1, ⟨hk.2.2.2.2.2.1, ⟨hk.2.2.2.2.2.2.1, hk.2.2.2.2.2.2.2⟩⟩⟩, hk.2.2.2.1⟩))))
        (case aB => exact (l_ HB))
        (case aF => exact (fun k_ hk => ⟨Kd.freshB (b_ BK101) k_ hk, Kd.freshB (b_ BK102) k_ hk, Kd.freshB (b_ BK103) k_ hk, Kd.freshB (b_ BK104) k_ hk⟩))
        (case aO => exact (Kd.N_mono (n_ HO145.out) (fun _ hk => ⟨hk.1.1, ⟨hk.1.2.1, ⟨hk.1.2.2.1, hk.1.2.2.2⟩⟩⟩)))
        (case aS => exact (below_size (l_ HB)))
        (case aL => have := LMc100.out; omega)
        intro v150 w123 ho hb hg hat
        rw [← Ny149.out] at ho
        replace BK101 := A_ (blk_grown (b_ BK101) hg (Kd.N_ne HO145.out BK101.out (by decide)))
        replace BK102 := A_ (blk_grown (b_ BK102) hg (Kd.N_ne HO145.out BK102.out (by decide)))
        replace BK103 := A_ (blk_grown (b_ BK103) hg (Kd.N_ne HO145.out BK103.out (by decide)))
        replace BK104 := A_ (blk_grown (b_ BK104) hg (Kd.N_ne HO145.out BK104.out (by decide)))
        replace HO130 := A_ (Kd.N_afterv (ok := (fun k_ => some k_ ≠ (.slice Ao117 t134.length co117 : Value).ownBlock ∧ some k_ ≠ (.slice Ao121 t140.length co121 : Value).ownBlock ∧ some k_ ≠ (.slice Ao124 t146.length co124 : Value).ownBlock ∧ k_ ≠ gb101 ∧ k_ ≠ gb102 ∧ k_ ≠ gb103 ∧ k_ ≠ gb104)) (Kd.N_mono (n_ HO130.out) (fun _ hk => ⟨⟨hk.1.1.1, ⟨hk.1.1.2.1, ⟨hk.2, ⟨hk.1.1.2.2.1, ⟨hk.1.1.2.2.2.1, ⟨hk.1.1.2.2.2.2.1, hk.1.1.2.2.2.2.2⟩⟩⟩⟩⟩⟩, hk.1.2⟩)) hg hat)
        replace HO136 := A_ (Kd.N_afterv (ok := (fun k_ => some k_ ≠ (.slice Ao114 t128.length co114 : Value).ownBlock ∧ some k_ ≠ (.slice Ao121 t140.length co121 : Value).ownBlock ∧ some k_ ≠ (.slice Ao124 t146.length co124 : Value).ownBlock ∧ k_ ≠ gb101 ∧ k_ ≠ gb102 ∧ k_ ≠ gb103 ∧ k_ ≠ gb104)) (Kd.N_mono (n_ HO136.out) (fun _ hk => ⟨⟨hk.1.1.1, ⟨hk.1.1.2.1, ⟨hk.2, ⟨hk.1.1.2.2.1, ⟨hk.1.1.2.2.2.1, ⟨hk.1.1.2.2.2.2.1, hk.1.1.2.2.2.2.2⟩⟩⟩⟩⟩⟩, hk.1.2⟩)) hg hat)
        replace HO142 := A_ (Kd.N_afterv (ok := (fun k_ => some k_ ≠ (.slice Ao114 t128.length co114 : Value).ownBlock ∧ some k_ ≠ (.slice Ao117 t134.length co117 : Value).ownBlock ∧ some k_ ≠ (.slice Ao124 t146.length co124 : Value).ownBlock ∧ k_ ≠ gb101 ∧ k_ ≠ gb102 ∧ k_ ≠ gb103 ∧ k_ ≠ gb104)) (Kd.N_mono (n_ HO142.out) (fun _ hk => ⟨⟨hk.1.1.1, ⟨hk.1.1.2.1, ⟨hk.2, ⟨hk.1.1.2.2.1, ⟨hk.1.1.2.2.2.1, ⟨hk.1.1.2.2.2.2.1, hk.1.1.2.2.2.2.2⟩⟩⟩⟩⟩⟩, hk.1.2⟩)) hg hat)
        replace HO148 := A_ (Kd.N_afterv (ok := (fun k_ => some k_ ≠ (.slice Ao114 t128.length co114 : Value).ownBlock ∧ some k_ ≠ (.slice Ao117 t134.length co117 : Value).ownBlock ∧ some k_ ≠ (.slice Ao121 t140.length co121 : Value).ownBlock ∧ k_ ≠ gb101 ∧ k_ ≠ gb102 ∧ k_ ≠ gb103 ∧ k_ ≠ gb104)) (Kd.N_mono (n_ HO148.out) (fun _ hk => ⟨⟨hk.1, ⟨hk.2.1, ⟨hk.2.2.1, ⟨hk.2.2.2.2.1, ⟨hk.2.2.2.2.2.1, ⟨hk.2.2.2.2.2.2.1, hk.2.2.2.2.2.2.2⟩⟩⟩⟩⟩⟩, hk.2.2.2.1⟩)) hg hat)
        replace HB := A_ (hb)
        have HO151 := A_ (ho)
        clear HO145 ho hb hg hat
        refine hK.out _ _ ⟨(blk_cell BK101.out 0).trans rfl, (blk_cell BK101.out 1).trans rfl, (blk_cell BK102.out 0).trans rfl, (blk_cell BK102.out 1).trans rfl, (blk_cell BK103.out 0).trans rfl, (blk_cell BK103.out 1).trans rfl, (blk_cell BK104.out 0).trans rfl, (blk_cell BK104.out 1).trans rfl⟩ (fun hHeld => ?_)
        clear hK K
        refine normq_ 83 ?_
        refine pureq_ 17 11 HT_ ?_
        refine done_ (done_of HT_.out (by kernel_rfl)) ?_
        obtain ⟨Ao125, co125, eo125⟩ := Kd.N_slice HO151.out
        subst eo125
        try go_wp2
        go_loopg [11, 13] kj5 (fun kq v11 v13 w' => ∃ (x11_2 : List (S58)) (x13_2 : Int), v13 = .int .i64 x13_2 ∧ Aside0 (cobwebref06_Meets.l0 kq a4 x11_2 (y149.length : Int) x13_2 a0_0 a0_1 a1_0 a1_1 a2_0 a2_1 a3_0 a3_1 = some r) ∧ Aside0 (kq ≤ kj5) ∧ Aside0 (Kd.N k58 58 w' w.heap.size (fun k_ => k_ ≠ gb101 ∧ k_ ≠ gb102 ∧ k_ ≠ gb103 ∧ k_ ≠ gb104) v11 x11_2) ∧ Aside0 (w'.heap[gb101]? = some (.cells #[.int .i64 a0_0, .int .i64 a0_1] 23 (0, 0))) ∧ Aside0 (w'.heap[gb102]? = some (.cells #[.int .i64 a1_0, .int .i64 a1_1] 23 (0, 0))) ∧ Aside0 (w'.heap[gb103]? = some (.cells #[.int .i64 a2_0, .int .i64 a2_1] 23 (0, 0))) ∧ Aside0 (w'.heap[gb104]? = some (.cells #[.int .i64 a3_0, .int .i64 a3_1] 23 (0, 0))) ∧ Aside0 (Below w.heap.size w w'))
        case atStart => exact ⟨(y149), (0), (by first | rfl | (simp; done) | (simp [*]; done)), H', ⟨Nat.le_refl _⟩, ⟨by (with_reducible repeat (first | apply Kd.N_alloc | apply Kd.N_drewN | apply Kd.N_drew)); exact HO151.out⟩, ⟨b_ BK101⟩, ⟨b_ BK102⟩, ⟨b_ BK103⟩, ⟨b_ BK104⟩, ⟨l_ HB⟩⟩
        case round =>
         clear H'
         try clear c1
         try clear c2
         try clear p2
         try clear c9
         try clear c10
         try clear c29
         try clear c94
         try clear c96
         try clear c98
         try clear c100
         obtain ⟨x11_2, x13_2, rfl, HA, HK2, HO_11, BK101, BK102, BK103, BK104, HB⟩ := hrel
         cases gk with
         | zero => exact absurd HA.out (by simp [cobwebref06_Meets.l0])
         | succ k2 =>
          have H := HA.out
          clear HA
          simp only [cobwebref06_Meets.l0] at H
          by_cases c126 : x13_2 < (y149.length : Int)
          ·rw [if_pos c126] at H
           have c126b0 : decide (x13_2 < (y149.length : Int)) = true := decide_eq_true c126
           clear c126
           have H' := A_ H
           clear H
           go_wp2
           go_loopg [11, 14] k2 (fun kq v11 v14 w' => ∃ (x11_3 : List (S58)) (x14_3 : Int), v14 = .int .i64 x14_3 ∧ Aside0 (cobwebref06_Meets.l1 kq a4 x11_3 (y149.length : Int) x13_2 x14_3 a0_0 a0_1 a1_0 a1_1 a2_0 a2_1 a3_0 a3_1 = some r) ∧ Aside0 (kq ≤ k2) ∧ Aside0 (Kd.N k58 58 w' w.heap.size (fun k_ => k_ ≠ gb101 ∧ k_ ≠ gb102 ∧ k_ ≠ gb103 ∧ k_ ≠ gb104) v11 x11_3) ∧ Aside0 (w'.heap[gb101]? = some (.cells #[.int .i64 a0_0, .int .i64 a0_1] 23 (0, 0))) ∧ Aside0 (w'.heap[gb102]? = some (.cells #[.int .i64 a1_0, .int .i64 a1_1] 23 (0, 0))) ∧ Aside0 (w'.heap[gb103]? = some (.cells #[.int .i64 a2_0, .int .i64 a2_1] 23 (0, 0))) ∧ Aside0 (w'.heap[gb104]? = some (.cells #[.int .i64 a3_0, .int .i64 a3_1] 23 (0, 0))) ∧ Aside0 (Below w.heap.size w w'))
           case atStart => exact ⟨(x11_2), (0), (by first | rfl | (simp; done) | (simp [*]; done)), H', ⟨Nat.le_refl _⟩, ⟨by (with_reducible repeat (first | apply Kd.N_alloc | apply Kd.N_drewN | apply Kd.N_drew)); exact HO_11.out⟩, ⟨b_ BK101⟩, ⟨b_ BK102⟩, ⟨b_ BK103⟩, ⟨b_ BK104⟩, ⟨l_ HB⟩⟩
           case round =>
            clear H'
            try clear c1
            try clear c2
            try clear p2
            try clear c9
            try clear c10
            try clear c12
            try clear c29
            try clear c94
            try clear c96
            try clear c98
            try clear c100
            try clear c126
            try clear c126b0
            try clear p2
            obtain ⟨x11_3, x14_3, rfl, HA, HK3, HO_11, BK101, BK102, BK103, BK104, HB⟩ := hrel
            cases gk with
            | zero => exact absurd HA.out (by simp [cobwebref06_Meets.l1])
            | succ k3 =>
             have H := HA.out
             clear HA
             simp only [cobwebref06_Meets.l1] at H
             by_cases c127 : x14_3 < x13_2
             ·rw [if_pos c127] at H
              have c127b0 : decide (x14_3 < x13_2) = true := decide_eq_true c127
              clear c127
              by_cases c128 : 0 ≤ x13_2
              ·rw [if_pos c128] at H
               have c128b0 : decide (0 ≤ x13_2) = true := decide_eq_true c128
               clear c128
               by_cases c129 : x13_2 < (x11_3.length : Int)
               ·rw [if_pos c129] at H
                have c129b0 : decide (x13_2 < (x11_3.length : Int)) = true := decide_eq_true c129
                clear c129
                by_cases c130 : 0 ≤ x14_3
                ·rw [if_pos c130] at H
                 have c130b0 : decide (0 ≤ x14_3) = true := decide_eq_true c130
                 clear c130
                 by_cases c131 : x14_3 < (x11_3.length : Int)
                 ·rw [if_pos c131] at H
                  have c131b0 : decide (x14_3 < (x11_3.length : Int)) = true := decide_eq_true c131
                  clear c131
                  replace H := Option.bind_eq_some_iff.mp H
                  obtain ⟨⟨t154, t155, t158, t159⟩, A1320, H⟩ := H
                  replace H : ((cobwebref01_Add.f k3 t158 t159 t158 t159).bind fun bt163 => (if x11_3.length < 2199023255552 then (cobwebref06_Meets.l1 k3 a4 (x11_3 ++ [(⟨(⟨t154, t155⟩ : S55), (⟨bt163.1, bt163.2⟩ : S55)⟩ : S58)]) (y149.length : Int) x13_2 (wrap64 (x14_3 + 1)) a0_0 a0_1 a1_0 a1_1 a2_0 a2_1 a3_0 a3_1) else (none))) = some r := H
                  have A132 := A_ A1320
                  clear A1320
                  replace H := Option.bind_eq_some_iff.mp H
                  obtain ⟨⟨t163, t164⟩, A1330, H⟩ := H
                  replace H : (if x11_3.length < 2199023255552 then (cobwebref06_Meets.l1 k3 a4 (x11_3 ++ [(⟨(⟨t154, t155⟩ : S55), (⟨t163, t164⟩ : S55)⟩ : S58)]) (y149.length : Int) x13_2 (wrap64 (x14_3 + 1)) a0_0 a0_1 a1_0 a1_1 a2_0 a2_1 a3_0 a3_1) else (none)) = some r := H
                  have A133 := A_ A1330
                  clear A1330
                  by_cases c134 : x11_3.length < 2199023255552
                  ·rw [if_pos c134] at H
                   have LMc134 := A_ c134
                   clear c134
                   obtain ⟨y167, hy167⟩ : ∃ y_ : List (S58), y_ = (x11_3 ++ [(⟨(⟨t154, t155⟩ : S55), (⟨t163, t164⟩ : S55)⟩ : S58)]) := ⟨_, rfl⟩
                   replace H : (cobwebref06_Meets.l1 k3 a4 y167 (y149.length : Int) x13_2 (wrap64 (x14_3 + 1)) a0_0 a0_1 a1_0 a1_1 a2_0 a2_1 a3_0 a3_1) = some r := by first | (rw [hy167]; with_reducible exact H) | (have H2_ := (Option.bind_some _ _).symm.trans H; rw [hy167]; with_reducible exact H2_) | (have H2_ := (Option.bind_some _ _).symm.trans H; with_reducible exact H2_) | with_reducible exact H | (rw [hy167]; exact H) | exact H
                   have Ny167 := A_ hy167
                   clear hy167
                   have H' := A_ H
                   clear H
                   try go_wp2
                   replace HO_11 := A_ (Kd.N_drew HO_11.out)
                   replace BK101 := A_ (blk_drew BK101.out)
                   replace BK102 := A_ (blk_drew BK102.out)
                   replace BK103 := A_ (blk_drew BK103.out)
                   replace BK104 := A_ (blk_drew BK104.out)
                   replace HB := A_ (below_drew1 HB.out)
                   obtain ⟨Ao136, co136, eo136⟩ := Kd.N_slice HO_11.out
                   (first | subst eo136 | (injection eo136 with f1_ f2_ f3_; have f4_ := f1_.symm; have f5_ := f3_.symm; clear f1_ f2_ f3_; subst f4_; subst f5_))
                   have p152 : 0 ≤ (x13_2 : Int) := of_decide_eq_true (by first | (with_reducible assumption) | assumption)
                   have q152 : x13_2 < (x11_3.length : Int) := of_decide_eq_true (by first | (with_reducible assumption) | assumption)
                   obtain ⟨ad152, A152_1, c152_1, A152_3, c152_3, e152, hx152_0, hx152_1, hx152_2, hx152_3, hl152_1, hi152_1, hl152_3, hi152_3⟩ := at_T58 (Kd.N_reads' HO_11.out).2.2 x13_2 p152 q152
                   cases e152
                   obtain ⟨ce152, hce152, hMe152, hcc152⟩ := Kd.N_get HO_11.out z58 x13_2 p152 (by first | exact q152 | exact of_decide_eq_true (by first | (with_reducible assumption) | assumption) | (have e_ := (Kd.N_reads' HO_11.out).1; omega))
                   obtain ⟨ua152_1, uc152_1, ua152_3, uc152_3, rfl, ul152_1, ge152_1, ul152_3, ge152_3⟩ := k58_openF hMe152
                   have hv152_1 := hcc152 1 _ rfl
                   rw [add_field _ _ 1 (by omega)] at hv152_1
                   replace hv152_1 := Option.some.inj (hv152_1.symm.trans hx152_1)
                   injection hv152_1 with hva_ hvn_ hvc_
                   rw [hva_] at ge152_1
                   rw [hvc_] at ul152_1
                   have HL152_1 := A_ (show Kd.V (Kd.int .i64) 3 _ w.heap.size _ _ ((rd_T58 x11_3 x13_2).f0.f1) from Kd.V_mk ul152_1 ge152_1)
                   clear hva_ hvn_ hvc_ ge152_1 ul152_1
                   have hv152_3 := hcc152 3 _ rfl
                   rw [add_field _ _ 3 (by omega)] at hv152_3
                   replace hv152_3 := Option.some.inj (hv152_3.symm.trans hx152_3)
                   injection hv152_3 with hva_ hvn_ hvc_
                   rw [hva_] at ge152_3
                   rw [hvc_] at ul152_3
                   have HL152_3 := A_ (show Kd.V (Kd.int .i64) 3 _ w.heap.size _ _ ((rd_T58 x11_3 x13_2).f1.f1) from Kd.V_mk ul152_3 ge152_3)
                   clear hva_ hvn_ hvc_ ge152_3 ul152_3 hcc152 hce152
                   have HR152_1 := A_ hi152_1
                   have HC152_1 := A_ hl152_1
                   clear hi152_1 hl152_1
                   have HR152_3 := A_ hi152_3
                   have HC152_3 := A_ hl152_3
                   clear hi152_3 hl152_3
                   replace p152 := eq_true p152
                   replace q152 := eq_true q152
                   have p153 : 0 ≤ (x14_3 : Int) := of_decide_eq_true (by first | (with_reducible assumption) | assumption)
                   have q153 : x14_3 < (x11_3.length : Int) := of_decide_eq_true (by first | (with_reducible assumption) | assumption)
                   obtain ⟨ad153, A153_1, c153_1, A153_3, c153_3, e153, hx153_0, hx153_1, hx153_2, hx153_3, hl153_1, hi153_1, hl153_3, hi153_3⟩ := at_T58 (Kd.N_reads' HO_11.out).2.2 x14_3 p153 q153
                   obtain rfl : ad152 = ad153 := (by injection e153)
                   obtain ⟨ce153, hce153, hMe153, hcc153⟩ := Kd.N_get HO_11.out z58 x14_3 p153 (by first | exact q153 | exact of_decide_eq_true (by first | (with_reducible assumption) | assumption) | (have e_ := (Kd.N_reads' HO_11.out).1; omega))
                   obtain ⟨ua153_1, uc153_1, ua153_3, uc153_3, rfl, ul153_1, ge153_1, ul153_3, ge153_3⟩ := k58_openF hMe153
                   have hv153_1 := hcc153 1 _ rfl
                   rw [add_field _ _ 1 (by omega)] at hv153_1
                   replace hv153_1 := Option.some.inj (hv153_1.symm.trans hx153_1)
                   injection hv153_1 with hva_ hvn_ hvc_
                   rw [hva_] at ge153_1
                   rw [hvc_] at ul153_1
                   have HL153_1 := A_ (show Kd.V (Kd.int .i64) 3 _ w.heap.size _ _ ((rd_T58 x11_3 x14_3).f0.f1) from Kd.V_mk ul153_1 ge153_1)
                   clear hva_ hvn_ hvc_ ge153_1 ul153_1
                   have hv153_3 := hcc153 3 _ rfl
                   rw [add_field _ _ 3 (by omega)] at hv153_3
                   replace hv153_3 := Option.some.inj (hv153_3.symm.trans hx153_3)
                   injection hv153_3 with hva_ hvn_ hvc_
                   rw [hva_] at ge153_3
                   rw [hvc_] at ul153_3
                   have HL153_3 := A_ (show Kd.V (Kd.int .i64) 3 _ w.heap.size _ _ ((rd_T58 x11_3 x14_3).f1.f1) from Kd.V_mk ul153_3 ge153_3)
                   clear hva_ hvn_ hvc_ ge153_3 ul153_3 hcc153 hce153
                   have HR153_1 := A_ hi153_1
                   have HC153_1 := A_ hl153_1
                   clear hi153_1 hl153_1
                   have HR153_3 := A_ hi153_3
                   have HC153_3 := A_ hl153_3
                   clear hi153_3 hl153_3
                   replace p153 := eq_true p153
                   replace q153 := eq_true q153
                   refine start_ (n := 11) (S := fun w' => w'.cell? (ad152.add ((x13_2).toNat * 4)) = some (.bool ((rd_T58 x11_3 x13_2).f0.f0)) ∧ w'.cell? ⟨(ad152.add ((x13_2).toNat * 4)).block, (ad152.add ((x13_2).toNat * 4)).off + 1, none⟩ = some (.slice A152_1 ((rd_T58 x11_3 x13_2).f0.f1).length c152_1) ∧ w'.cell? ⟨(ad152.add ((x13_2).toNat * 4)).block, (ad152.add ((x13_2).toNat * 4)).off + 2, none⟩ = some (.bool ((rd_T58 x11_3 x13_2).f1.f0)) ∧ w'.cell? ⟨(ad152.add ((x13_2).toNat * 4)).block, (ad152.add ((x13_2).toNat * 4)).off + 3, none⟩ = some (.slice A152_3 ((rd_T58 x11_3 x13_2).f1.f1).length c152_3) ∧ w'.cell? (ad152.add ((x14_3).toNat * 4)) = some (.bool ((rd_T58 x11_3 x14_3).f0.f0)) ∧ w'.cell? ⟨(ad152.add ((x14_3).toNat * 4)).block, (ad152.add ((x14_3).toNat * 4)).off + 1, none⟩ = some (.slice A153_1 ((rd_T58 x11_3 x14_3).f0.f1).length c153_1) ∧ w'.cell? ⟨(ad152.add ((x14_3).toNat * 4)).block, (ad152.add ((x14_3).toNat * 4)).off + 2, none⟩ = some (.bool ((rd_T58 x11_3 x14_3).f1.f0)) ∧ w'.cell? ⟨(ad152.add ((x14_3).toNat * 4)).block, (ad152.add ((x14_3).toNat * 4)).off + 3, none⟩ = some (.slice A153_3 ((rd_T58 x11_3 x14_3).f1.f1).length c153_3)) (ds := []) (Array.replicate 11 false) (by kernel_rfl) rfl rfl ⟨hx152_0, hx152_1, hx152_2, hx152_3, hx153_0, hx153_1, hx153_2, hx153_3⟩ (fun hHeld => ?_); refine with_tabW cobwebref06_Meets.tab13 cobwebref06_Meets.bits13 (fun HT_ HW_ => ?_)
                   generalize wr.drew = w135 at HO_11 BK101 BK102 BK103 BK104 HB HL152_1 HL152_3 HL153_1 HL153_3 HR152_1 HR152_3 HR153_1 HR153_3 hx152_0 hx152_1 hx152_2 hx152_3 hx153_0 hx153_1 hx153_2 hx153_3 hHeld ⊢
                   refine pureq_ 0 96 HT_ ?_
                   refine pureq_ 1 97 HT_ ?_
                   refine pureq_ 2 98 HT_ ?_
                   refine pureq_ 4 100 HT_ ?_
                   refine pureq_ 5 101 HT_ ?_
                   refine pureq_ 6 102 HT_ ?_
                   refine takeq_ 3 99 HT_ HW_ hHeld ?_
                   refine takeq_ 7 103 HT_ HW_ hHeld ?_
                   refine join_ (σ := Value × Value × Nat) 1 (bb 11 1023) (fun s_ => [(104, .agg #[.bool t154, s_.1, .bool t158, s_.2.1]), (15, .pointer (some ⟨s_.2.2, 0, none⟩))]) (fun s_ w' => (w'.cell? (ad152.add ((x13_2).toNat * 4)) = some (.bool ((rd_T58 x11_3 x13_2).f0.f0)) ∧ w'.cell? ⟨(ad152.add ((x13_2).toNat * 4)).block, (ad152.add ((x13_2).toNat * 4)).off + 1, none⟩ = some (.slice A152_1 ((rd_T58 x11_3 x13_2).f0.f1).length c152_1) ∧ w'.cell? ⟨(ad152.add ((x13_2).toNat * 4)).block, (ad152.add ((x13_2).toNat * 4)).off + 2, none⟩ = some (.bool ((rd_T58 x11_3 x13_2).f1.f0)) ∧ w'.cell? ⟨(ad152.add ((x13_2).toNat * 4)).block, (ad152.add ((x13_2).toNat * 4)).off + 3, none⟩ = some (.slice A152_3 ((rd_T58 x11_3 x13_2).f1.f1).length c152_3) ∧ w'.cell? (ad152.add ((x14_3).toNat * 4)) = some (.bool ((rd_T58 x11_3 x14_3).f0.f0)) ∧ w'.cell? ⟨(ad152.add ((x14_3).toNat * 4)).block, (ad152.add ((x14_3).toNat * 4)).off + 1, none⟩ = some (.slice A153_1 ((rd_T58 x11_3 x14_3).f0.f1).length c153_1) ∧ w'.cell? ⟨(ad152.add ((x14_3).toNat * 4)).block, (ad152.add ((x14_3).toNat * 4)).off + 2, none⟩ = some (.bool ((rd_T58 x11_3 x14_3).f1.f0)) ∧ w'.cell? ⟨(ad152.add ((x14_3).toNat * 4)).block, (ad152.add ((x14_3).toNat * 4)).off + 3, none⟩ = some (.slice A153_3 ((rd_T58 x11_3 x14_3).f1.f1).length c153_3)) ∧ (Kd.V (Kd.int .i64) 3 w' w.heap.size (fun k_ => some k_ ≠ (.slice (some ad152) x11_3.length co136 : Value).ownBlock ∧ k_ ≠ gb101 ∧ k_ ≠ gb102 ∧ k_ ≠ gb103 ∧ k_ ≠ gb104 ∧ k_ ≠ s_.2.2) (.slice A152_1 ((rd_T58 x11_3 x13_2).f0.f1).length c152_1) ((rd_T58 x11_3 x13_2).f0.f1)) ∧ (Kd.V (Kd.int .i64) 3 w' w.heap.size (fun k_ => some k_ ≠ (.slice (some ad152) x11_3.length co136 : Value).ownBlock ∧ k_ ≠ gb101 ∧ k_ ≠ gb102 ∧ k_ ≠ gb103 ∧ k_ ≠ gb104 ∧ k_ ≠ s_.2.2) (.slice A152_3 ((rd_T58 x11_3 x13_2).f1.f1).length c152_3) ((rd_T58 x11_3 x13_2).f1.f1)) ∧ (Kd.V (Kd.int .i64) 3 w' w.heap.size (fun k_ => some k_ ≠ (.slice (some ad152) x11_3.length co136 : Value).ownBlock ∧ k_ ≠ gb101 ∧ k_ ≠ gb102 ∧ k_ ≠ gb103 ∧ k_ ≠ gb104 ∧ k_ ≠ s_.2.2) (.slice A153_1 ((rd_T58 x11_3 x14_3).f0.f1).length c153_1) ((rd_T58 x11_3 x14_3).f0.f1)) ∧ (Kd.V (Kd.int .i64) 3 w' w.heap.size (fun k_ => some k_ ≠ (.slice (some ad152) x11_3.length co136 : Value).ownBlock ∧ k_ ≠ gb101 ∧ k_ ≠ gb102 ∧ k_ ≠ gb103 ∧ k_ ≠ gb104 ∧ k_ ≠ s_.2.2) (.slice A153_3 ((rd_T58 x11_3 x14_3).f1.f1).length c153_3) ((rd_T58 x11_3 x14_3).f1.f1)) ∧ (Kd.V (Kd.int .i64) 3 w' w.heap.size (fun k_ => some k_ ≠ (.slice (some ad152) x11_3.length co136 : Value).ownBlock ∧ k_ ≠ gb101 ∧ k_ ≠ gb102 ∧ k_ ≠ gb103 ∧ k_ ≠ gb104 ∧ k_ ≠ s_.2.2) s_.1 t155) ∧ (Kd.V (Kd.int .i64) 3 w' w.heap.size (fun k_ => some k_ ≠ (.slice (some ad152) x11_3.length co136 : Value).ownBlock ∧ k_ ≠ gb101 ∧ k_ ≠ gb102 ∧ k_ ≠ gb103 ∧ k_ ≠ gb104 ∧ k_ ≠ s_.2.2) s_.2.1 t159) ∧ (Kd.N k58 58 w' w.heap.size (fun k_ => k_ ≠ gb101 ∧ k_ ≠ gb102 ∧ k_ ≠ gb103 ∧ k_ ≠ gb104 ∧ k_ ≠ s_.2.2) (.slice (some ad152) x11_3.length co136) x11_3) ∧ (w'.heap[gb101]? = some (.cells #[.int .i64 a0_0, .int .i64 a0_1] 23 (0, 0))) ∧ (w'.heap[gb102]? = some (.cells #[.int .i64 a1_0, .int .i64 a1_1] 23 (0, 0))) ∧ (w'.heap[gb103]? = some (.cells #[.int .i64 a2_0, .int .i64 a2_1] 23 (0, 0))) ∧ (w'.heap[gb104]? = some (.cells #[.int .i64 a3_0, .int .i64 a3_1] 23 (0, 0))) ∧ (w'.heap[s_.2.2]? = some (.cells #[.bool false, .slice none 0 0, .bool false, .slice none 0 0] 58 (0, 0))) ∧ (w.heap.size ≤ s_.2.2) ∧ (w.heap.size ≤ s_.2.2) ∧ (gb101 ≠ s_.2.2) ∧ (s_.2.2 ≠ gb101) ∧ (gb102 ≠ s_.2.2) ∧ (s_.2.2 ≠ gb102) ∧ (gb103 ≠ s_.2.2) ∧ (s_.2.2 ≠ gb103) ∧ (gb104 ≠ s_.2.2) ∧ (s_.2.2 ≠ gb104) ∧ (Below w.heap.size w w')) ?_ ?_
                   rotate_left
                   ·intro hCont
                    refine twoq_ 8 9 (some 104) (some 15) HT_ (fun K hK => ?_) (fun K hK => ?_)
                    ·skip
                     refine goesq_ Try.func30 #[.agg #[.bool ((rd_T58 x11_3 x13_2).f0.f0), .slice A152_1 ((rd_T58 x11_3 x13_2).f0.f1).length c152_1, .bool ((rd_T58 x11_3 x13_2).f1.f0), .slice A152_3 ((rd_T58 x11_3 x13_2).f1.f1).length c152_3], .agg #[.bool ((rd_T58 x11_3 x14_3).f0.f0), .slice A153_1 ((rd_T58 x11_3 x14_3).f0.f1).length c153_1, .bool ((rd_T58 x11_3 x14_3).f1.f0), .slice A153_3 ((rd_T58 x11_3 x14_3).f1.f1).length c153_3]] ?_
                     with_reducible refine (cobwebref06_sum.calls k3 ((rd_T58 x11_3 x13_2).f0.f0) _ _ ((rd_T58 x11_3 x13_2).f0.f1) ((rd_T58 x11_3 x13_2).f1.f0) _ _ ((rd_T58 x11_3 x13_2).f1.f1) ((rd_T58 x11_3 x14_3).f0.f0) _ _ ((rd_T58 x11_3 x14_3).f0.f1) ((rd_T58 x11_3 x14_3).f1.f0) _ _ ((rd_T58 x11_3 x14_3).f1.f1) t154 t155 t158 t159 _ ?side1 ?side2 ?side3 ?side4 ?side5 ?side6 ?side7 ?side8 A132.out).mono ?_
                     (case side1 => exact c_ HR152_1.out)
                     (case side2 => exact HC152_1.out)
                     (case side3 => exact c_ HR152_3.out)
                     (case side4 => exact HC152_3.out)
                     (case side5 => exact c_ HR153_1.out)
                     (case side6 => exact HC153_1.out)
                     (case side7 => exact c_ HR153_3.out)
                     (case side8 => exact HC153_3.out)
                     rintro e w137 ⟨v156, v160, rfl, ho0, ho1, hb⟩
                     have HS0_ := (hb.cell (World.block_lt_of_cell? _ _ (hHeld.1))).trans (hHeld.1)
                     have HS1_ := (hb.cell (World.block_lt_of_cell? _ _ (hHeld.2.1))).trans (hHeld.2.1)
                     have HS2_ := (hb.cell (World.block_lt_of_cell? _ _ (hHeld.2.2.1))).trans (hHeld.2.2.1)
                     have HS3_ := (hb.cell (World.block_lt_of_cell? _ _ (hHeld.2.2.2.1))).trans (hHeld.2.2.2.1)
                     have HS4_ := (hb.cell (World.block_lt_of_cell? _ _ (hHeld.2.2.2.2.1))).trans (hHeld.2.2.2.2.1)
                     have HS5_ := (hb.cell (World.block_lt_of_cell? _ _ (hHeld.2.2.2.2.2.1))).trans (hHeld.2.2.2.2.2.1)
                     have HS6_ := (hb.cell (World.block_lt_of_cell? _ _ (hHeld.2.2.2.2.2.2.1))).trans (hHeld.2.2.2.2.2.2.1)
                     have HS7_ := (hb.cell (World.block_lt_of_cell? _ _ (hHeld.2.2.2.2.2.2.2))).trans (hHeld.2.2.2.2.2.2.2)
                     refine ⟨_, rfl, ?_⟩
                     replace HL152_1 := A_ (Kd.V_below (v_ HL152_1.out) hb)
                     replace HL152_3 := A_ (Kd.V_below (v_ HL152_3.out) hb)
                     replace HL153_1 := A_ (Kd.V_below (v_ HL153_1.out) hb)
                     replace HL153_3 := A_ (Kd.V_below (v_ HL153_3.out) hb)
                     have HO157 := A_ (Kd.V_lower (Kd.V_mono (ok' := fun k_ => some k_ ≠ (.slice (some ad152) x11_3.length co136 : Value).ownBlock ∧ k_ ≠ gb101 ∧ k_ ≠ gb102 ∧ k_ ≠ gb103 ∧ k_ ≠ gb104) ho0 (fun k_ hk_ => ⟨(Kd.fresh' (Kd.N_lt (n_ HO_11.out)) k_ hk_), (Kd.freshB (b_ BK101) k_ hk_), (Kd.freshB (b_ BK102) k_ hk_), (Kd.freshB (b_ BK103) k_ hk_), (Kd.freshB (b_ BK104) k_ hk_)⟩)) (below_size (l_ HB)))
                     have HO161 := A_ (Kd.V_lower (Kd.V_mono (ok' := fun k_ => some k_ ≠ (.slice (some ad152) x11_3.length co136 : Value).ownBlock ∧ k_ ≠ gb101 ∧ k_ ≠ gb102 ∧ k_ ≠ gb103 ∧ k_ ≠ gb104) ho1 (fun k_ hk_ => ⟨(Kd.fresh' (Kd.N_lt (n_ HO_11.out)) k_ hk_), (Kd.freshB (b_ BK101) k_ hk_), (Kd.freshB (b_ BK102) k_ hk_), (Kd.freshB (b_ BK103) k_ hk_), (Kd.freshB (b_ BK104) k_ hk_)⟩)) (below_size (l_ HB)))
                     replace HO_11 := A_ (Kd.N_below (n_ HO_11.out) hb)
                     replace BK101 := bb_ BK101 hb
                     replace BK102 := bb_ BK102 hb
                     replace BK103 := bb_ BK103 hb
                     replace BK104 := bb_ BK104 hb
                     replace HR152_1 := A_ (Kd.C_below (c_ HR152_1.out) hb)
                     replace HR152_3 := A_ (Kd.C_below (c_ HR152_3.out) hb)
                     replace HR153_1 := A_ (Kd.C_below (c_ HR153_1.out) hb)
                     replace HR153_3 := A_ (Kd.C_below (c_ HR153_3.out) hb)
                     replace HB := st_ HB hb
                     try clear hb ho0 ho1
                     refine hK.out _ _ ⟨HS0_, HS1_, HS2_, HS3_, HS4_, HS5_, HS6_, HS7_⟩ (fun hHeld => ?_)
                     clear hK K
                     refine normq_ 104 ?_
                     refine oneq_ 9 (some 15) HT_ (fun K hK => ?_)
                     refine boxsq_ 15 #[.bool false, .slice none 0 0, .bool false, .slice none 0 0] 58 ?_
                     intro gb162 hg w138 hbox hb
                     have HS0_ := (hb.cell (World.block_lt_of_cell? _ _ (hHeld.1))).trans (hHeld.1)
                     have HS1_ := (hb.cell (World.block_lt_of_cell? _ _ (hHeld.2.1))).trans (hHeld.2.1)
                     have HS2_ := (hb.cell (World.block_lt_of_cell? _ _ (hHeld.2.2.1))).trans (hHeld.2.2.1)
                     have HS3_ := (hb.cell (World.block_lt_of_cell? _ _ (hHeld.2.2.2.1))).trans (hHeld.2.2.2.1)
                     have HS4_ := (hb.cell (World.block_lt_of_cell? _ _ (hHeld.2.2.2.2.1))).trans (hHeld.2.2.2.2.1)
                     have HS5_ := (hb.cell (World.block_lt_of_cell? _ _ (hHeld.2.2.2.2.2.1))).trans (hHeld.2.2.2.2.2.1)
                     have HS6_ := (hb.cell (World.block_lt_of_cell? _ _ (hHeld.2.2.2.2.2.2.1))).trans (hHeld.2.2.2.2.2.2.1)
                     have HS7_ := (hb.cell (World.block_lt_of_cell? _ _ (hHeld.2.2.2.2.2.2.2))).trans (hHeld.2.2.2.2.2.2.2)
                     replace HO_11 := A_ (Kd.N_below (Kd.N_elderB (n_ HO_11.out) gb162 (Nat.le_of_eq hg.symm)) hb)
                     replace HL152_1 := A_ (Kd.V_below (Kd.V_elderB (v_ HL152_1.out) gb162 (Nat.le_of_eq hg.symm)) hb)
                     replace HL152_3 := A_ (Kd.V_below (Kd.V_elderB (v_ HL152_3.out) gb162 (Nat.le_of_eq hg.symm)) hb)
                     replace HL153_1 := A_ (Kd.V_below (Kd.V_elderB (v_ HL153_1.out) gb162 (Nat.le_of_eq hg.symm)) hb)
                     replace HL153_3 := A_ (Kd.V_below (Kd.V_elderB (v_ HL153_3.out) gb162 (Nat.le_of_eq hg.symm)) hb)
                     replace HO157 := A_ (Kd.V_below (Kd.V_elderB (v_ HO157.out) gb162 (Nat.le_of_eq hg.symm)) hb)
                     replace HO161 := A_ (Kd.V_below (Kd.V_elderB (v_ HO161.out) gb162 (Nat.le_of_eq hg.symm)) hb)
                     replace HR152_1 := A_ (Kd.C_below (c_ HR152_1.out) hb)
                     replace HR152_3 := A_ (Kd.C_below (c_ HR152_3.out) hb)
                     replace HR153_1 := A_ (Kd.C_below (c_ HR153_1.out) hb)
                     replace HR153_3 := A_ (Kd.C_below (c_ HR153_3.out) hb)
                     have BK162 := A_ (hbox)
                     have GW162 := ge_ HB hg
                     replace HB := st_ HB hb
                     have GE162 := GW162
                     have NB101_162 := ne_ BK101 hg
                     replace BK101 := bb_ BK101 hb
                     have NB162_101 := A_ NB101_162.out.symm
                     have NB102_162 := ne_ BK102 hg
                     replace BK102 := bb_ BK102 hb
                     have NB162_102 := A_ NB102_162.out.symm
                     have NB103_162 := ne_ BK103 hg
                     replace BK103 := bb_ BK103 hb
                     have NB162_103 := A_ NB103_162.out.symm
                     have NB104_162 := ne_ BK104 hg
                     replace BK104 := bb_ BK104 hb
                     have NB162_104 := A_ NB104_162.out.symm
                     clear hb hbox hg
                     refine hK.out _ _ ⟨HS0_, HS1_, HS2_, HS3_, HS4_, HS5_, HS6_, HS7_⟩ (fun hHeld => ?_)
                     clear hK K
                     refine normq_ 15 ?_
                     exact normp_ (hCont (v156, v160, gb162) _ ⟨hHeld, (Kd.V_mono (v_ HL152_1.out) (fun _ hk => ⟨hk.1.2, ⟨hk.1.1.1, ⟨hk.1.1.2.1, ⟨hk.1.1.2.2.1, ⟨hk.1.1.2.2.2, hk.2⟩⟩⟩⟩⟩)), (Kd.V_mono (v_ HL152_3.out) (fun _ hk => ⟨hk.1.2, ⟨hk.1.1.1, ⟨hk.1.1.2.1, ⟨hk.1.1.2.2.1, ⟨hk.1.1.2.2.2, hk.2⟩⟩⟩⟩⟩)), (Kd.V_mono (v_ HL153_1.out) (fun _ hk => ⟨hk.1.2, ⟨hk.1.1.1, ⟨hk.1.1.2.1, ⟨hk.1.1.2.2.1, ⟨hk.1.1.2.2.2, hk.2⟩⟩⟩⟩⟩)), (Kd.V_mono (v_ HL153_3.out) (fun _ hk => ⟨hk.1.2, ⟨hk.1.1.1, ⟨hk.1.1.2.1, ⟨hk.1.1.2.2.1, ⟨hk.1.1.2.2.2, hk.2⟩⟩⟩⟩⟩)), (Kd.V_mono (v_ HO157.out) (fun _ hk => ⟨hk.1.1, ⟨hk.1.2.1, ⟨hk.1.2.2.1, ⟨hk.1.2.2.2.1, ⟨hk.1.2.2.2.2, hk.2⟩⟩⟩⟩⟩)), (Kd.V_mono (v_ HO161.out) (fun _ hk => ⟨hk.1.1, ⟨hk.1.2.1, ⟨hk.1.2.2.1, ⟨hk.1.2.2.2.1, ⟨hk.1.2.2.2.2, hk.2⟩⟩⟩⟩⟩)), (Kd.N_mono (n_ HO_11.out) (fun _ hk => ⟨hk.1.1, ⟨hk.1.2.1, ⟨hk.1.2.2.1, ⟨hk.1.2.2.2, hk.2⟩⟩⟩⟩)), (b_ BK101), (b_ BK102), (b_ BK103), (b_ BK104), (b_ BK162), GW162.out, GE162.out, NB101_162.out, NB162_101.out, NB102_162.out, NB162_102.out, NB103_162.out, NB162_103.out, NB104_162.out, NB162_104.out, (l_ HB)⟩)
                    ·skip
                     refine boxsq_ 15 #[.bool false, .slice none 0 0, .bool false, .slice none 0 0] 58 ?_
                     intro gb162 hg w137 hbox hb
                     have HS0_ := (hb.cell (World.block_lt_of_cell? _ _ (hHeld.1))).trans (hHeld.1)
                     have HS1_ := (hb.cell (World.block_lt_of_cell? _ _ (hHeld.2.1))).trans (hHeld.2.1)
                     have HS2_ := (hb.cell (World.block_lt_of_cell? _ _ (hHeld.2.2.1))).trans (hHeld.2.2.1)
                     have HS3_ := (hb.cell (World.block_lt_of_cell? _ _ (hHeld.2.2.2.1))).trans (hHeld.2.2.2.1)
                     have HS4_ := (hb.cell (World.block_lt_of_cell? _ _ (hHeld.2.2.2.2.1))).trans (hHeld.2.2.2.2.1)
                     have HS5_ := (hb.cell (World.block_lt_of_cell? _ _ (hHeld.2.2.2.2.2.1))).trans (hHeld.2.2.2.2.2.1)
                     have HS6_ := (hb.cell (World.block_lt_of_cell? _ _ (hHeld.2.2.2.2.2.2.1))).trans (hHeld.2.2.2.2.2.2.1)
                     have HS7_ := (hb.cell (World.block_lt_of_cell? _ _ (hHeld.2.2.2.2.2.2.2))).trans (hHeld.2.2.2.2.2.2.2)
                     replace HO_11 := A_ (Kd.N_below (Kd.N_elderB (n_ HO_11.out) gb162 (Nat.le_of_eq hg.symm)) hb)
                     replace HL152_1 := A_ (Kd.V_below (Kd.V_elderB (v_ HL152_1.out) gb162 (Nat.le_of_eq hg.symm)) hb)
                     replace HL152_3 := A_ (Kd.V_below (Kd.V_elderB (v_ HL152_3.out) gb162 (Nat.le_of_eq hg.symm)) hb)
                     replace HL153_1 := A_ (Kd.V_below (Kd.V_elderB (v_ HL153_1.out) gb162 (Nat.le_of_eq hg.symm)) hb)
                     replace HL153_3 := A_ (Kd.V_below (Kd.V_elderB (v_ HL153_3.out) gb162 (Nat.le_of_eq hg.symm)) hb)
                     replace HR152_1 := A_ (Kd.C_below (c_ HR152_1.out) hb)
                     replace HR152_3 := A_ (Kd.C_below (c_ HR152_3.out) hb)
                     replace HR153_1 := A_ (Kd.C_below (c_ HR153_1.out) hb)
                     replace HR153_3 := A_ (Kd.C_below (c_ HR153_3.out) hb)
                     have BK162 := A_ (hbox)
                     have GW162 := ge_ HB hg
                     replace HB := st_ HB hb
                     have GE162 := GW162
                     have NB101_162 := ne_ BK101 hg
                     replace BK101 := bb_ BK101 hb
                     have NB162_101 := A_ NB101_162.out.symm
                     have NB102_162 := ne_ BK102 hg
                     replace BK102 := bb_ BK102 hb
                     have NB162_102 := A_ NB102_162.out.symm
                     have NB103_162 := ne_ BK103 hg
                     replace BK103 := bb_ BK103 hb
                     have NB162_103 := A_ NB103_162.out.symm
                     have NB104_162 := ne_ BK104 hg
                     replace BK104 := bb_ BK104 hb
                     have NB162_104 := A_ NB104_162.out.symm
                     clear hb hbox hg
                     refine hK.out _ _ ⟨HS0_, HS1_, HS2_, HS3_, HS4_, HS5_, HS6_, HS7_⟩ (fun hHeld => ?_)
                     clear hK K
                     refine normq_ 15 ?_
                     refine oneq_ 8 (some 104) HT_ (fun K hK => ?_)
                     refine goesq_ Try.func30 #[.agg #[.bool ((rd_T58 x11_3 x13_2).f0.f0), .slice A152_1 ((rd_T58 x11_3 x13_2).f0.f1).length c152_1, .bool ((rd_T58 x11_3 x13_2).f1.f0), .slice A152_3 ((rd_T58 x11_3 x13_2).f1.f1).length c152_3], .agg #[.bool ((rd_T58 x11_3 x14_3).f0.f0), .slice A153_1 ((rd_T58 x11_3 x14_3).f0.f1).length c153_1, .bool ((rd_T58 x11_3 x14_3).f1.f0), .slice A153_3 ((rd_T58 x11_3 x14_3).f1.f1).length c153_3]] ?_
                     with_reducible refine (cobwebref06_sum.calls k3 ((rd_T58 x11_3 x13_2).f0.f0) _ _ ((rd_T58 x11_3 x13_2).f0.f1) ((rd_T58 x11_3 x13_2).f1.f0) _ _ ((rd_T58 x11_3 x13_2).f1.f1) ((rd_T58 x11_3 x14_3).f0.f0) _ _ ((rd_T58 x11_3 x14_3).f0.f1) ((rd_T58 x11_3 x14_3).f1.f0) _ _ ((rd_T58 x11_3 x14_3).f1.f1) t154 t155 t158 t159 _ ?side1 ?side2 ?side3 ?side4 ?side5 ?side6 ?side7 ?side8 A132.out).mono ?_
                     (case side1 => exact c_ HR152_1.out)
                     (case side2 => exact HC152_1.out)
                     (case side3 => exact c_ HR152_3.out)
                     (case side4 => exact HC152_3.out)
                     (case side5 => exact c_ HR153_1.out)
                     (case side6 => exact HC153_1.out)
                     (case side7 => exact c_ HR153_3.out)
                     (case side8 => exact HC153_3.out)
                     rintro e w138 ⟨v156, v160, rfl, ho0, ho1, hb⟩
                     have HS0_ := (hb.cell (World.block_lt_of_cell? _ _ (hHeld.1))).trans (hHeld.1)
                     have HS1_ := (hb.cell (World.block_lt_of_cell? _ _ (hHeld.2.1))).trans (hHeld.2.1)
                     have HS2_ := (hb.cell (World.block_lt_of_cell? _ _ (hHeld.2.2.1))).trans (hHeld.2.2.1)
                     have HS3_ := (hb.cell (World.block_lt_of_cell? _ _ (hHeld.2.2.2.1))).trans (hHeld.2.2.2.1)
                     have HS4_ := (hb.cell (World.block_lt_of_cell? _ _ (hHeld.2.2.2.2.1))).trans (hHeld.2.2.2.2.1)
                     have HS5_ := (hb.cell (World.block_lt_of_cell? _ _ (hHeld.2.2.2.2.2.1))).trans (hHeld.2.2.2.2.2.1)
                     have HS6_ := (hb.cell (World.block_lt_of_cell? _ _ (hHeld.2.2.2.2.2.2.1))).trans (hHeld.2.2.2.2.2.2.1)
                     have HS7_ := (hb.cell (World.block_lt_of_cell? _ _ (hHeld.2.2.2.2.2.2.2))).trans (hHeld.2.2.2.2.2.2.2)
                     refine ⟨_, rfl, ?_⟩
                     replace HL152_1 := A_ (Kd.V_below (v_ HL152_1.out) hb)
                     replace HL152_3 := A_ (Kd.V_below (v_ HL152_3.out) hb)
                     replace HL153_1 := A_ (Kd.V_below (v_ HL153_1.out) hb)
                     replace HL153_3 := A_ (Kd.V_below (v_ HL153_3.out) hb)
                     have HO157 := A_ (Kd.V_lower (Kd.V_mono (ok' := fun k_ => some k_ ≠ (.slice (some ad152) x11_3.length co136 : Value).ownBlock ∧ k_ ≠ gb101 ∧ k_ ≠ gb102 ∧ k_ ≠ gb103 ∧ k_ ≠ gb104 ∧ k_ ≠ gb162) ho0 (fun k_ hk_ => ⟨(Kd.fresh' (Kd.N_lt (n_ HO_11.out)) k_ hk_), (Kd.freshB (b_ BK101) k_ hk_), (Kd.freshB (b_ BK102) k_ hk_), (Kd.freshB (b_ BK103) k_ hk_), (Kd.freshB (b_ BK104) k_ hk_), (Kd.freshB (b_ BK162) k_ hk_)⟩)) (below_size (l_ HB)))
                     have HO161 := A_ (Kd.V_lower (Kd.V_mono (ok' := fun k_ => some k_ ≠ (.slice (some ad152) x11_3.length co136 : Value).ownBlock ∧ k_ ≠ gb101 ∧ k_ ≠ gb102 ∧ k_ ≠ gb103 ∧ k_ ≠ gb104 ∧ k_ ≠ gb162) ho1 (fun k_ hk_ => ⟨(Kd.fresh' (Kd.N_lt (n_ HO_11.out)) k_ hk_), (Kd.freshB (b_ BK101) k_ hk_), (Kd.freshB (b_ BK102) k_ hk_), (Kd.freshB (b_ BK103) k_ hk_), (Kd.freshB (b_ BK104) k_ hk_), (Kd.freshB (b_ BK162) k_ hk_)⟩)) (below_size (l_ HB)))
                     replace HO_11 := A_ (Kd.N_below (n_ HO_11.out) hb)
                     replace BK101 := bb_ BK101 hb
                     replace BK102 := bb_ BK102 hb
                     replace BK103 := bb_ BK103 hb
                     replace BK104 := bb_ BK104 hb
                     replace HR152_1 := A_ (Kd.C_below (c_ HR152_1.out) hb)
                     replace HR152_3 := A_ (Kd.C_below (c_ HR152_3.out) hb)
                     replace HR153_1 := A_ (Kd.C_below (c_ HR153_1.out) hb)
                     replace HR153_3 := A_ (Kd.C_below (c_ HR153_3.out) hb)
                     replace BK162 := bb_ BK162 hb
                     replace HB := st_ HB hb
                     try clear hb ho0 ho1
                     refine hK.out _ _ ⟨HS0_, HS1_, HS2_, HS3_, HS4_, HS5_, HS6_, HS7_⟩ (fun hHeld => ?_)
                     clear hK K
                     refine normq_ 104 ?_
                     exact normp_ (hCont (v156, v160, gb162) _ ⟨hHeld, (Kd.V_mono (v_ HL152_1.out) (fun _ hk => ⟨hk.1.2, ⟨hk.1.1.1, ⟨hk.1.1.2.1, ⟨hk.1.1.2.2.1, ⟨hk.1.1.2.2.2, hk.2⟩⟩⟩⟩⟩)), (Kd.V_mono (v_ HL152_3.out) (fun _ hk => ⟨hk.1.2, ⟨hk.1.1.1, ⟨hk.1.1.2.1, ⟨hk.1.1.2.2.1, ⟨hk.1.1.2.2.2, hk.2⟩⟩⟩⟩⟩)), (Kd.V_mono (v_ HL153_1.out) (fun _ hk => ⟨hk.1.2, ⟨hk.1.1.1, ⟨hk.1.1.2.1, ⟨hk.1.1.2.2.1, ⟨hk.1.1.2.2.2, hk.2⟩⟩⟩⟩⟩)), (Kd.V_mono (v_ HL153_3.out) (fun _ hk => ⟨hk.1.2, ⟨hk.1.1.1, ⟨hk.1.1.2.1, ⟨hk.1.1.2.2.1, ⟨hk.1.1.2.2.2, hk.2⟩⟩⟩⟩⟩)), (v_ HO157.out), (v_ HO161.out), (Kd.N_mono (n_ HO_11.out) (fun _ hk => ⟨hk.1.1, ⟨hk.1.2.1, ⟨hk.1.2.2.1, ⟨hk.1.2.2.2, hk.2⟩⟩⟩⟩)), (b_ BK101), (b_ BK102), (b_ BK103), (b_ BK104), (b_ BK162), GW162.out, GE162.out, NB101_162.out, NB162_101.out, NB102_162.out, NB162_102.out, NB103_162.out, NB162_103.out, NB104_162.out, NB162_104.out, (l_ HB)⟩)
                   rintro ⟨v156, v160, gb162⟩ w139 ⟨hS_, h0_, h1_, h2_, h3_, h4_, h5_, h6_, h7_, h8_, h9_, h10_, h11_, h12_, h13_, h14_, h15_, h16_, h17_, h18_, h19_, h20_, h21_, h22_⟩
                   have n0_ : Aside0 (Kd.V (Kd.int .i64) 3 w139 w.heap.size (fun k_ => some k_ ≠ (.slice (some ad152) x11_3.length co136 : Value).ownBlock ∧ k_ ≠ gb101 ∧ k_ ≠ gb102 ∧ k_ ≠ gb103 ∧ k_ ≠ gb104 ∧ k_ ≠ gb162) (.slice A152_1 ((rd_T58 x11_3 x13_2).f0.f1).length c152_1) ((rd_T58 x11_3 x13_2).f0.f1)) := ⟨h0_⟩
                   have n1_ : Aside0 (Kd.V (Kd.int .i64) 3 w139 w.heap.size (fun k_ => some k_ ≠ (.slice (some ad152) x11_3.length co136 : Value).ownBlock ∧ k_ ≠ gb101 ∧ k_ ≠ gb102 ∧ k_ ≠ gb103 ∧ k_ ≠ gb104 ∧ k_ ≠ gb162) (.slice A152_3 ((rd_T58 x11_3 x13_2).f1.f1).length c152_3) ((rd_T58 x11_3 x13_2).f1.f1)) := ⟨h1_⟩
                   have n2_ : Aside0 (Kd.V (Kd.int .i64) 3 w139 w.heap.size (fun k_ => some k_ ≠ (.slice (some ad152) x11_3.length co136 : Value).ownBlock ∧ k_ ≠ gb101 ∧ k_ ≠ gb102 ∧ k_ ≠ gb103 ∧ k_ ≠ gb104 ∧ k_ ≠ gb162) (.slice A153_1 ((rd_T58 x11_3 x14_3).f0.f1).length c153_1) ((rd_T58 x11_3 x14_3).f0.f1)) := ⟨h2_⟩
                   have n3_ : Aside0 (Kd.V (Kd.int .i64) 3 w139 w.heap.size (fun k_ => some k_ ≠ (.slice (some ad152) x11_3.length co136 : Value).ownBlock ∧ k_ ≠ gb101 ∧ k_ ≠ gb102 ∧ k_ ≠ gb103 ∧ k_ ≠ gb104 ∧ k_ ≠ gb162) (.slice A153_3 ((rd_T58 x11_3 x14_3).f1.f1).length c153_3) ((rd_T58 x11_3 x14_3).f1.f1)) := ⟨h3_⟩
                   have n4_ : Aside0 (Kd.V (Kd.int .i64) 3 w139 w.heap.size (fun k_ => some k_ ≠ (.slice (some ad152) x11_3.length co136 : Value).ownBlock ∧ k_ ≠ gb101 ∧ k_ ≠ gb102 ∧ k_ ≠ gb103 ∧ k_ ≠ gb104 ∧ k_ ≠ gb162) v156 t155) := ⟨h4_⟩
                   have n5_ : Aside0 (Kd.V (Kd.int .i64) 3 w139 w.heap.size (fun k_ => some k_ ≠ (.slice (some ad152) x11_3.length co136 : Value).ownBlock ∧ k_ ≠ gb101 ∧ k_ ≠ gb102 ∧ k_ ≠ gb103 ∧ k_ ≠ gb104 ∧ k_ ≠ gb162) v160 t159) := ⟨h5_⟩
                   have n6_ : Aside0 (Kd.N k58 58 w139 w.heap.size (fun k_ => k_ ≠ gb101 ∧ k_ ≠ gb102 ∧ k_ ≠ gb103 ∧ k_ ≠ gb104 ∧ k_ ≠ gb162) (.slice (some ad152) x11_3.length co136) x11_3) := ⟨h6_⟩
                   have n7_ : Aside0 (w139.heap[gb101]? = some (.cells #[.int .i64 a0_0, .int .i64 a0_1] 23 (0, 0))) := ⟨h7_⟩
                   have n8_ : Aside0 (w139.heap[gb102]? = some (.cells #[.int .i64 a1_0, .int .i64 a1_1] 23 (0, 0))) := ⟨h8_⟩
                   have n9_ : Aside0 (w139.heap[gb103]? = some (.cells #[.int .i64 a2_0, .int .i64 a2_1] 23 (0, 0))) := ⟨h9_⟩
                   have n10_ : Aside0 (w139.heap[gb104]? = some (.cells #[.int .i64 a3_0, .int .i64 a3_1] 23 (0, 0))) := ⟨h10_⟩
                   have n11_ : Aside0 (w139.heap[gb162]? = some (.cells #[.bool false, .slice none 0 0, .bool false, .slice none 0 0] 58 (0, 0))) := ⟨h11_⟩
                   have n12_ : Aside0 (w.heap.size ≤ gb162) := ⟨h12_⟩
                   have n13_ : Aside0 (w.heap.size ≤ gb162) := ⟨h13_⟩
                   have n14_ : Aside0 (gb101 ≠ gb162) := ⟨h14_⟩
                   have n15_ : Aside0 (gb162 ≠ gb101) := ⟨h15_⟩
                   have n16_ : Aside0 (gb102 ≠ gb162) := ⟨h16_⟩
                   have n17_ : Aside0 (gb162 ≠ gb102) := ⟨h17_⟩
                   have n18_ : Aside0 (gb103 ≠ gb162) := ⟨h18_⟩
                   have n19_ : Aside0 (gb162 ≠ gb103) := ⟨h19_⟩
                   have n20_ : Aside0 (gb104 ≠ gb162) := ⟨h20_⟩
                   have n21_ : Aside0 (gb162 ≠ gb104) := ⟨h21_⟩
                   have n22_ : Aside0 (Below w.heap.size w w139) := ⟨h22_⟩
                   clear HO_11 BK101 BK102 BK103 BK104 HB h0_ h1_ h2_ h3_ h4_ h5_ h6_ h7_ h8_ h9_ h10_ h11_ h12_ h13_ h14_ h15_ h16_ h17_ h18_ h19_ h20_ h21_ h22_
                   have HL152_1 := n0_
                   have HL152_3 := n1_
                   have HL153_1 := n2_
                   have HL153_3 := n3_
                   have HO157 := n4_
                   have HO161 := n5_
                   have HO_11 := n6_
                   have BK101 := n7_
                   have BK102 := n8_
                   have BK103 := n9_
                   have BK104 := n10_
                   have BK162 := n11_
                   have GW162 := n12_
                   have GE162 := n13_
                   have NB101_162 := n14_
                   have NB162_101 := n15_
                   have NB102_162 := n16_
                   have NB162_102 := n17_
                   have NB103_162 := n18_
                   have NB162_103 := n19_
                   have NB104_162 := n20_
                   have NB162_104 := n21_
                   have HB := n22_
                   clear n0_ n1_ n2_ n3_ n4_ n5_ n6_ n7_ n8_ n9_ n10_ n11_ n12_ n13_ n14_ n15_ n16_ n17_ n18_ n19_ n20_ n21_ n22_
                   have hHeld : w139.cell? (ad152.add ((x13_2).toNat * 4)) = some (.bool ((rd_T58 x11_3 x13_2).f0.f0)) ∧ w139.cell? ⟨(ad152.add ((x13_2).toNat * 4)).block, (ad152.add ((x13_2).toNat * 4)).off + 1, none⟩ = some (.slice A152_1 ((rd_T58 x11_3 x13_2).f0.f1).length c152_1) ∧ w139.cell? ⟨(ad152.add ((x13_2).toNat * 4)).block, (ad152.add ((x13_2).toNat * 4)).off + 2, none⟩ = some (.bool ((rd_T58 x11_3 x13_2).f1.f0)) ∧ w139.cell? ⟨(ad152.add ((x13_2).toNat * 4)).block, (ad152.add ((x13_2).toNat * 4)).off + 3, none⟩ = some (.slice A152_3 ((rd_T58 x11_3 x13_2).f1.f1).length c152_3) ∧ w139.cell? (ad152.add ((x14_3).toNat * 4)) = some (.bool ((rd_T58 x11_3 x14_3).f0.f0)) ∧ w139.cell? ⟨(ad152.add ((x14_3).toNat * 4)).block, (ad152.add ((x14_3).toNat * 4)).off + 1, none⟩ = some (.slice A153_1 ((rd_T58 x11_3 x14_3).f0.f1).length c153_1) ∧ w139.cell? ⟨(ad152.add ((x14_3).toNat * 4)).block, (ad152.add ((x14_3).toNat * 4)).off + 2, none⟩ = some (.bool ((rd_T58 x11_3 x14_3).f1.f0)) ∧ w139.cell? ⟨(ad152.add ((x14_3).toNat * 4)).block, (ad152.add ((x14_3).toNat * 4)).off + 3, none⟩ = some (.slice A153_3 ((rd_T58 x11_3 x14_3).f1.f1).length c153_3) := hS_
                   obtain ⟨Ao141, co141, eo141⟩ := Kd.V_slice HO157.out
                   (first | subst eo141 | (injection eo141 with f1_ f2_ f3_; have f4_ := f1_.symm; have f5_ := f3_.symm; clear f1_ f2_ f3_; subst f4_; subst f5_))
                   obtain ⟨Ao144, co144, eo144⟩ := Kd.V_slice HO161.out
                   (first | subst eo144 | (injection eo144 with f1_ f2_ f3_; have f4_ := f1_.symm; have f5_ := f3_.symm; clear f1_ f2_ f3_; subst f4_; subst f5_))
                   refine norm_ (a' := ?_) ?_ ?_
                   rotate_left
                   ·simp only [putAll, Act.put, List.setIfInBounds_toArray, List.set_cons_zero, List.set_cons_succ]
                    rfl
                   refine oneq_ 10 none HT_ (fun K hK => ?_)
                   have hs140 : w139.cell? ⟨gb162, 0, none⟩ = some (.bool false) := (blk_cell BK162.out 0).trans rfl
                   have hfs140 := blk_frozen BK162.out 0
                   have hns140_0 := NB101_162.out
                   have hns140_1 := NB102_162.out
                   have hns140_2 := NB103_162.out
                   have hns140_3 := NB104_162.out
                   have hms140_0 := NB162_101.out
                   have hms140_1 := NB162_102.out
                   have hms140_2 := NB162_103.out
                   have hms140_3 := NB162_104.out
                   have hs142 : w139.cell? ⟨gb162, 1, none⟩ = some (.slice none 0 0) := (blk_cell BK162.out 1).trans rfl
                   have hfs142 := blk_frozen BK162.out 1
                   have hns142_0 := NB101_162.out
                   have hns142_1 := NB102_162.out
                   have hns142_2 := NB103_162.out
                   have hns142_3 := NB104_162.out
                   have hms142_0 := NB162_101.out
                   have hms142_1 := NB162_102.out
                   have hms142_2 := NB162_103.out
                   have hms142_3 := NB162_104.out
                   have hs143 : w139.cell? ⟨gb162, 2, none⟩ = some (.bool false) := (blk_cell BK162.out 2).trans rfl
                   have hfs143 := blk_frozen BK162.out 2
                   have hns143_0 := NB101_162.out
                   have hns143_1 := NB102_162.out
                   have hns143_2 := NB103_162.out
                   have hns143_3 := NB104_162.out
                   have hms143_0 := NB162_101.out
                   have hms143_1 := NB162_102.out
                   have hms143_2 := NB162_103.out
                   have hms143_3 := NB162_104.out
                   have hs145 : w139.cell? ⟨gb162, 3, none⟩ = some (.slice none 0 0) := (blk_cell BK162.out 3).trans rfl
                   have hfs145 := blk_frozen BK162.out 3
                   have hns145_0 := NB101_162.out
                   have hns145_1 := NB102_162.out
                   have hns145_2 := NB103_162.out
                   have hns145_3 := NB104_162.out
                   have hms145_0 := NB162_101.out
                   have hms145_1 := NB162_102.out
                   have hms145_2 := NB162_103.out
                   have hms145_3 := NB162_104.out
                   refine skip_ (w1 := ?_) (by rfl) rfl ?_ ?_
                   rotate_left
                   ·go_simp
                    rfl
                   refine hK.out _ _ ⟨((cell_far (p := ⟨gb162, _, none⟩) (by first | exact Kd.own_blk (Kd.N_away HO_11.out (fun _ hk => hk.2.2.2.2)) | (rw [add_block]; exact Kd.own_blk (Kd.N_away HO_11.out (fun _ hk => hk.2.2.2.2))) | (show (Addr.add _ _).block ≠ _; rw [add_block]; exact Kd.own_blk (Kd.N_away HO_11.out (fun _ hk => hk.2.2.2.2))) | (dsimp only; exact Kd.own_blk (Kd.N_away HO_11.out (fun _ hk => hk.2.2.2.2)))) _).trans (((cell_far (p := ⟨gb162, _, none⟩) (by first | exact Kd.own_blk (Kd.N_away HO_11.out (fun _ hk => hk.2.2.2.2)) | (rw [add_block]; exact Kd.own_blk (Kd.N_away HO_11.out (fun _ hk => hk.2.2.2.2))) | (show (Addr.add _ _).block ≠ _; rw [add_block]; exact Kd.own_blk (Kd.N_away HO_11.out (fun _ hk => hk.2.2.2.2))) | (dsimp only; exact Kd.own_blk (Kd.N_away HO_11.out (fun _ hk => hk.2.2.2.2)))) _).trans (((cell_far (p := ⟨gb162, _, none⟩) (by first | exact Kd.own_blk (Kd.N_away HO_11.out (fun _ hk => hk.2.2.2.2)) | (rw [add_block]; exact Kd.own_blk (Kd.N_away HO_11.out (fun _ hk => hk.2.2.2.2))) | (show (Addr.add _ _).block ≠ _; rw [add_block]; exact Kd.own_blk (Kd.N_away HO_11.out (fun _ hk => hk.2.2.2.2))) | (dsimp only; exact Kd.own_blk (Kd.N_away HO_11.out (fun _ hk => hk.2.2.2.2)))) _).trans (((cell_far (p := ⟨gb162, _, none⟩) (by first | exact Kd.own_blk (Kd.N_away HO_11.out (fun _ hk => hk.2.2.2.2)) | (rw [add_block]; exact Kd.own_blk (Kd.N_away HO_11.out (fun _ hk => hk.2.2.2.2))) | (show (Addr.add _ _).block ≠ _; rw [add_block]; exact Kd.own_blk (Kd.N_away HO_11.out (fun _ hk => hk.2.2.2.2))) | (dsimp only; exact Kd.own_blk (Kd.N_away HO_11.out (fun _ hk => hk.2.2.2.2)))) _).trans (hHeld.1)))))))), ((cell_far (p := ⟨gb162, _, none⟩) (by first | exact Kd.own_blk (Kd.N_away HO_11.out (fun _ hk => hk.2.2.2.2)) | (rw [add_block]; exact Kd.own_blk (Kd.N_away HO_11.out (fun _ hk => hk.2.2.2.2))) | (show (Addr.add _ _).block ≠ _; rw [add_block]; exact Kd.own_blk (Kd.N_away HO_11.out (fun _ hk => hk.2.2.2.2))) | (dsimp only; exact Kd.own_blk (Kd.N_away HO_11.out (fun _ hk => hk.2.2.2.2)))) _).trans (((cell_far (p := ⟨gb162, _, none⟩) (by first | exact Kd.own_blk (Kd.N_away HO_11.out (fun _ hk => hk.2.2.2.2)) | (rw [add_block]; exact Kd.own_blk (Kd.N_away HO_11.out (fun _ hk => hk.2.2.2.2))) | (show (Addr.add _ _).block ≠ _; rw [add_block]; exact Kd.own_blk (Kd.N_away HO_11.out (fun _ hk => hk.2.2.2.2))) | (dsimp only; exact Kd.own_blk (Kd.N_away HO_11.out (fun _ hk => hk.2.2.2.2)))) _).trans (((cell_far (p := ⟨gb162, _, none⟩) (by first | exact Kd.own_blk (Kd.N_away HO_11.out (fun _ hk => hk.2.2.2.2)) | (rw [add_block]; exact Kd.own_blk (Kd.N_away HO_11.out (fun _ hk => hk.2.2.2.2))) | (show (Addr.add _ _).block ≠ _; rw [add_block]; exact Kd.own_blk (Kd.N_away HO_11.out (fun _ hk => hk.2.2.2.2))) | (dsimp only; exact Kd.own_blk (Kd.N_away HO_11.out (fun _ hk => hk.2.2.2.2)))) _).trans (((cell_far (p := ⟨gb162, _, none⟩) (by first | exact Kd.own_blk (Kd.N_away HO_11.out (fun _ hk => hk.2.2.2.2)) | (rw [add_block]; exact Kd.own_blk (Kd.N_away HO_11.out (fun _ hk => hk.2.2.2.2))) | (show (Addr.add _ _).block ≠ _; rw [add_block]; exact Kd.own_blk (Kd.N_away HO_11.out (fun _ hk => hk.2.2.2.2))) | (dsimp only; exact Kd.own_blk (Kd.N_away HO_11.out (fun _ hk => hk.2.2.2.2)))) _).trans (hHeld.2.1)))))))), ((cell_far (p := ⟨gb162, _, none⟩) (by first | exact Kd.own_blk (Kd.N_away HO_11.out (fun _ hk => hk.2.2.2.2)) | (rw [add_block]; exact Kd.own_blk (Kd.N_away HO_11.out (fun _ hk => hk.2.2.2.2))) | (show (Addr.add _ _).block ≠ _; rw [add_block]; exact Kd.own_blk (Kd.N_away HO_11.out (fun _ hk => hk.2.2.2.2))) | (dsimp only; exact Kd.own_blk (Kd.N_away HO_11.out (fun _ hk => hk.2.2.2.2)))) _).trans (((cell_far (p := ⟨gb162, _, none⟩) (by first | exact Kd.own_blk (Kd.N_away HO_11.out (fun _ hk => hk.2.2.2.2)) | (rw [add_block]; exact Kd.own_blk (Kd.N_away HO_11.out (fun _ hk => hk.2.2.2.2))) | (show (Addr.add _ _).block ≠ _; rw [add_block]; exact Kd.own_blk (Kd.N_away HO_11.out (fun _ hk => hk.2.2.2.2))) | (dsimp only; exact Kd.own_blk (Kd.N_away HO_11.out (fun _ hk => hk.2.2.2.2)))) _).trans (((cell_far (p := ⟨gb162, _, none⟩) (by first | exact Kd.own_blk (Kd.N_away HO_11.out (fun _ hk => hk.2.2.2.2)) | (rw [add_block]; exact Kd.own_blk (Kd.N_away HO_11.out (fun _ hk => hk.2.2.2.2))) | (show (Addr.add _ _).block ≠ _; rw [add_block]; exact Kd.own_blk (Kd.N_away HO_11.out (fun _ hk => hk.2.2.2.2))) | (dsimp only; exact Kd.own_blk (Kd.N_away HO_11.out (fun _ hk => hk.2.2.2.2)))) _).trans (((cell_far (p := ⟨gb162, _, none⟩) (by first | exact Kd.own_blk (Kd.N_away HO_11.out (fun _ hk => hk.2.2.2.2)) | (rw [add_block]; exact Kd.own_blk (Kd.N_away HO_11.out (fun _ hk => hk.2.2.2.2))) | (show (Addr.add _ _).block ≠ _; rw [add_block]; exact Kd.own_blk (Kd.N_away HO_11.out (fun _ hk => hk.2.2.2.2))) | (dsimp only; exact Kd.own_blk (Kd.N_away HO_11.out (fun _ hk => hk.2.2.2.2)))) _).trans (hHeld.2.2.1)))))))), ((cell_far (p := ⟨gb162, _, none⟩) (by first | exact Kd.own_blk (Kd.N_away HO_11.out (fun _ hk => hk.2.2.2.2)) | (rw [add_block]; exact Kd.own_blk (Kd.N_away HO_11.out (fun _ hk => hk.2.2.2.2))) | (show (Addr.add _ _).block ≠ _; rw [add_block]; exact Kd.own_blk (Kd.N_away HO_11.out (fun _ hk => hk.2.2.2.2))) | (dsimp only; exact Kd.own_blk (Kd.N_away HO_11.out (fun _ hk => hk.2.2.2.2)))) _).trans (((cell_far (p := ⟨gb162, _, none⟩) (by first | exact Kd.own_blk (Kd.N_away HO_11.out (fun _ hk => hk.2.2.2.2)) | (rw [add_block]; exact Kd.own_blk (Kd.N_away HO_11.out (fun _ hk => hk.2.2.2.2))) | (show (Addr.add _ _).block ≠ _; rw [add_block]; exact Kd.own_blk (Kd.N_away HO_11.out (fun _ hk => hk.2.2.2.2))) | (dsimp only; exact Kd.own_blk (Kd.N_away HO_11.out (fun _ hk => hk.2.2.2.2)))) _).trans (((cell_far (p := ⟨gb162, _, none⟩) (by first | exact Kd.own_blk (Kd.N_away HO_11.out (fun _ hk => hk.2.2.2.2)) | (rw [add_block]; exact Kd.own_blk (Kd.N_away HO_11.out (fun _ hk => hk.2.2.2.2))) | (show (Addr.add _ _).block ≠ _; rw [add_block]; exact Kd.own_blk (Kd.N_away HO_11.out (fun _ hk => hk.2.2.2.2))) | (dsimp only; exact Kd.own_blk (Kd.N_away HO_11.out (fun _ hk => hk.2.2.2.2)))) _).trans (((cell_far (p := ⟨gb162, _, none⟩) (by first | exact Kd.own_blk (Kd.N_away HO_11.out (fun _ hk => hk.2.2.2.2)) | (rw [add_block]; exact Kd.own_blk (Kd.N_away HO_11.out (fun _ hk => hk.2.2.2.2))) | (show (Addr.add _ _).block ≠ _; rw [add_block]; exact Kd.own_blk (Kd.N_away HO_11.out (fun _ hk => hk.2.2.2.2))) | (dsimp only; exact Kd.own_blk (Kd.N_away HO_11.out (fun _ hk => hk.2.2.2.2)))) _).trans (hHeld.2.2.2.1)))))))), ((cell_far (p := ⟨gb162, _, none⟩) (by first | exact Kd.own_blk (Kd.N_away HO_11.out (fun _ hk => hk.2.2.2.2)) | (rw [add_block]; exact Kd.own_blk (Kd.N_away HO_11.out (fun _ hk => hk.2.2.2.2))) | (show (Addr.add _ _).block ≠ _; rw [add_block]; exact Kd.own_blk (Kd.N_away HO_11.out (fun _ hk => hk.2.2.2.2))) | (dsimp only; exact Kd.own_blk (Kd.N_away HO_11.out (fun _ hk => hk.2.2.2.2)))) _).trans (((cell_far (p := ⟨gb162, _, none⟩) (by first | exact Kd.own_blk (Kd.N_away HO_11.out (fun _ hk => hk.2.2.2.2)) | (rw [add_block]; exact Kd.own_blk (Kd.N_away HO_11.out (fun _ hk => hk.2.2.2.2))) | (show (Addr.add _ _).block ≠ _; rw [add_block]; exact Kd.own_blk (Kd.N_away HO_11.out (fun _ hk => hk.2.2.2.2))) | (dsimp only; exact Kd.own_blk (Kd.N_away HO_11.out (fun _ hk => hk.2.2.2.2)))) _).trans (((cell_far (p := ⟨gb162, _, none⟩) (by first | exact Kd.own_blk (Kd.N_away HO_11.out (fun _ hk => hk.2.2.2.2)) | (rw [add_block]; exact Kd.own_blk (Kd.N_away HO_11.out (fun _ hk => hk.2.2.2.2))) | (show (Addr.add _ _).block ≠ _; rw [add_block]; exact Kd.own_blk (Kd.N_away HO_11.out (fun _ hk => hk.2.2.2.2))) | (dsimp only; exact Kd.own_blk (Kd.N_away HO_11.out (fun _ hk => hk.2.2.2.2)))) _).trans (((cell_far (p := ⟨gb162, _, none⟩) (by first | exact Kd.own_blk (Kd.N_away HO_11.out (fun _ hk => hk.2.2.2.2)) | (rw [add_block]; exact Kd.own_blk (Kd.N_away HO_11.out (fun _ hk => hk.2.2.2.2))) | (show (Addr.add _ _).block ≠ _; rw [add_block]; exact Kd.own_blk (Kd.N_away HO_11.out (fun _ hk => hk.2.2.2.2))) | (dsimp only; exact Kd.own_blk (Kd.N_away HO_11.out (fun _ hk => hk.2.2.2.2)))) _).trans (hHeld.2.2.2.2.1)))))))), ((cell_far (p := ⟨gb162, _, none⟩) (by first | exact Kd.own_blk (Kd.N_away HO_11.out (fun _ hk => hk.2.2.2.2)) | (rw [add_block]; exact Kd.own_blk (Kd.N_away HO_11.out (fun _ hk => hk.2.2.2.2))) | (show (Addr.add _ _).block ≠ _; rw [add_block]; exact Kd.own_blk (Kd.N_away HO_11.out (fun _ hk => hk.2.2.2.2))) | (dsimp only; exact Kd.own_blk (Kd.N_away HO_11.out (fun _ hk => hk.2.2.2.2)))) _).trans (((cell_far (p := ⟨gb162, _, none⟩) (by first | exact Kd.own_blk (Kd.N_away HO_11.out (fun _ hk => hk.2.2.2.2)) | (rw [add_block]; exact Kd.own_blk (Kd.N_away HO_11.out (fun _ hk => hk.2.2.2.2))) | (show (Addr.add _ _).block ≠ _; rw [add_block]; exact Kd.own_blk (Kd.N_away HO_11.out (fun _ hk => hk.2.2.2.2))) | (dsimp only; exact Kd.own_blk (Kd.N_away HO_11.out (fun _ hk => hk.2.2.2.2)))) _).trans (((cell_far (p := ⟨gb162, _, none⟩) (by first | exact Kd.own_blk (Kd.N_away HO_11.out (fun _ hk => hk.2.2.2.2)) | (rw [add_block]; exact Kd.own_blk (Kd.N_away HO_11.out (fun _ hk => hk.2.2.2.2))) | (show (Addr.add _ _).block ≠ _; rw [add_block]; exact Kd.own_blk (Kd.N_away HO_11.out (fun _ hk => hk.2.2.2.2))) | (dsimp only; exact Kd.own_blk (Kd.N_away HO_11.out (fun _ hk => hk.2.2.2.2)))) _).trans (((cell_far (p := ⟨gb162, _, none⟩) (by first | exact Kd.own_blk (Kd.N_away HO_11.out (fun _ hk => hk.2.2.2.2)) | (rw [add_block]; exact Kd.own_blk (Kd.N_away HO_11.out (fun _ hk => hk.2.2.2.2))) | (show (Addr.add _ _).block ≠ _; rw [add_block]; exact Kd.own_blk (Kd.N_away HO_11.out (fun _ hk => hk.2.2.2.2))) | (dsimp only; exact Kd.own_blk (Kd.N_away HO_11.out (fun _ hk => hk.2.2.2.2)))) _).trans (hHeld.2.2.2.2.2.1)))))))), ((cell_far (p := ⟨gb162, _, none⟩) (by first | exact Kd.own_blk (Kd.N_away HO_11.out (fun _ hk => hk.2.2.2.2)) | (rw [add_block]; exact Kd.own_blk (Kd.N_away HO_11.out (fun _ hk => hk.2.2.2.2))) | (show (Addr.add _ _).block ≠ _; rw [add_block]; exact Kd.own_blk (Kd.N_away HO_11.out (fun _ hk => hk.2.2.2.2))) | (dsimp only; exact Kd.own_blk (Kd.N_away HO_11.out (fun _ hk => hk.2.2.2.2)))) _).trans (((cell_far (p := ⟨gb162, _, none⟩) (by first | exact Kd.own_blk (Kd.N_away HO_11.out (fun _ hk => hk.2.2.2.2)) | (rw [add_block]; exact Kd.own_blk (Kd.N_away HO_11.out (fun _ hk => hk.2.2.2.2))) | (show (Addr.add _ _).block ≠ _; rw [add_block]; exact Kd.own_blk (Kd.N_away HO_11.out (fun _ hk => hk.2.2.2.2))) | (dsimp only; exact Kd.own_blk (Kd.N_away HO_11.out (fun _ hk => hk.2.2.2.2)))) _).trans (((cell_far (p := ⟨gb162, _, none⟩) (by first | exact Kd.own_blk (Kd.N_away HO_11.out (fun _ hk => hk.2.2.2.2)) | (rw [add_block]; exact Kd.own_blk (Kd.N_away HO_11.out (fun _ hk => hk.2.2.2.2))) | (show (Addr.add _ _).block ≠ _; rw [add_block]; exact Kd.own_blk (Kd.N_away HO_11.out (fun _ hk => hk.2.2.2.2))) | (dsimp only; exact Kd.own_blk (Kd.N_away HO_11.out (fun _ hk => hk.2.2.2.2)))) _).trans (((cell_far (p := ⟨gb162, _, none⟩) (by first | exact Kd.own_blk (Kd.N_away HO_11.out (fun _ hk => hk.2.2.2.2)) | (rw [add_block]; exact Kd.own_blk (Kd.N_away HO_11.out (fun _ hk => hk.2.2.2.2))) | (show (Addr.add _ _).block ≠ _; rw [add_block]; exact Kd.own_blk (Kd.N_away HO_11.out (fun _ hk => hk.2.2.2.2))) | (dsimp only; exact Kd.own_blk (Kd.N_away HO_11.out (fun _ hk => hk.2.2.2.2)))) _).trans (hHeld.2.2.2.2.2.2.1)))))))), ((cell_far (p := ⟨gb162, _, none⟩) (by first | exact Kd.own_blk (Kd.N_away HO_11.out (fun _ hk => hk.2.2.2.2)) | (rw [add_block]; exact Kd.own_blk (Kd.N_away HO_11.out (fun _ hk => hk.2.2.2.2))) | (show (Addr.add _ _).block ≠ _; rw [add_block]; exact Kd.own_blk (Kd.N_away HO_11.out (fun _ hk => hk.2.2.2.2))) | (dsimp only; exact Kd.own_blk (Kd.N_away HO_11.out (fun _ hk => hk.2.2.2.2)))) _).trans (((cell_far (p := ⟨gb162, _, none⟩) (by first | exact Kd.own_blk (Kd.N_away HO_11.out (fun _ hk => hk.2.2.2.2)) | (rw [add_block]; exact Kd.own_blk (Kd.N_away HO_11.out (fun _ hk => hk.2.2.2.2))) | (show (Addr.add _ _).block ≠ _; rw [add_block]; exact Kd.own_blk (Kd.N_away HO_11.out (fun _ hk => hk.2.2.2.2))) | (dsimp only; exact Kd.own_blk (Kd.N_away HO_11.out (fun _ hk => hk.2.2.2.2)))) _).trans (((cell_far (p := ⟨gb162, _, none⟩) (by first | exact Kd.own_blk (Kd.N_away HO_11.out (fun _ hk => hk.2.2.2.2)) | (rw [add_block]; exact Kd.own_blk (Kd.N_away HO_11.out (fun _ hk => hk.2.2.2.2))) | (show (Addr.add _ _).block ≠ _; rw [add_block]; exact Kd.own_blk (Kd.N_away HO_11.out (fun _ hk => hk.2.2.2.2))) | (dsimp only; exact Kd.own_blk (Kd.N_away HO_11.out (fun _ hk => hk.2.2.2.2)))) _).trans (((cell_far (p := ⟨gb162, _, none⟩) (by first | exact Kd.own_blk (Kd.N_away HO_11.out (fun _ hk => hk.2.2.2.2)) | (rw [add_block]; exact Kd.own_blk (Kd.N_away HO_11.out (fun _ hk => hk.2.2.2.2))) | (show (Addr.add _ _).block ≠ _; rw [add_block]; exact Kd.own_blk (Kd.N_away HO_11.out (fun _ hk => hk.2.2.2.2))) | (dsimp only; exact Kd.own_blk (Kd.N_away HO_11.out (fun _ hk => hk.2.2.2.2)))) _).trans (hHeld.2.2.2.2.2.2.2))))))))⟩ (fun hHeld => ?_)
                   clear hK K
                   refine done_ (done_of HT_.out (by kernel_rfl)) ?_
                   try go_wp2
                   have n0_ : Aside0 (Kd.N k58 58 ((((w139.setCell ⟨gb162, 0, none⟩ (.bool t154)).setCell ⟨gb162, 1, none⟩ (.slice Ao141 t155.length co141)).setCell ⟨gb162, 2, none⟩ (.bool t158)).setCell ⟨gb162, 3, none⟩ (.slice Ao144 t159.length co144)) w.heap.size (fun k_ => k_ ≠ gb101 ∧ k_ ≠ gb102 ∧ k_ ≠ gb103 ∧ k_ ≠ gb104 ∧ k_ ≠ gb162) (.slice (some ad152) x11_3.length co136) x11_3) := ⟨by (with_reducible repeat (first | apply Kd.N_alloc | apply Kd.N_drewN | apply Kd.N_drew)); exact Kd.N_mono (Kd.N_far (p := ⟨gb162, 3, none⟩) (Kd.N_far (p := ⟨gb162, 2, none⟩) (Kd.N_far (p := ⟨gb162, 1, none⟩) (Kd.N_far (p := ⟨gb162, 0, none⟩) (Kd.N_mono HO_11.out (fun k_ hk => (⟨hk, hk.2.2.2.2⟩ : _ ∧ k_ ≠ gb162))) (fun _ hk => hk.2) (.bool t154)) (fun _ hk => hk.2) (.slice Ao141 t155.length co141)) (fun _ hk => hk.2) (.bool t158)) (fun _ hk => hk.2) (.slice Ao144 t159.length co144)) (fun _ hk => ⟨hk.1.1, ⟨hk.1.2.1, ⟨hk.1.2.2.1, ⟨hk.1.2.2.2.1, hk.1.2.2.2.2⟩⟩⟩⟩)⟩
                   have n1_ : Aside0 (Kd.V (Kd.int .i64) 3 ((((w139.setCell ⟨gb162, 0, none⟩ (.bool t154)).setCell ⟨gb162, 1, none⟩ (.slice Ao141 t155.length co141)).setCell ⟨gb162, 2, none⟩ (.bool t158)).setCell ⟨gb162, 3, none⟩ (.slice Ao144 t159.length co144)) w.heap.size (fun k_ => some k_ ≠ (.slice (some ad152) x11_3.length co136 : Value).ownBlock ∧ k_ ≠ gb101 ∧ k_ ≠ gb102 ∧ k_ ≠ gb103 ∧ k_ ≠ gb104 ∧ k_ ≠ gb162) (.slice A152_1 ((rd_T58 x11_3 x13_2).f0.f1).length c152_1) ((rd_T58 x11_3 x13_2).f0.f1)) := ⟨by (with_reducible repeat (first | apply Kd.V_alloc | apply Kd.V_drewN | apply Kd.V_drew)); exact Kd.V_mono (Kd.V_far (p := ⟨gb162, 3, none⟩) (Kd.V_far (p := ⟨gb162, 2, none⟩) (Kd.V_far (p := ⟨gb162, 1, none⟩) (Kd.V_far (p := ⟨gb162, 0, none⟩) (Kd.V_mono HL152_1.out (fun k_ hk => (⟨hk, hk.2.2.2.2.2⟩ : _ ∧ k_ ≠ gb162))) (fun _ hk => hk.2) (.bool t154)) (fun _ hk => hk.2) (.slice Ao141 t155.length co141)) (fun _ hk => hk.2) (.bool t158)) (fun _ hk => hk.2) (.slice Ao144 t159.length co144)) (fun _ hk => ⟨hk.1.1, ⟨hk.1.2.1, ⟨hk.1.2.2.1, ⟨hk.1.2.2.2.1, ⟨hk.1.2.2.2.2.1, hk.1.2.2.2.2.2⟩⟩⟩⟩⟩)⟩
                   have n2_ : Aside0 (Kd.V (Kd.int .i64) 3 ((((w139.setCell ⟨gb162, 0, none⟩ (.bool t154)).setCell ⟨gb162, 1, none⟩ (.slice Ao141 t155.length co141)).setCell ⟨gb162, 2, none⟩ (.bool t158)).setCell ⟨gb162, 3, none⟩ (.slice Ao144 t159.length co144)) w.heap.size (fun k_ => some k_ ≠ (.slice (some ad152) x11_3.length co136 : Value).ownBlock ∧ k_ ≠ gb101 ∧ k_ ≠ gb102 ∧ k_ ≠ gb103 ∧ k_ ≠ gb104 ∧ k_ ≠ gb162) (.slice A152_3 ((rd_T58 x11_3 x13_2).f1.f1).length c152_3) ((rd_T58 x11_3 x13_2).f1.f1)) := ⟨by (with_reducible repeat (first | apply Kd.V_alloc | apply Kd.V_drewN | apply Kd.V_drew)); exact Kd.V_mono (Kd.V_far (p := ⟨gb162, 3, none⟩) (Kd.V_far (p := ⟨gb162, 2, none⟩) (Kd.V_far (p := ⟨gb162, 1, none⟩) (Kd.V_far (p := ⟨gb162, 0, none⟩) (Kd.V_mono HL152_3.out (fun k_ hk => (⟨hk, hk.2.2.2.2.2⟩ : _ ∧ k_ ≠ gb162))) (fun _ hk => hk.2) (.bool t154)) (fun _ hk => hk.2) (.slice Ao141 t155.length co141)) (fun _ hk => hk.2) (.bool t158)) (fun _ hk => hk.2) (.slice Ao144 t159.length co144)) (fun _ hk => ⟨hk.1.1, ⟨hk.1.2.1, ⟨hk.1.2.2.1, ⟨hk.1.2.2.2.1, ⟨hk.1.2.2.2.2.1, hk.1.2.2.2.2.2⟩⟩⟩⟩⟩)⟩
                   have n3_ : Aside0 (Kd.V (Kd.int .i64) 3 ((((w139.setCell ⟨gb162, 0, none⟩ (.bool t154)).setCell ⟨gb162, 1, none⟩ (.slice Ao141 t155.length co141)).setCell ⟨gb162, 2, none⟩ (.bool t158)).setCell ⟨gb162, 3, none⟩ (.slice Ao144 t159.length co144)) w.heap.size (fun k_ => some k_ ≠ (.slice (some ad152) x11_3.length co136 : Value).ownBlock ∧ k_ ≠ gb101 ∧ k_ ≠ gb102 ∧ k_ ≠ gb103 ∧ k_ ≠ gb104 ∧ k_ ≠ gb162) (.slice A153_1 ((rd_T58 x11_3 x14_3).f0.f1).length c153_1) ((rd_T58 x11_3 x14_3).f0.f1)) := ⟨by (with_reducible repeat (first | apply Kd.V_alloc | apply Kd.V_drewN | apply Kd.V_drew)); exact Kd.V_mono (Kd.V_far (p := ⟨gb162, 3, none⟩) (Kd.V_far (p := ⟨gb162, 2, none⟩) (Kd.V_far (p := ⟨gb162, 1, none⟩) (Kd.V_far (p := ⟨gb162, 0, none⟩) (Kd.V_mono HL153_1.out (fun k_ hk => (⟨hk, hk.2.2.2.2.2⟩ : _ ∧ k_ ≠ gb162))) (fun _ hk => hk.2) (.bool t154)) (fun _ hk => hk.2) (.slice Ao141 t155.length co141)) (fun _ hk => hk.2) (.bool t158)) (fun _ hk => hk.2) (.slice Ao144 t159.length co144)) (fun _ hk => ⟨hk.1.1, ⟨hk.1.2.1, ⟨hk.1.2.2.1, ⟨hk.1.2.2.2.1, ⟨hk.1.2.2.2.2.1, hk.1.2.2.2.2.2⟩⟩⟩⟩⟩)⟩
                   have n4_ : Aside0 (Kd.V (Kd.int .i64) 3 ((((w139.setCell ⟨gb162, 0, none⟩ (.bool t154)).setCell ⟨gb162, 1, none⟩ (.slice Ao141 t155.length co141)).setCell ⟨gb162, 2, none⟩ (.bool t158)).setCell ⟨gb162, 3, none⟩ (.slice Ao144 t159.length co144)) w.heap.size (fun k_ => some k_ ≠ (.slice (some ad152) x11_3.length co136 : Value).ownBlock ∧ k_ ≠ gb101 ∧ k_ ≠ gb102 ∧ k_ ≠ gb103 ∧ k_ ≠ gb104 ∧ k_ ≠ gb162) (.slice A153_3 ((rd_T58 x11_3 x14_3).f1.f1).length c153_3) ((rd_T58 x11_3 x14_3).f1.f1)) := ⟨by (with_reducible repeat (first | apply Kd.V_alloc | apply Kd.V_drewN | apply Kd.V_drew)); exact Kd.V_mono (Kd.V_far (p := ⟨gb162, 3, none⟩) (Kd.V_far (p := ⟨gb162, 2, none⟩) (Kd.V_far (p := ⟨gb162, 1, none⟩) (Kd.V_far (p := ⟨gb162, 0, none⟩) (Kd.V_mono HL153_3.out (fun k_ hk => (⟨hk, hk.2.2.2.2.2⟩ : _ ∧ k_ ≠ gb162))) (fun _ hk => hk.2) (.bool t154)) (fun _ hk => hk.2) (.slice Ao141 t155.length co141)) (fun _ hk => hk.2) (.bool t158)) (fun _ hk => hk.2) (.slice Ao144 t159.length co144)) (fun _ hk => ⟨hk.1.1, ⟨hk.1.2.1, ⟨hk.1.2.2.1, ⟨hk.1.2.2.2.1, ⟨hk.1.2.2.2.2.1, hk.1.2.2.2.2.2⟩⟩⟩⟩⟩)⟩
                   have n5_ : Aside0 (Kd.V (Kd.int .i64) 3 ((((w139.setCell ⟨gb162, 0, none⟩ (.bool t154)).setCell ⟨gb162, 1, none⟩ (.slice Ao141 t155.length co141)).setCell ⟨gb162, 2, none⟩ (.bool t158)).setCell ⟨gb162, 3, none⟩ (.slice Ao144 t159.length co144)) w.heap.size (fun k_ => some k_ ≠ (.slice (some ad152) x11_3.length co136 : Value).ownBlock ∧ k_ ≠ gb101 ∧ k_ ≠ gb102 ∧ k_ ≠ gb103 ∧ k_ ≠ gb104 ∧ k_ ≠ gb162) (.slice Ao141 t155.length co141) t155) := ⟨by (with_reducible repeat (first | apply Kd.V_alloc | apply Kd.V_drewN | apply Kd.V_drew)); exact Kd.V_mono (Kd.V_far (p := ⟨gb162, 3, none⟩) (Kd.V_far (p := ⟨gb162, 2, none⟩) (Kd.V_far (p := ⟨gb162, 1, none⟩) (Kd.V_far (p := ⟨gb162, 0, none⟩) (Kd.V_mono HO157.out (fun k_ hk => (⟨hk, hk.2.2.2.2.2⟩ : _ ∧ k_ ≠ gb162))) (fun _ hk => hk.2) (.bool t154)) (fun _ hk => hk.2) (.slice Ao141 t155.length co141)) (fun _ hk => hk.2) (.bool t158)) (fun _ hk => hk.2) (.slice Ao144 t159.length co144)) (fun _ hk => ⟨hk.1.1, ⟨hk.1.2.1, ⟨hk.1.2.2.1, ⟨hk.1.2.2.2.1, ⟨hk.1.2.2.2.2.1, hk.1.2.2.2.2.2⟩⟩⟩⟩⟩)⟩
                   have n6_ : Aside0 (Kd.V (Kd.int .i64) 3 ((((w139.setCell ⟨gb162, 0, none⟩ (.bool t154)).setCell ⟨gb162, 1, none⟩ (.slice Ao141 t155.length co141)).setCell ⟨gb162, 2, none⟩ (.bool t158)).setCell ⟨gb162, 3, none⟩ (.slice Ao144 t159.length co144)) w.heap.size (fun k_ => some k_ ≠ (.slice (some ad152) x11_3.length co136 : Value).ownBlock ∧ k_ ≠ gb101 ∧ k_ ≠ gb102 ∧ k_ ≠ gb103 ∧ k_ ≠ gb104 ∧ k_ ≠ gb162) (.slice Ao144 t159.length co144) t159) := ⟨by (with_reducible repeat (first | apply Kd.V_alloc | apply Kd.V_drewN | apply Kd.V_drew)); exact Kd.V_mono (Kd.V_far (p := ⟨gb162, 3, none⟩) (Kd.V_far (p := ⟨gb162, 2, none⟩) (Kd.V_far (p := ⟨gb162, 1, none⟩) (Kd.V_far (p := ⟨gb162, 0, none⟩) (Kd.V_mono HO161.out (fun k_ hk => (⟨hk, hk.2.2.2.2.2⟩ : _ ∧ k_ ≠ gb162))) (fun _ hk => hk.2) (.bool t154)) (fun _ hk => hk.2) (.slice Ao141 t155.length co141)) (fun _ hk => hk.2) (.bool t158)) (fun _ hk => hk.2) (.slice Ao144 t159.length co144)) (fun _ hk => ⟨hk.1.1, ⟨hk.1.2.1, ⟨hk.1.2.2.1, ⟨hk.1.2.2.2.1, ⟨hk.1.2.2.2.2.1, hk.1.2.2.2.2.2⟩⟩⟩⟩⟩)⟩
                   have n7_ : Aside0 (((((w139.setCell ⟨gb162, 0, none⟩ (.bool t154)).setCell ⟨gb162, 1, none⟩ (.slice Ao141 t155.length co141)).setCell ⟨gb162, 2, none⟩ (.bool t158)).setCell ⟨gb162, 3, none⟩ (.slice Ao144 t159.length co144)).heap[gb101]? = some (.cells #[.int .i64 a0_0, .int .i64 a0_1] 23 (0, 0))) := ⟨by (with_reducible repeat first | apply blk_drewN | apply blk_drew | apply blk_alloc); refine blk_far ?_ NB101_162.out _; (with_reducible repeat first | apply blk_drewN | apply blk_drew | apply blk_alloc); refine blk_far ?_ NB101_162.out _; (with_reducible repeat first | apply blk_drewN | apply blk_drew | apply blk_alloc); refine blk_far ?_ NB101_162.out _; (with_reducible repeat first | apply blk_drewN | apply blk_drew | apply blk_alloc); refine blk_far ?_ NB101_162.out _; (with_reducible repeat first | apply blk_drewN | apply blk_drew | apply blk_alloc); exact BK101.out⟩
                   have n8_ : Aside0 (((((w139.setCell ⟨gb162, 0, none⟩ (.bool t154)).setCell ⟨gb162, 1, none⟩ (.slice Ao141 t155.length co141)).setCell ⟨gb162, 2, none⟩ (.bool t158)).setCell ⟨gb162, 3, none⟩ (.slice Ao144 t159.length co144)).heap[gb102]? = some (.cells #[.int .i64 a1_0, .int .i64 a1_1] 23 (0, 0))) := ⟨by (with_reducible repeat first | apply blk_drewN | apply blk_drew | apply blk_alloc); refine blk_far ?_ NB102_162.out _; (with_reducible repeat first | apply blk_drewN | apply blk_drew | apply blk_alloc); refine blk_far ?_ NB102_162.out _; (with_reducible repeat first | apply blk_drewN | apply blk_drew | apply blk_alloc); refine blk_far ?_ NB102_162.out _; (with_reducible repeat first | apply blk_drewN | apply blk_drew | apply blk_alloc); refine blk_far ?_ NB102_162.out _; (with_reducible repeat first | apply blk_drewN | apply blk_drew | apply blk_alloc); exact BK102.out⟩
                   have n9_ : Aside0 (((((w139.setCell ⟨gb162, 0, none⟩ (.bool t154)).setCell ⟨gb162, 1, none⟩ (.slice Ao141 t155.length co141)).setCell ⟨gb162, 2, none⟩ (.bool t158)).setCell ⟨gb162, 3, none⟩ (.slice Ao144 t159.length co144)).heap[gb103]? = some (.cells #[.int .i64 a2_0, .int .i64 a2_1] 23 (0, 0))) := ⟨by (with_reducible repeat first | apply blk_drewN | apply blk_drew | apply blk_alloc); refine blk_far ?_ NB103_162.out _; (with_reducible repeat first | apply blk_drewN | apply blk_drew | apply blk_alloc); refine blk_far ?_ NB103_162.out _; (with_reducible repeat first | apply blk_drewN | apply blk_drew | apply blk_alloc); refine blk_far ?_ NB103_162.out _; (with_reducible repeat first | apply blk_drewN | apply blk_drew | apply blk_alloc); refine blk_far ?_ NB103_162.out _; (with_reducible repeat first | apply blk_drewN | apply blk_drew | apply blk_alloc); exact BK103.out⟩
                   have n10_ : Aside0 (((((w139.setCell ⟨gb162, 0, none⟩ (.bool t154)).setCell ⟨gb162, 1, none⟩ (.slice Ao141 t155.length co141)).setCell ⟨gb162, 2, none⟩ (.bool t158)).setCell ⟨gb162, 3, none⟩ (.slice Ao144 t159.length co144)).heap[gb104]? = some (.cells #[.int .i64 a3_0, .int .i64 a3_1] 23 (0, 0))) := ⟨by (with_reducible repeat first | apply blk_drewN | apply blk_drew | apply blk_alloc); refine blk_far ?_ NB104_162.out _; (with_reducible repeat first | apply blk_drewN | apply blk_drew | apply blk_alloc); refine blk_far ?_ NB104_162.out _; (with_reducible repeat first | apply blk_drewN | apply blk_drew | apply blk_alloc); refine blk_far ?_ NB104_162.out _; (with_reducible repeat first | apply blk_drewN | apply blk_drew | apply blk_alloc); refine blk_far ?_ NB104_162.out _; (with_reducible repeat first | apply blk_drewN | apply blk_drew | apply blk_alloc); exact BK104.out⟩
                   have n11_ : Aside0 (((((w139.setCell ⟨gb162, 0, none⟩ (.bool t154)).setCell ⟨gb162, 1, none⟩ (.slice Ao141 t155.length co141)).setCell ⟨gb162, 2, none⟩ (.bool t158)).setCell ⟨gb162, 3, none⟩ (.slice Ao144 t159.length co144)).heap[gb162]? = some (.cells #[.bool t154, .slice Ao141 t155.length co141, .bool t158, .slice Ao144 t159.length co144] 58 (0, 0))) := ⟨by (with_reducible repeat first | apply blk_drewN | apply blk_drew | apply blk_alloc); refine blk_put (cs := #[.bool t154, .slice Ao141 t155.length co141, .bool t158, .slice none 0 0]) ?_ 3 _ rfl; (with_reducible repeat first | apply blk_drewN | apply blk_drew | apply blk_alloc); refine blk_put (cs := #[.bool t154, .slice Ao141 t155.length co141, .bool false, .slice none 0 0]) ?_ 2 _ rfl; (with_reducible repeat first | apply blk_drewN | apply blk_drew | apply blk_alloc); refine blk_put (cs := #[.bool t154, .slice none 0 0, .bool false, .slice none 0 0]) ?_ 1 _ rfl; (with_reducible repeat first | apply blk_drewN | apply blk_drew | apply blk_alloc); refine blk_put (cs := #[.bool false, .slice none 0 0, .bool false, .slice none 0 0]) ?_ 0 _ rfl; (with_reducible repeat first | apply blk_drewN | apply blk_drew | apply blk_alloc); exact BK162.out⟩
                   have n12_ : Aside0 (Below w.heap.size w ((((w139.setCell ⟨gb162, 0, none⟩ (.bool t154)).setCell ⟨gb162, 1, none⟩ (.slice Ao141 t155.length co141)).setCell ⟨gb162, 2, none⟩ (.bool t158)).setCell ⟨gb162, 3, none⟩ (.slice Ao144 t159.length co144))) := ⟨l_ HB⟩
                   generalize ((((w139.setCell ⟨gb162, 0, none⟩ (.bool t154)).setCell ⟨gb162, 1, none⟩ (.slice Ao141 t155.length co141)).setCell ⟨gb162, 2, none⟩ (.bool t158)).setCell ⟨gb162, 3, none⟩ (.slice Ao144 t159.length co144)) = w146 at n0_ n1_ n2_ n3_ n4_ n5_ n6_ n7_ n8_ n9_ n10_ n11_ n12_ ⊢
                   have HO_11 := n0_
                   have HL152_1 := n1_
                   have HL152_3 := n2_
                   have HL153_1 := n3_
                   have HL153_3 := n4_
                   have HO157 := n5_
                   have HO161 := n6_
                   have BK101 := n7_
                   have BK102 := n8_
                   have BK103 := n9_
                   have BK104 := n10_
                   have BK162 := n11_
                   have HB := n12_
                   clear n0_ n1_ n2_ n3_ n4_ n5_ n6_ n7_ n8_ n9_ n10_ n11_ n12_
                   replace HO_11 := A_ (Kd.N_drew HO_11.out)
                   replace HL152_1 := A_ (Kd.V_drew HL152_1.out)
                   replace HL152_3 := A_ (Kd.V_drew HL152_3.out)
                   replace HL153_1 := A_ (Kd.V_drew HL153_1.out)
                   replace HL153_3 := A_ (Kd.V_drew HL153_3.out)
                   replace HO157 := A_ (Kd.V_drew HO157.out)
                   replace HO161 := A_ (Kd.V_drew HO161.out)
                   replace BK101 := A_ (blk_drew BK101.out)
                   replace BK102 := A_ (blk_drew BK102.out)
                   replace BK103 := A_ (blk_drew BK103.out)
                   replace BK104 := A_ (blk_drew BK104.out)
                   replace BK162 := A_ (blk_drew BK162.out)
                   replace HB := A_ (below_drew1 HB.out)
                   refine start_ (n := 12) (S := fun w' => w'.cell? ⟨gb162, 0, none⟩ = some (.bool t154) ∧ w'.cell? ⟨gb162, 1, none⟩ = some (.slice Ao141 t155.length co141) ∧ w'.cell? ⟨gb162, 2, none⟩ = some (.bool t158) ∧ w'.cell? ⟨gb162, 3, none⟩ = some (.slice Ao144 t159.length co144)) (ds := []) (Array.replicate 12 false) (by kernel_rfl) rfl rfl ⟨(blk_cell BK162.out 0).trans rfl, (blk_cell BK162.out 1).trans rfl, (blk_cell BK162.out 2).trans rfl, (blk_cell BK162.out 3).trans rfl⟩ (fun hHeld => ?_); refine with_tabW cobwebref06_Meets.tab14 cobwebref06_Meets.bits14 (fun HT_ HW_ => ?_)
                   generalize w146.drew = w147 at HO_11 HL152_1 HL152_3 HL153_1 HL153_3 HO157 HO161 BK101 BK102 BK103 BK104 BK162 HB hHeld ⊢
                   refine pureq_ 0 105 HT_ ?_
                   refine pureq_ 1 106 HT_ ?_
                   refine pureq_ 3 108 HT_ ?_
                   refine pureq_ 5 110 HT_ ?_
                   refine takeq_ 2 107 HT_ HW_ hHeld ?_
                   refine takeq_ 4 109 HT_ HW_ hHeld ?_
                   refine takeq_ 6 111 HT_ HW_ hHeld ?_
                   refine oneq_ 7 (some 112) HT_ (fun K hK => ?_)
                   refine goesq_ Try.func31 #[.agg #[.bool t158, .slice Ao144 t159.length co144], .agg #[.bool t158, .slice Ao144 t159.length co144]] ?_
                   with_reducible refine (cobwebref01_Add.calls k3 t158 _ _ t159 t158 _ _ t159 t163 t164 _ ?side1 ?side2 ?side3 ?side4 A133.out).mono ?_
                   (case side1 => exact c_ (Kd.V_reads' HO161.out).2.2)
                   (case side2 => exact (Kd.V_reads' HO161.out).2.1)
                   (case side3 => exact c_ (Kd.V_reads' HO161.out).2.2)
                   (case side4 => exact (Kd.V_reads' HO161.out).2.1)
                   rintro e w148 ⟨v165, rfl, ho0, hb⟩
                   refine ⟨_, rfl, ?_⟩
                   replace HL152_1 := A_ (Kd.V_below (v_ HL152_1.out) hb)
                   replace HL152_3 := A_ (Kd.V_below (v_ HL152_3.out) hb)
                   replace HL153_1 := A_ (Kd.V_below (v_ HL153_1.out) hb)
                   replace HL153_3 := A_ (Kd.V_below (v_ HL153_3.out) hb)
                   replace HO157 := A_ (Kd.V_below (v_ HO157.out) hb)
                   replace HO161 := A_ (Kd.V_below (v_ HO161.out) hb)
                   have HO166 := A_ (Kd.V_lower (Kd.V_mono (ok' := fun k_ => some k_ ≠ (.slice (some ad152) x11_3.length co136 : Value).ownBlock ∧ k_ ≠ gb101 ∧ k_ ≠ gb102 ∧ k_ ≠ gb103 ∧ k_ ≠ gb104 ∧ k_ ≠ gb162) ho0 (fun k_ hk_ => ⟨(Kd.fresh' (Kd.N_lt (n_ HO_11.out)) k_ hk_), (Kd.freshB (b_ BK101) k_ hk_), (Kd.freshB (b_ BK102) k_ hk_), (Kd.freshB (b_ BK103) k_ hk_), (Kd.freshB (b_ BK104) k_ hk_), (Kd.freshB (b_ BK162) k_ hk_)⟩)) (below_size (l_ HB)))
                   replace HO_11 := A_ (Kd.N_below (n_ HO_11.out) hb)
                   replace BK101 := bb_ BK101 hb
                   replace BK102 := bb_ BK102 hb
                   replace BK103 := bb_ BK103 hb
                   replace BK104 := bb_ BK104 hb
                   replace BK162 := bb_ BK162 hb
                   replace HB := st_ HB hb
                   try clear hb ho0
                   obtain ⟨Ao149, co149, eo149⟩ := Kd.V_slice HO166.out
                   (first | subst eo149 | (injection eo149 with f1_ f2_ f3_; have f4_ := f1_.symm; have f5_ := f3_.symm; clear f1_ f2_ f3_; subst f4_; subst f5_))
                   refine hK.out _ _ ⟨(blk_cell BK162.out 0).trans rfl, (blk_cell BK162.out 1).trans rfl, (blk_cell BK162.out 2).trans rfl, (blk_cell BK162.out 3).trans rfl⟩ (fun hHeld => ?_)
                   clear hK K
                   refine normq_ 112 ?_
                   refine pureq_ 8 113 HT_ ?_
                   refine oneq_ 9 (some 114) HT_ (fun K hK => ?_)
                   refine value_ (w1 := ?_) (v := ?_) (by rfl) rfl ?_ ?_
                   rotate_left 2
                   ·go_simp
                    constructor
                    ·rfl
                    ·rfl
                   refine hK.out _ _ ⟨(blk_cell (blk_alloc BK162.out _) 0).trans rfl, (blk_cell (blk_alloc BK162.out _) 1).trans rfl, (blk_cell (blk_alloc BK162.out _) 2).trans rfl, (blk_cell (blk_alloc BK162.out _) 3).trans rfl⟩ (fun hHeld => ?_)
                   clear hK K
                   refine normq_ 114 ?_
                   refine oneq_ 10 (some 115) HT_ (fun K hK => ?_)
                   refine Kd.N_append_step k58 (w0 := w) w.heap.size (by rfl) (.tmp 105) (.tmp 114) 59 58 (.agg #[(.bool false), (.slice none 0 0), (.bool false), (.slice none 0 0)]) 64 rfl Try.underlying59 info58 rfl (by decide) (by omega) (.slice (some ad152) x11_3.length co136) x11_3 (⟨(⟨t154, t155⟩ : S55), (⟨t163, t164⟩ : S55)⟩ : S58) [.bool t154, .slice Ao141 t155.length co141, .bool t163, .slice Ao149 t164.length co149] (fun k_ => k_ ≠ gb101 ∧ k_ ≠ gb102 ∧ k_ ≠ gb103 ∧ k_ ≠ gb104 ∧ k_ ≠ gb162) (fun k_ => ((fun k_ => k_ ≠ gb101 ∧ k_ ≠ gb102 ∧ k_ ≠ gb103 ∧ k_ ≠ gb104 ∧ k_ ≠ gb162)) k_ ∧ some k_ ≠ (.slice (some ad152) x11_3.length co136 : Value).ownBlock) rfl rfl ?aP (fun _ hk => hk) ?aF ?aO ?aB ?aS ?aL ?_
                   (case aP => exact (k58_mkF _ _ (⟨(⟨t154, t155⟩ : S55), (⟨t163, t164⟩ : S55)⟩ : S58) (Kd.V_reads' (Kd.V_mono (ok' := (fun k_ => ((fun k_ => k_ ≠ gb101 ∧ k_ ≠ gb102 ∧ k_ ≠ gb103 ∧ k_ ≠ gb104 ∧ k_ ≠ gb162)) k_ ∧ some k_ ≠ (.slice (some ad152) x11_3.length co136 : Value).ownBlock)) (HO157.out) (fun k_ hk => ⟨⟨hk.2.1, ⟨hk.2.2.1, ⟨hk.2.2.2.1, ⟨hk.2.2.2.2.1, hk.2.2.2.2.2⟩⟩⟩⟩, hk.1⟩))).2.1 (Kd.V_F (Kd.V_mono (ok' := (fun k_ => ((fun k_ => k_ ≠ gb101 ∧ k_ ≠ gb102 ∧ k_ ≠ gb103 ∧ k_ ≠ gb104 ∧ k_ ≠ gb162)) k_ ∧ some k_ ≠ (.slice (some ad152) x11_3.length co136 : Value).ownBlock)) (HO157.out) (fun k_ hk => ⟨⟨hk.2.1, ⟨hk.2.2.1, ⟨hk.2.2.2.1, ⟨hk.2.2.2.2.1, hk.2.2.2.2.2⟩⟩⟩⟩, hk.1⟩))) (Kd.V_reads' (Kd.V_mono (ok' := (fun k_ => ((fun k_ => k_ ≠ gb101 ∧ k_ ≠ gb102 ∧ k_ ≠ gb103 ∧ k_ ≠ gb104 ∧ k_ ≠ gb162)) k_ ∧ some k_ ≠ (.slice (some ad152) x11_3.length co136 : Value).ownBlock)) (HO166.out) (fun k_ hk => ⟨⟨hk.2.1, ⟨hk.2.2.1, ⟨hk.2.2.2.1, ⟨hk.2.2.2.2.1, hk.2.2.2.2.2⟩⟩⟩⟩, hk.1⟩))).2.1 (Kd.V_F (Kd.V_mono (ok' := (fun k_ => ((fun k_ => k_ ≠ gb101 ∧ k_ ≠ gb102 ∧ k_ ≠ gb103 ∧ k_ ≠ gb104 ∧ k_ ≠ gb162)) k_ ∧ some k_ ≠ (.slice (some ad152) x11_3.length co136 : Value).ownBlock)) (HO166.out) (fun k_ hk => ⟨⟨hk.2.1, ⟨hk.2.2.1, ⟨hk.2.2.2.1, ⟨hk.2.2.2.2.1, hk.2.2.2.2.2⟩⟩⟩⟩, hk.1⟩)))))
                   (case aB => exact (l_ HB))
                   (case aF => exact (fun k_ hk => ⟨Kd.freshB (b_ BK101) k_ hk, Kd.freshB (b_ BK102) k_ hk, Kd.freshB (b_ BK103) k_ hk, Kd.freshB (b_ BK104) k_ hk, Kd.freshB (b_ BK162) k_ hk⟩))
                   (case aO => exact (n_ HO_11.out))
                   (case aS => exact (below_size (l_ HB)))
                   (case aL => have := LMc134.out; omega)
                   intro v168 w150 ho hb hg hat
                   rw [← Ny167.out] at ho
                   replace BK101 := A_ (blk_grown (b_ BK101) hg (Kd.N_ne HO_11.out BK101.out (by decide)))
                   replace BK102 := A_ (blk_grown (b_ BK102) hg (Kd.N_ne HO_11.out BK102.out (by decide)))
                   replace BK103 := A_ (blk_grown (b_ BK103) hg (Kd.N_ne HO_11.out BK103.out (by decide)))
                   replace BK104 := A_ (blk_grown (b_ BK104) hg (Kd.N_ne HO_11.out BK104.out (by decide)))
                   replace HL152_1 := A_ (Kd.V_afterv (ok := (fun k_ => k_ ≠ gb101 ∧ k_ ≠ gb102 ∧ k_ ≠ gb103 ∧ k_ ≠ gb104 ∧ k_ ≠ gb162)) (Kd.V_mono (v_ HL152_1.out) (fun _ hk => ⟨⟨hk.2.1, ⟨hk.2.2.1, ⟨hk.2.2.2.1, ⟨hk.2.2.2.2.1, hk.2.2.2.2.2⟩⟩⟩⟩, hk.1⟩)) hg hat)
                   replace HL152_3 := A_ (Kd.V_afterv (ok := (fun k_ => k_ ≠ gb101 ∧ k_ ≠ gb102 ∧ k_ ≠ gb103 ∧ k_ ≠ gb104 ∧ k_ ≠ gb162)) (Kd.V_mono (v_ HL152_3.out) (fun _ hk => ⟨⟨hk.2.1, ⟨hk.2.2.1, ⟨hk.2.2.2.1, ⟨hk.2.2.2.2.1, hk.2.2.2.2.2⟩⟩⟩⟩, hk.1⟩)) hg hat)
                   replace HL153_1 := A_ (Kd.V_afterv (ok := (fun k_ => k_ ≠ gb101 ∧ k_ ≠ gb102 ∧ k_ ≠ gb103 ∧ k_ ≠ gb104 ∧ k_ ≠ gb162)) (Kd.V_mono (v_ HL153_1.out) (fun _ hk => ⟨⟨hk.2.1, ⟨hk.2.2.1, ⟨hk.2.2.2.1, ⟨hk.2.2.2.2.1, hk.2.2.2.2.2⟩⟩⟩⟩, hk.1⟩)) hg hat)
                   replace HL153_3 := A_ (Kd.V_afterv (ok := (fun k_ => k_ ≠ gb101 ∧ k_ ≠ gb102 ∧ k_ ≠ gb103 ∧ k_ ≠ gb104 ∧ k_ ≠ gb162)) (Kd.V_mono (v_ HL153_3.out) (fun _ hk => ⟨⟨hk.2.1, ⟨hk.2.2.1, ⟨hk.2.2.2.1, ⟨hk.2.2.2.2.1, hk.2.2.2.2.2⟩⟩⟩⟩, hk.1⟩)) hg hat)
                   replace HO157 := A_ (Kd.V_afterv (ok := (fun k_ => k_ ≠ gb101 ∧ k_ ≠ gb102 ∧ k_ ≠ gb103 ∧ k_ ≠ gb104 ∧ k_ ≠ gb162)) (Kd.V_mono (v_ HO157.out) (fun _ hk => ⟨⟨hk.2.1, ⟨hk.2.2.1, ⟨hk.2.2.2.1, ⟨hk.2.2.2.2.1, hk.2.2.2.2.2⟩⟩⟩⟩, hk.1⟩)) hg hat)
                   replace HO161 := A_ (Kd.V_afterv (ok := (fun k_ => k_ ≠ gb101 ∧ k_ ≠ gb102 ∧ k_ ≠ gb103 ∧ k_ ≠ gb104 ∧ k_ ≠ gb162)) (Kd.V_mono (v_ HO161.out) (fun _ hk => ⟨⟨hk.2.1, ⟨hk.2.2.1, ⟨hk.2.2.2.1, ⟨hk.2.2.2.2.1, hk.2.2.2.2.2⟩⟩⟩⟩, hk.1⟩)) hg hat)
                   replace BK162 := A_ (blk_grown (b_ BK162) hg (Kd.N_away HO_11.out (fun _ hk => hk.2.2.2.2)))
                   replace HO166 := A_ (Kd.V_afterv (ok := (fun k_ => k_ ≠ gb101 ∧ k_ ≠ gb102 ∧ k_ ≠ gb103 ∧ k_ ≠ gb104 ∧ k_ ≠ gb162)) (Kd.V_mono (v_ HO166.out) (fun _ hk => ⟨⟨hk.2.1, ⟨hk.2.2.1, ⟨hk.2.2.2.1, ⟨hk.2.2.2.2.1, hk.2.2.2.2.2⟩⟩⟩⟩, hk.1⟩)) hg hat)
                   replace HB := A_ (hb)
                   have HO169 := A_ (ho)
                   clear HO_11 ho hb hg hat
                   refine hK.out _ _ ⟨(blk_cell BK162.out 0).trans rfl, (blk_cell BK162.out 1).trans rfl, (blk_cell BK162.out 2).trans rfl, (blk_cell BK162.out 3).trans rfl⟩ (fun hHeld => ?_)
                   clear hK K
                   refine normq_ 115 ?_
                   refine pureq_ 11 11 HT_ ?_
                   refine done_ (done_of HT_.out (by kernel_rfl)) ?_
                   try go_wp2
                   go_roundg k3
                   case measure => have := HJ5.out; have := HK2.out; have := HK3.out; omega
                   case rel => exact ⟨(y167), (wrap64 (x14_3 + 1)), (by first | rfl | (simp; done) | (simp [*]; done)), H', ⟨by have := HJ5.out; have := HK2.out; have := HK3.out; omega⟩, ⟨by (with_reducible repeat (first | apply Kd.N_alloc | apply Kd.N_drewN | apply Kd.N_drew)); exact Kd.N_mono HO169.out (fun _ hk => ⟨hk.1, ⟨hk.2.1, ⟨hk.2.2.1, hk.2.2.2.1⟩⟩⟩)⟩, ⟨b_ BK101⟩, ⟨b_ BK102⟩, ⟨b_ BK103⟩, ⟨b_ BK104⟩, ⟨l_ HB⟩⟩
                  ·rw [if_neg c134] at H
                   exact absurd H (by simp)
                 ·rw [if_neg c131] at H
                  exact absurd H (by simp)
                ·rw [if_neg c130] at H
                 exact absurd H (by simp)
               ·rw [if_neg c129] at H
                exact absurd H (by simp)
              ·rw [if_neg c128] at H
               exact absurd H (by simp)
             ·rw [if_neg c127] at H
              have c127b0 : decide (x14_3 < x13_2) = false := decide_eq_false c127
              clear c127
              have H' := A_ H
              clear H
              go_wp2
              go_roundg k3
              case measure => have := HJ5.out; have := HK2.out; have := HK3.out; omega
              case rel => exact ⟨(x11_3), (wrap64 (x13_2 + 1)), (by first | rfl | (simp; done) | (simp [*]; done)), H', ⟨by have := HJ5.out; have := HK2.out; have := HK3.out; omega⟩, ⟨by (with_reducible repeat (first | apply Kd.N_alloc | apply Kd.N_drewN | apply Kd.N_drew)); exact HO_11.out⟩, ⟨b_ BK101⟩, ⟨b_ BK102⟩, ⟨b_ BK103⟩, ⟨b_ BK104⟩, ⟨l_ HB⟩⟩
          ·rw [if_neg c126] at H
           have c126b0 : decide (x13_2 < (y149.length : Int)) = false := decide_eq_false c126
           clear c126
           have H' := A_ H
           clear H
           go_wp2
           go_loopg [16] k2 (fun kq v16 w' => ∃ (x16_3 : Int), v16 = .int .i64 x16_3 ∧ Aside0 (cobwebref06_Meets.l2 kq a4 x11_2 x16_3 a0_0 a0_1 a1_0 a1_1 a2_0 a2_1 a3_0 a3_1 = some r) ∧ Aside0 (kq ≤ k2) ∧ Aside0 (Kd.N k58 58 w' w.heap.size (fun k_ => k_ ≠ gb101 ∧ k_ ≠ gb102 ∧ k_ ≠ gb103 ∧ k_ ≠ gb104) u11 x11_2) ∧ Aside0 (w'.heap[gb101]? = some (.cells #[.int .i64 a0_0, .int .i64 a0_1] 23 (0, 0))) ∧ Aside0 (w'.heap[gb102]? = some (.cells #[.int .i64 a1_0, .int .i64 a1_1] 23 (0, 0))) ∧ Aside0 (w'.heap[gb103]? = some (.cells #[.int .i64 a2_0, .int .i64 a2_1] 23 (0, 0))) ∧ Aside0 (w'.heap[gb104]? = some (.cells #[.int .i64 a3_0, .int .i64 a3_1] 23 (0, 0))) ∧ Aside0 (Below w.heap.size w w'))
           case atStart => exact ⟨(0), (by first | rfl | (simp; done) | (simp [*]; done)), H', ⟨Nat.le_refl _⟩, ⟨by (with_reducible repeat (first | apply Kd.N_alloc | apply Kd.N_drewN | apply Kd.N_drew)); exact HO_11.out⟩, ⟨b_ BK101⟩, ⟨b_ BK102⟩, ⟨b_ BK103⟩, ⟨b_ BK104⟩, ⟨l_ HB⟩⟩
           case round =>
            clear H'
            try clear c1
            try clear p2
            try clear c3
            try clear p6
            try clear c12
            try clear c13
            try clear c15
            try clear c30
            try clear c31
            try clear p64
            try clear c126
            try clear c126b0
            try clear c127
            try clear c127b0
            try clear c128
            try clear c129
            try clear c130
            try clear c131
            try clear c134
            obtain ⟨x16_3, rfl, HA, HK3, HO_11, BK101, BK102, BK103, BK104, HB⟩ := hrel
            cases gk with
            | zero => exact absurd HA.out (by simp [cobwebref06_Meets.l2])
            | succ k3 =>
             have H := HA.out
             clear HA
             simp only [cobwebref06_Meets.l2] at H
             by_cases c151 : x16_3 < (x11_2.length : Int)
             ·rw [if_pos c151] at H
              have c151b0 : decide (x16_3 < (x11_2.length : Int)) = true := decide_eq_true c151
              clear c151
              by_cases c152 : 0 ≤ x16_3
              ·rw [if_pos c152] at H
               have c152b0 : decide (0 ≤ x16_3) = true := decide_eq_true c152
               clear c152
               replace H := Option.bind_eq_some_iff.mp H
               obtain ⟨⟨t171, t172, t175, t176⟩, A1530, H⟩ := H
               replace H : ((cobwebref06_within.f k3 t171 t172 t175 t176 a2_0 a3_0 a4).bind fun t179 => (if t179 = true then ((cobwebref06_on.f k3 a0_1 a1_1 ((rd_T58 x11_2 x16_3).f0.f0) ((rd_T58 x11_2 x16_3).f0.f1) ((rd_T58 x11_2 x16_3).f1.f0) ((rd_T58 x11_2 x16_3).f1.f1)).bind fun bt181 => ((cobwebref06_within.f k3 bt181.1 bt181.2.1 bt181.2.2.1 bt181.2.2.2 a2_1 a3_1 a4).bind fun t189 => (if t189 = true then (some true) else (cobwebref06_Meets.l2 k3 a4 x11_2 (wrap64 (x16_3 + 1)) a0_0 a0_1 a1_0 a1_1 a2_0 a2_1 a3_0 a3_1)))) else (cobwebref06_Meets.l2 k3 a4 x11_2 (wrap64 (x16_3 + 1)) a0_0 a0_1 a1_0 a1_1 a2_0 a2_1 a3_0 a3_1))) = some r := H
               have A153 := A_ A1530
               clear A1530
               replace H := Option.bind_eq_some_iff.mp H
               obtain ⟨t179, A1540, H⟩ := H
               replace H : (if t179 = true then ((cobwebref06_on.f k3 a0_1 a1_1 ((rd_T58 x11_2 x16_3).f0.f0) ((rd_T58 x11_2 x16_3).f0.f1) ((rd_T58 x11_2 x16_3).f1.f0) ((rd_T58 x11_2 x16_3).f1.f1)).bind fun bt181 => ((cobwebref06_within.f k3 bt181.1 bt181.2.1 bt181.2.2.1 bt181.2.2.2 a2_1 a3_1 a4).bind fun t189 => (if t189 = true then (some true) else (cobwebref06_Meets.l2 k3 a4 x11_2 (wrap64 (x16_3 + 1)) a0_0 a0_1 a1_0 a1_1 a2_0 a2_1 a3_0 a3_1)))) else (cobwebref06_Meets.l2 k3 a4 x11_2 (wrap64 (x16_3 + 1)) a0_0 a0_1 a1_0 a1_1 a2_0 a2_1 a3_0 a3_1)) = some r := H
               have A154 := A_ A1540
               clear A1540
               by_cases c155 : t179 = true
               ·subst c155
                have H1 : ((cobwebref06_on.f k3 a0_1 a1_1 ((rd_T58 x11_2 x16_3).f0.f0) ((rd_T58 x11_2 x16_3).f0.f1) ((rd_T58 x11_2 x16_3).f1.f0) ((rd_T58 x11_2 x16_3).f1.f1)).bind fun bt181 => ((cobwebref06_within.f k3 bt181.1 bt181.2.1 bt181.2.2.1 bt181.2.2.2 a2_1 a3_1 a4).bind fun t189 => (if t189 = true then (some true) else (cobwebref06_Meets.l2 k3 a4 x11_2 (wrap64 (x16_3 + 1)) a0_0 a0_1 a1_0 a1_1 a2_0 a2_1 a3_0 a3_1)))) = some r := by rw [if_pos rfl] at H; exact H
                clear H
                have H := H1
                clear H1
                replace H := Option.bind_eq_some_iff.mp H
                obtain ⟨⟨t181, t182, t185, t186⟩, A1560, H⟩ := H
                replace H : ((cobwebref06_within.f k3 t181 t182 t185 t186 a2_1 a3_1 a4).bind fun t189 => (if t189 = true then (some true) else (cobwebref06_Meets.l2 k3 a4 x11_2 (wrap64 (x16_3 + 1)) a0_0 a0_1 a1_0 a1_1 a2_0 a2_1 a3_0 a3_1))) = some r := H
                have A156 := A_ A1560
                clear A1560
                replace H := Option.bind_eq_some_iff.mp H
                obtain ⟨t189, A1570, H⟩ := H
                replace H : (if t189 = true then (some true) else (cobwebref06_Meets.l2 k3 a4 x11_2 (wrap64 (x16_3 + 1)) a0_0 a0_1 a1_0 a1_1 a2_0 a2_1 a3_0 a3_1)) = some r := H
                have A157 := A_ A1570
                clear A1570
                by_cases c158 : t189 = true
                ·subst c158
                 have H1 : (some true) = some r := by rw [if_pos rfl] at H; exact H
                 clear H
                 have H := H1
                 clear H1
                 obtain rfl := Option.some.inj H
                 obtain ⟨Ao159, co159, eo159⟩ := Kd.N_slice HO_11.out
                 subst eo159
                 try go_wp2
                 replace HO_11 := A_ (Kd.N_drew HO_11.out)
                 replace BK101 := A_ (blk_drew BK101.out)
                 replace BK102 := A_ (blk_drew BK102.out)
                 replace BK103 := A_ (blk_drew BK103.out)
                 replace BK104 := A_ (blk_drew BK104.out)
                 replace HB := A_ (below_drew1 HB.out)
                 have p170 : 0 ≤ (x16_3 : Int) := of_decide_eq_true (by first | (with_reducible assumption) | assumption)
                 have q170 : x16_3 < (x11_2.length : Int) := of_decide_eq_true (by first | (with_reducible assumption) | assumption)
                 obtain ⟨ad170, A170_1, c170_1, A170_3, c170_3, e170, hx170_0, hx170_1, hx170_2, hx170_3, hl170_1, hi170_1, hl170_3, hi170_3⟩ := at_T58 (Kd.N_reads' HO_11.out).2.2 x16_3 p170 q170
                 cases e170
                 obtain ⟨ce170, hce170, hMe170, hcc170⟩ := Kd.N_get HO_11.out z58 x16_3 p170 (by first | exact q170 | exact of_decide_eq_true (by first | (with_reducible assumption) | assumption) | (have e_ := (Kd.N_reads' HO_11.out).1; omega))
                 obtain ⟨ua170_1, uc170_1, ua170_3, uc170_3, rfl, ul170_1, ge170_1, ul170_3, ge170_3⟩ := k58_openF hMe170
                 have hv170_1 := hcc170 1 _ rfl
                 rw [add_field _ _ 1 (by omega)] at hv170_1
                 replace hv170_1 := Option.some.inj (hv170_1.symm.trans hx170_1)
                 injection hv170_1 with hva_ hvn_ hvc_
                 rw [hva_] at ge170_1
                 rw [hvc_] at ul170_1
                 have HL170_1 := A_ (show Kd.V (Kd.int .i64) 3 _ w.heap.size _ _ ((rd_T58 x11_2 x16_3).f0.f1) from Kd.V_mk ul170_1 ge170_1)
                 clear hva_ hvn_ hvc_ ge170_1 ul170_1
                 have hv170_3 := hcc170 3 _ rfl
                 rw [add_field _ _ 3 (by omega)] at hv170_3
                 replace hv170_3 := Option.some.inj (hv170_3.symm.trans hx170_3)
                 injection hv170_3 with hva_ hvn_ hvc_
                 rw [hva_] at ge170_3
                 rw [hvc_] at ul170_3
                 have HL170_3 := A_ (show Kd.V (Kd.int .i64) 3 _ w.heap.size _ _ ((rd_T58 x11_2 x16_3).f1.f1) from Kd.V_mk ul170_3 ge170_3)
                 clear hva_ hvn_ hvc_ ge170_3 ul170_3 hcc170 hce170
                 have HR170_1 := A_ hi170_1
                 have HC170_1 := A_ hl170_1
                 clear hi170_1 hl170_1
                 have HR170_3 := A_ hi170_3
                 have HC170_3 := A_ hl170_3
                 clear hi170_3 hl170_3
                 replace p170 := eq_true p170
                 replace q170 := eq_true q170
                 have p180 : 0 ≤ (x16_3 : Int) := of_decide_eq_true (by first | (with_reducible assumption) | assumption)
                 have q180 : x16_3 < (x11_2.length : Int) := of_decide_eq_true (by first | (with_reducible assumption) | assumption)
                 obtain ⟨ad180, A180_1, c180_1, A180_3, c180_3, e180, hx180_0, hx180_1, hx180_2, hx180_3, hl180_1, hi180_1, hl180_3, hi180_3⟩ := at_T58 (Kd.N_reads' HO_11.out).2.2 x16_3 p180 q180
                 obtain rfl : ad170 = ad180 := (by injection e180)
                 obtain ⟨ce180, hce180, hMe180, hcc180⟩ := Kd.N_get HO_11.out z58 x16_3 p180 (by first | exact q180 | exact of_decide_eq_true (by first | (with_reducible assumption) | assumption) | (have e_ := (Kd.N_reads' HO_11.out).1; omega))
                 obtain ⟨ua180_1, uc180_1, ua180_3, uc180_3, rfl, ul180_1, ge180_1, ul180_3, ge180_3⟩ := k58_openF hMe180
                 have hv180_1 := hcc180 1 _ rfl
                 rw [add_field _ _ 1 (by omega)] at hv180_1
                 replace hv180_1 := Option.some.inj (hv180_1.symm.trans hx180_1)
                 injection hv180_1 with hva_ hvn_ hvc_
                 rw [hva_] at ge180_1
                 rw [hvc_] at ul180_1
                 have HL180_1 := A_ (show Kd.V (Kd.int .i64) 3 _ w.heap.size _ _ ((rd_T58 x11_2 x16_3).f0.f1) from Kd.V_mk ul180_1 ge180_1)
                 clear hva_ hvn_ hvc_ ge180_1 ul180_1
                 have hv180_3 := hcc180 3 _ rfl
                 rw [add_field _ _ 3 (by omega)] at hv180_3
                 replace hv180_3 := Option.some.inj (hv180_3.symm.trans hx180_3)
                 injection hv180_3 with hva_ hvn_ hvc_
                 rw [hva_] at ge180_3
                 rw [hvc_] at ul180_3
                 have HL180_3 := A_ (show Kd.V (Kd.int .i64) 3 _ w.heap.size _ _ ((rd_T58 x11_2 x16_3).f1.f1) from Kd.V_mk ul180_3 ge180_3)
                 clear hva_ hvn_ hvc_ ge180_3 ul180_3 hcc180 hce180
                 have HR180_1 := A_ hi180_1
                 have HC180_1 := A_ hl180_1
                 clear hi180_1 hl180_1
                 have HR180_3 := A_ hi180_3
                 have HC180_3 := A_ hl180_3
                 clear hi180_3 hl180_3
                 replace p180 := eq_true p180
                 replace q180 := eq_true q180
                 refine start_ (n := 32) (S := fun w' => w'.cell? ⟨gb101, 0, none⟩ = some (.int .i64 a0_0) ∧ w'.cell? ⟨gb101, 1, none⟩ = some (.int .i64 a0_1) ∧ w'.cell? ⟨gb102, 0, none⟩ = some (.int .i64 a1_0) ∧ w'.cell? ⟨gb102, 1, none⟩ = some (.int .i64 a1_1) ∧ w'.cell? ⟨gb103, 0, none⟩ = some (.int .i64 a2_0) ∧ w'.cell? ⟨gb103, 1, none⟩ = some (.int .i64 a2_1) ∧ w'.cell? ⟨gb104, 0, none⟩ = some (.int .i64 a3_0) ∧ w'.cell? ⟨gb104, 1, none⟩ = some (.int .i64 a3_1) ∧ w'.cell? (ad170.add ((x16_3).toNat * 4)) = some (.bool ((rd_T58 x11_2 x16_3).f0.f0)) ∧ w'.cell? ⟨(ad170.add ((x16_3).toNat * 4)).block, (ad170.add ((x16_3).toNat * 4)).off + 1, none⟩ = some (.slice A170_1 ((rd_T58 x11_2 x16_3).f0.f1).length c170_1) ∧ w'.cell? ⟨(ad170.add ((x16_3).toNat * 4)).block, (ad170.add ((x16_3).toNat * 4)).off + 2, none⟩ = some (.bool ((rd_T58 x11_2 x16_3).f1.f0)) ∧ w'.cell? ⟨(ad170.add ((x16_3).toNat * 4)).block, (ad170.add ((x16_3).toNat * 4)).off + 3, none⟩ = some (.slice A170_3 ((rd_T58 x11_2 x16_3).f1.f1).length c170_3) ∧ w'.cell? (ad170.add ((x16_3).toNat * 4)) = some (.bool ((rd_T58 x11_2 x16_3).f0.f0)) ∧ w'.cell? ⟨(ad170.add ((x16_3).toNat * 4)).block, (ad170.add ((x16_3).toNat * 4)).off + 1, none⟩ = some (.slice A180_1 ((rd_T58 x11_2 x16_3).f0.f1).length c180_1) ∧ w'.cell? ⟨(ad170.add ((x16_3).toNat * 4)).block, (ad170.add ((x16_3).toNat * 4)).off + 2, none⟩ = some (.bool ((rd_T58 x11_2 x16_3).f1.f0)) ∧ w'.cell? ⟨(ad170.add ((x16_3).toNat * 4)).block, (ad170.add ((x16_3).toNat * 4)).off + 3, none⟩ = some (.slice A180_3 ((rd_T58 x11_2 x16_3).f1.f1).length c180_3)) (ds := []) (Array.replicate 32 false) (by kernel_rfl) rfl rfl ⟨(blk_cell BK101.out 0).trans rfl, (blk_cell BK101.out 1).trans rfl, (blk_cell BK102.out 0).trans rfl, (blk_cell BK102.out 1).trans rfl, (blk_cell BK103.out 0).trans rfl, (blk_cell BK103.out 1).trans rfl, (blk_cell BK104.out 0).trans rfl, (blk_cell BK104.out 1).trans rfl, hx170_0, hx170_1, hx170_2, hx170_3, hx180_0, hx180_1, hx180_2, hx180_3⟩ (fun hHeld => ?_); refine with_tabW cobwebref06_Meets.tab18 cobwebref06_Meets.bits18 (fun HT_ HW_ => ?_)
                 generalize wr.drew = w160 at HO_11 BK101 BK102 BK103 BK104 HB HL170_1 HL170_3 HL180_1 HL180_3 HR170_1 HR170_3 HR180_1 HR180_3 hx170_0 hx170_1 hx170_2 hx170_3 hx180_0 hx180_1 hx180_2 hx180_3 hHeld ⊢
                 refine pureq_ 0 122 HT_ ?_
                 refine pureq_ 2 124 HT_ ?_
                 refine pureq_ 4 126 HT_ ?_
                 refine pureq_ 5 127 HT_ ?_
                 refine pureq_ 6 128 HT_ ?_
                 refine pureq_ 9 131 HT_ ?_
                 refine pureq_ 11 133 HT_ ?_
                 refine pureq_ 13 135 HT_ ?_
                 refine takeq_ 1 123 HT_ HW_ hHeld ?_
                 refine takeq_ 3 125 HT_ HW_ hHeld ?_
                 refine takeq_ 7 129 HT_ HW_ hHeld ?_
                 refine takeq_ 10 132 HT_ HW_ hHeld ?_
                 refine takeq_ 12 134 HT_ HW_ hHeld ?_
                 refine oneq_ 8 (some 130) HT_ (fun K hK => ?_)
                 refine goesq_ Try.func33 #[.int .i64 a0_0, .int .i64 a1_0, .agg #[.bool ((rd_T58 x11_2 x16_3).f0.f0), .slice A170_1 ((rd_T58 x11_2 x16_3).f0.f1).length c170_1, .bool ((rd_T58 x11_2 x16_3).f1.f0), .slice A170_3 ((rd_T58 x11_2 x16_3).f1.f1).length c170_3]] ?_
                 with_reducible refine (cobwebref06_on.calls k3 a0_0 a1_0 ((rd_T58 x11_2 x16_3).f0.f0) _ _ ((rd_T58 x11_2 x16_3).f0.f1) ((rd_T58 x11_2 x16_3).f1.f0) _ _ ((rd_T58 x11_2 x16_3).f1.f1) t171 t172 t175 t176 _ ?side1 ?side2 ?side3 ?side4 A153.out).mono ?_
                 (case side1 => exact c_ HR170_1.out)
                 (case side2 => exact HC170_1.out)
                 (case side3 => exact c_ HR170_3.out)
                 (case side4 => exact HC170_3.out)
                 rintro e w161 ⟨v173, v177, rfl, ho0, ho1, hb⟩
                 have HS8_ := (hb.cell (World.block_lt_of_cell? _ _ (hHeld.2.2.2.2.2.2.2.2.1))).trans (hHeld.2.2.2.2.2.2.2.2.1)
                 have HS9_ := (hb.cell (World.block_lt_of_cell? _ _ (hHeld.2.2.2.2.2.2.2.2.2.1))).trans (hHeld.2.2.2.2.2.2.2.2.2.1)
                 have HS10_ := (hb.cell (World.block_lt_of_cell? _ _ (hHeld.2.2.2.2.2.2.2.2.2.2.1))).trans (hHeld.2.2.2.2.2.2.2.2.2.2.1)
                 have HS11_ := (hb.cell (World.block_lt_of_cell? _ _ (hHeld.2.2.2.2.2.2.2.2.2.2.2.1))).trans (hHeld.2.2.2.2.2.2.2.2.2.2.2.1)
                 have HS12_ := (hb.cell (World.block_lt_of_cell? _ _ (hHeld.2.2.2.2.2.2.2.2.2.2.2.2.1))).trans (hHeld.2.2.2.2.2.2.2.2.2.2.2.2.1)
                 have HS13_ := (hb.cell (World.block_lt_of_cell? _ _ (hHeld.2.2.2.2.2.2.2.2.2.2.2.2.2.1))).trans (hHeld.2.2.2.2.2.2.2.2.2.2.2.2.2.1)
                 have HS14_ := (hb.cell (World.block_lt_of_cell? _ _ (hHeld.2.2.2.2.2.2.2.2.2.2.2.2.2.2.1))).trans (hHeld.2.2.2.2.2.2.2.2.2.2.2.2.2.2.1)
                 have HS15_ := (hb.cell (World.block_lt_of_cell? _ _ (hHeld.2.2.2.2.2.2.2.2.2.2.2.2.2.2.2))).trans (hHeld.2.2.2.2.2.2.2.2.2.2.2.2.2.2.2)
                 refine ⟨_, rfl, ?_⟩
                 replace HL170_1 := A_ (Kd.V_below (v_ HL170_1.out) hb)
                 replace HL170_3 := A_ (Kd.V_below (v_ HL170_3.out) hb)
                 have HO174 := A_ (Kd.V_lower (Kd.V_mono (ok' := fun k_ => some k_ ≠ (.slice (some ad170) x11_2.length co159 : Value).ownBlock ∧ k_ ≠ gb101 ∧ k_ ≠ gb102 ∧ k_ ≠ gb103 ∧ k_ ≠ gb104) ho0 (fun k_ hk_ => ⟨(Kd.fresh' (Kd.N_lt (n_ HO_11.out)) k_ hk_), (Kd.freshB (b_ BK101) k_ hk_), (Kd.freshB (b_ BK102) k_ hk_), (Kd.freshB (b_ BK103) k_ hk_), (Kd.freshB (b_ BK104) k_ hk_)⟩)) (below_size (l_ HB)))
                 have HO178 := A_ (Kd.V_lower (Kd.V_mono (ok' := fun k_ => some k_ ≠ (.slice (some ad170) x11_2.length co159 : Value).ownBlock ∧ k_ ≠ gb101 ∧ k_ ≠ gb102 ∧ k_ ≠ gb103 ∧ k_ ≠ gb104) ho1 (fun k_ hk_ => ⟨(Kd.fresh' (Kd.N_lt (n_ HO_11.out)) k_ hk_), (Kd.freshB (b_ BK101) k_ hk_), (Kd.freshB (b_ BK102) k_ hk_), (Kd.freshB (b_ BK103) k_ hk_), (Kd.freshB (b_ BK104) k_ hk_)⟩)) (below_size (l_ HB)))
                 replace HO_11 := A_ (Kd.N_below (n_ HO_11.out) hb)
                 replace BK101 := bb_ BK101 hb
                 replace BK102 := bb_ BK102 hb
                 replace BK103 := bb_ BK103 hb
                 replace BK104 := bb_ BK104 hb
                 replace HR170_1 := A_ (Kd.C_below (c_ HR170_1.out) hb)
                 replace HR170_3 := A_ (Kd.C_below (c_ HR170_3.out) hb)
                 replace HB := st_ HB hb
                 try clear hb ho0 ho1
                 obtain ⟨Ao162, co162, eo162⟩ := Kd.V_slice HO174.out
                 (first | subst eo162 | (injection eo162 with f1_ f2_ f3_; have f4_ := f1_.symm; have f5_ := f3_.symm; clear f1_ f2_ f3_; subst f4_; subst f5_))
                 obtain ⟨Ao163, co163, eo163⟩ := Kd.V_slice HO178.out
                 (first | subst eo163 | (injection eo163 with f1_ f2_ f3_; have f4_ := f1_.symm; have f5_ := f3_.symm; clear f1_ f2_ f3_; subst f4_; subst f5_))
                 refine hK.out _ _ ⟨(blk_cell BK101.out 0).trans rfl, (blk_cell BK101.out 1).trans rfl, (blk_cell BK102.out 0).trans rfl, (blk_cell BK102.out 1).trans rfl, (blk_cell BK103.out 0).trans rfl, (blk_cell BK103.out 1).trans rfl, (blk_cell BK104.out 0).trans rfl, (blk_cell BK104.out 1).trans rfl, HS8_, HS9_, HS10_, HS11_, HS12_, HS13_, HS14_, HS15_⟩ (fun hHeld => ?_)
                 clear hK K
                 refine normq_ 130 ?_
                 refine oneq_ 14 (some 136) HT_ (fun K hK => ?_)
                 refine goesq_ Try.func32 #[.agg #[.bool t171, .slice Ao162 t172.length co162, .bool t175, .slice Ao163 t176.length co163], .int .i64 a2_0, .int .i64 a3_0, .int .i64 a4] ?_
                 with_reducible refine (cobwebref06_within.calls k3 t171 _ _ t172 t175 _ _ t176 a2_0 a3_0 a4 true _ ?side1 ?side2 ?side3 ?side4 A154.out).mono ?_
                 (case side1 => exact c_ (Kd.V_reads' HO174.out).2.2)
                 (case side2 => exact (Kd.V_reads' HO174.out).2.1)
                 (case side3 => exact c_ (Kd.V_reads' HO178.out).2.2)
                 (case side4 => exact (Kd.V_reads' HO178.out).2.1)
                 rintro e w164 ⟨rfl, hb⟩
                 have HS8_ := (hb.cell (World.block_lt_of_cell? _ _ (hHeld.2.2.2.2.2.2.2.2.1))).trans (hHeld.2.2.2.2.2.2.2.2.1)
                 have HS9_ := (hb.cell (World.block_lt_of_cell? _ _ (hHeld.2.2.2.2.2.2.2.2.2.1))).trans (hHeld.2.2.2.2.2.2.2.2.2.1)
                 have HS10_ := (hb.cell (World.block_lt_of_cell? _ _ (hHeld.2.2.2.2.2.2.2.2.2.2.1))).trans (hHeld.2.2.2.2.2.2.2.2.2.2.1)
                 have HS11_ := (hb.cell (World.block_lt_of_cell? _ _ (hHeld.2.2.2.2.2.2.2.2.2.2.2.1))).trans (hHeld.2.2.2.2.2.2.2.2.2.2.2.1)
                 have HS12_ := (hb.cell (World.block_lt_of_cell? _ _ (hHeld.2.2.2.2.2.2.2.2.2.2.2.2.1))).trans (hHeld.2.2.2.2.2.2.2.2.2.2.2.2.1)
                 have HS13_ := (hb.cell (World.block_lt_of_cell? _ _ (hHeld.2.2.2.2.2.2.2.2.2.2.2.2.2.1))).trans (hHeld.2.2.2.2.2.2.2.2.2.2.2.2.2.1)
                 have HS14_ := (hb.cell (World.block_lt_of_cell? _ _ (hHeld.2.2.2.2.2.2.2.2.2.2.2.2.2.2.1))).trans (hHeld.2.2.2.2.2.2.2.2.2.2.2.2.2.2.1)
                 have HS15_ := (hb.cell (World.block_lt_of_cell? _ _ (hHeld.2.2.2.2.2.2.2.2.2.2.2.2.2.2.2))).trans (hHeld.2.2.2.2.2.2.2.2.2.2.2.2.2.2.2)
                 refine ⟨_, rfl, ?_⟩
                 replace HO_11 := A_ (Kd.N_below (n_ HO_11.out) hb)
                 replace HL170_1 := A_ (Kd.V_below (v_ HL170_1.out) hb)
                 replace HL170_3 := A_ (Kd.V_below (v_ HL170_3.out) hb)
                 replace HO174 := A_ (Kd.V_below (v_ HO174.out) hb)
                 replace HO178 := A_ (Kd.V_below (v_ HO178.out) hb)
                 replace BK101 := bb_ BK101 hb
                 replace BK102 := bb_ BK102 hb
                 replace BK103 := bb_ BK103 hb
                 replace BK104 := bb_ BK104 hb
                 replace HR170_1 := A_ (Kd.C_below (c_ HR170_1.out) hb)
                 replace HR170_3 := A_ (Kd.C_below (c_ HR170_3.out) hb)
                 replace HB := st_ HB hb
                 try clear hb
                 refine hK.out _ _ ⟨(blk_cell BK101.out 0).trans rfl, (blk_cell BK101.out 1).trans rfl, (blk_cell BK102.out 0).trans rfl, (blk_cell BK102.out 1).trans rfl, (blk_cell BK103.out 0).trans rfl, (blk_cell BK103.out 1).trans rfl, (blk_cell BK104.out 0).trans rfl, (blk_cell BK104.out 1).trans rfl, HS8_, HS9_, HS10_, HS11_, HS12_, HS13_, HS14_, HS15_⟩ (fun hHeld => ?_)
                 clear hK K
                 refine normq_ 136 ?_
                 refine pureq_ 15 137 HT_ ?_
                 refine pureq_ 16 138 HT_ ?_
                 refine pureq_ 18 140 HT_ ?_
                 refine pureq_ 20 142 HT_ ?_
                 refine pureq_ 21 143 HT_ ?_
                 refine pureq_ 22 144 HT_ ?_
                 refine pureq_ 25 147 HT_ ?_
                 refine pureq_ 27 149 HT_ ?_
                 refine pureq_ 29 151 HT_ ?_
                 refine takeq_ 17 139 HT_ HW_ hHeld ?_
                 refine takeq_ 19 141 HT_ HW_ hHeld ?_
                 refine takeq_ 23 145 HT_ HW_ hHeld ?_
                 refine takeq_ 26 148 HT_ HW_ hHeld ?_
                 refine takeq_ 28 150 HT_ HW_ hHeld ?_
                 refine oneq_ 24 (some 146) HT_ (fun K hK => ?_)
                 refine goesq_ Try.func33 #[.int .i64 a0_1, .int .i64 a1_1, .agg #[.bool ((rd_T58 x11_2 x16_3).f0.f0), .slice A170_1 ((rd_T58 x11_2 x16_3).f0.f1).length c170_1, .bool ((rd_T58 x11_2 x16_3).f1.f0), .slice A170_3 ((rd_T58 x11_2 x16_3).f1.f1).length c170_3]] ?_
                 with_reducible refine (cobwebref06_on.calls k3 a0_1 a1_1 ((rd_T58 x11_2 x16_3).f0.f0) _ _ ((rd_T58 x11_2 x16_3).f0.f1) ((rd_T58 x11_2 x16_3).f1.f0) _ _ ((rd_T58 x11_2 x16_3).f1.f1) t181 t182 t185 t186 _ ?side1 ?side2 ?side3 ?side4 A156.out).mono ?_
                 (case side1 => exact c_ HR170_1.out)
                 (case side2 => exact HC170_1.out)
                 (case side3 => exact c_ HR170_3.out)
                 (case side4 => exact HC170_3.out)
                 rintro e w165 ⟨v183, v187, rfl, ho0, ho1, hb⟩
                 have HS8_ := (hb.cell (World.block_lt_of_cell? _ _ (hHeld.2.2.2.2.2.2.2.2.1))).trans (hHeld.2.2.2.2.2.2.2.2.1)
                 have HS9_ := (hb.cell (World.block_lt_of_cell? _ _ (hHeld.2.2.2.2.2.2.2.2.2.1))).trans (hHeld.2.2.2.2.2.2.2.2.2.1)
                 have HS10_ := (hb.cell (World.block_lt_of_cell? _ _ (hHeld.2.2.2.2.2.2.2.2.2.2.1))).trans (hHeld.2.2.2.2.2.2.2.2.2.2.1)
                 have HS11_ := (hb.cell (World.block_lt_of_cell? _ _ (hHeld.2.2.2.2.2.2.2.2.2.2.2.1))).trans (hHeld.2.2.2.2.2.2.2.2.2.2.2.1)
                 have HS12_ := (hb.cell (World.block_lt_of_cell? _ _ (hHeld.2.2.2.2.2.2.2.2.2.2.2.2.1))).trans (hHeld.2.2.2.2.2.2.2.2.2.2.2.2.1)
                 have HS13_ := (hb.cell (World.block_lt_of_cell? _ _ (hHeld.2.2.2.2.2.2.2.2.2.2.2.2.2.1))).trans (hHeld.2.2.2.2.2.2.2.2.2.2.2.2.2.1)
                 have HS14_ := (hb.cell (World.block_lt_of_cell? _ _ (hHeld.2.2.2.2.2.2.2.2.2.2.2.2.2.2.1))).trans (hHeld.2.2.2.2.2.2.2.2.2.2.2.2.2.2.1)
                 have HS15_ := (hb.cell (World.block_lt_of_cell? _ _ (hHeld.2.2.2.2.2.2.2.2.2.2.2.2.2.2.2))).trans (hHeld.2.2.2.2.2.2.2.2.2.2.2.2.2.2.2)
                 refine ⟨_, rfl, ?_⟩
                 replace HL170_1 := A_ (Kd.V_below (v_ HL170_1.out) hb)
                 replace HL170_3 := A_ (Kd.V_below (v_ HL170_3.out) hb)
                 replace HO174 := A_ (Kd.V_below (v_ HO174.out) hb)
                 replace HO178 := A_ (Kd.V_below (v_ HO178.out) hb)
                 have HO184 := A_ (Kd.V_lower (Kd.V_mono (ok' := fun k_ => some k_ ≠ (.slice (some ad170) x11_2.length co159 : Value).ownBlock ∧ k_ ≠ gb101 ∧ k_ ≠ gb102 ∧ k_ ≠ gb103 ∧ k_ ≠ gb104) ho0 (fun k_ hk_ => ⟨(Kd.fresh' (Kd.N_lt (n_ HO_11.out)) k_ hk_), (Kd.freshB (b_ BK101) k_ hk_), (Kd.freshB (b_ BK102) k_ hk_), (Kd.freshB (b_ BK103) k_ hk_), (Kd.freshB (b_ BK104) k_ hk_)⟩)) (below_size (l_ HB)))
                 have HO188 := A_ (Kd.V_lower (Kd.V_mono (ok' := fun k_ => some k_ ≠ (.slice (some ad170) x11_2.length co159 : Value).ownBlock ∧ k_ ≠ gb101 ∧ k_ ≠ gb102 ∧ k_ ≠ gb103 ∧ k_ ≠ gb104) ho1 (fun k_ hk_ => ⟨(Kd.fresh' (Kd.N_lt (n_ HO_11.out)) k_ hk_), (Kd.freshB (b_ BK101) k_ hk_), (Kd.freshB (b_ BK102) k_ hk_), (Kd.freshB (b_ BK103) k_ hk_), (Kd.freshB (b_ BK104) k_ hk_)⟩)) (below_size (l_ HB)))
                 replace HO_11 := A_ (Kd.N_below (n_ HO_11.out) hb)
                 replace BK101 := bb_ BK101 hb
                 replace BK102 := bb_ BK102 hb
                 replace BK103 := bb_ BK103 hb
                 replace BK104 := bb_ BK104 hb
                 replace HR170_1 := A_ (Kd.C_below (c_ HR170_1.out) hb)
                 replace HR170_3 := A_ (Kd.C_below (c_ HR170_3.out) hb)
                 replace HB := st_ HB hb
                 try clear hb ho0 ho1
                 obtain ⟨Ao166, co166, eo166⟩ := Kd.V_slice HO184.out
                 (first | subst eo166 | (injection eo166 with f1_ f2_ f3_; have f4_ := f1_.symm; have f5_ := f3_.symm; clear f1_ f2_ f3_; subst f4_; subst f5_))
                 obtain ⟨Ao167, co167, eo167⟩ := Kd.V_slice HO188.out
                 (first | subst eo167 | (injection eo167 with f1_ f2_ f3_; have f4_ := f1_.symm; have f5_ := f3_.symm; clear f1_ f2_ f3_; subst f4_; subst f5_))
                 refine hK.out _ _ ⟨(blk_cell BK101.out 0).trans rfl, (blk_cell BK101.out 1).trans rfl, (blk_cell BK102.out 0).trans rfl, (blk_cell BK102.out 1).trans rfl, (blk_cell BK103.out 0).trans rfl, (blk_cell BK103.out 1).trans rfl, (blk_cell BK104.out 0).trans rfl, (blk_cell BK104.out 1).trans rfl, HS8_, HS9_, HS10_, HS11_, HS12_, HS13_, HS14_, HS15_⟩ (fun hHeld => ?_)
                 clear hK K
                 refine normq_ 146 ?_
                 refine oneq_ 30 (some 152) HT_ (fun K hK => ?_)
                 refine goesq_ Try.func32 #[.agg #[.bool t181, .slice Ao166 t182.length co166, .bool t185, .slice Ao167 t186.length co167], .int .i64 a2_1, .int .i64 a3_1, .int .i64 a4] ?_
                 with_reducible refine (cobwebref06_within.calls k3 t181 _ _ t182 t185 _ _ t186 a2_1 a3_1 a4 true _ ?side1 ?side2 ?side3 ?side4 A157.out).mono ?_
                 (case side1 => exact c_ (Kd.V_reads' HO184.out).2.2)
                 (case side2 => exact (Kd.V_reads' HO184.out).2.1)
                 (case side3 => exact c_ (Kd.V_reads' HO188.out).2.2)
                 (case side4 => exact (Kd.V_reads' HO188.out).2.1)
                 rintro e w168 ⟨rfl, hb⟩
                 have HS8_ := (hb.cell (World.block_lt_of_cell? _ _ (hHeld.2.2.2.2.2.2.2.2.1))).trans (hHeld.2.2.2.2.2.2.2.2.1)
                 have HS9_ := (hb.cell (World.block_lt_of_cell? _ _ (hHeld.2.2.2.2.2.2.2.2.2.1))).trans (hHeld.2.2.2.2.2.2.2.2.2.1)
                 have HS10_ := (hb.cell (World.block_lt_of_cell? _ _ (hHeld.2.2.2.2.2.2.2.2.2.2.1))).trans (hHeld.2.2.2.2.2.2.2.2.2.2.1)
                 have HS11_ := (hb.cell (World.block_lt_of_cell? _ _ (hHeld.2.2.2.2.2.2.2.2.2.2.2.1))).trans (hHeld.2.2.2.2.2.2.2.2.2.2.2.1)
                 have HS12_ := (hb.cell (World.block_lt_of_cell? _ _ (hHeld.2.2.2.2.2.2.2.2.2.2.2.2.1))).trans (hHeld.2.2.2.2.2.2.2.2.2.2.2.2.1)
                 have HS13_ := (hb.cell (World.block_lt_of_cell? _ _ (hHeld.2.2.2.2.2.2.2.2.2.2.2.2.2.1))).trans (hHeld.2.2.2.2.2.2.2.2.2.2.2.2.2.1)
                 have HS14_ := (hb.cell (World.block_lt_of_cell? _ _ (hHeld.2.2.2.2.2.2.2.2.2.2.2.2.2.2.1))).trans (hHeld.2.2.2.2.2.2.2.2.2.2.2.2.2.2.1)
                 have HS15_ := (hb.cell (World.block_lt_of_cell? _ _ (hHeld.2.2.2.2.2.2.2.2.2.2.2.2.2.2.2))).trans (hHeld.2.2.2.2.2.2.2.2.2.2.2.2.2.2.2)
                 refine ⟨_, rfl, ?_⟩
                 replace HO_11 := A_ (Kd.N_below (n_ HO_11.out) hb)
                 replace HL170_1 := A_ (Kd.V_below (v_ HL170_1.out) hb)
                 replace HL170_3 := A_ (Kd.V_below (v_ HL170_3.out) hb)
                 replace HO174 := A_ (Kd.V_below (v_ HO174.out) hb)
                 replace HO178 := A_ (Kd.V_below (v_ HO178.out) hb)
                 replace HO184 := A_ (Kd.V_below (v_ HO184.out) hb)
                 replace HO188 := A_ (Kd.V_below (v_ HO188.out) hb)
                 replace BK101 := bb_ BK101 hb
                 replace BK102 := bb_ BK102 hb
                 replace BK103 := bb_ BK103 hb
                 replace BK104 := bb_ BK104 hb
                 replace HR170_1 := A_ (Kd.C_below (c_ HR170_1.out) hb)
                 replace HR170_3 := A_ (Kd.C_below (c_ HR170_3.out) hb)
                 replace HB := st_ HB hb
                 try clear hb
                 refine hK.out _ _ ⟨(blk_cell BK101.out 0).trans rfl, (blk_cell BK101.out 1).trans rfl, (blk_cell BK102.out 0).trans rfl, (blk_cell BK102.out 1).trans rfl, (blk_cell BK103.out 0).trans rfl, (blk_cell BK103.out 1).trans rfl, (blk_cell BK104.out 0).trans rfl, (blk_cell BK104.out 1).trans rfl, HS8_, HS9_, HS10_, HS11_, HS12_, HS13_, HS14_, HS15_⟩ (fun hHeld => ?_)
                 clear hK K
                 refine normq_ 152 ?_
                 refine pureq_ 31 153 HT_ ?_
                 refine done_ (done_of HT_.out (by kernel_rfl)) ?_
                 try go_wp2
                 go_ret
                 exact ⟨by first | rfl | (simp [errW_none, errW_some] <;> rfl) | (simp [*, errW_none, errW_some] <;> rfl), l_ HB⟩
                ·replace c158 := Bool.eq_false_iff.mpr c158
                 subst c158
                 have H1 : (cobwebref06_Meets.l2 k3 a4 x11_2 (wrap64 (x16_3 + 1)) a0_0 a0_1 a1_0 a1_1 a2_0 a2_1 a3_0 a3_1) = some r := by rw [if_neg (show ¬ (false = true) by decide)] at H; exact H
                 clear H
                 have H := H1
                 clear H1
                 have H' := A_ H
                 clear H
                 obtain ⟨Ao169, co169, eo169⟩ := Kd.N_slice HO_11.out
                 subst eo169
                 try go_wp2
                 replace HO_11 := A_ (Kd.N_drew HO_11.out)
                 replace BK101 := A_ (blk_drew BK101.out)
                 replace BK102 := A_ (blk_drew BK102.out)
                 replace BK103 := A_ (blk_drew BK103.out)
                 replace BK104 := A_ (blk_drew BK104.out)
                 replace HB := A_ (below_drew1 HB.out)
                 have p170 : 0 ≤ (x16_3 : Int) := of_decide_eq_true (by first | (with_reducible assumption) | assumption)
                 have q170 : x16_3 < (x11_2.length : Int) := of_decide_eq_true (by first | (with_reducible assumption) | assumption)
                 obtain ⟨ad170, A170_1, c170_1, A170_3, c170_3, e170, hx170_0, hx170_1, hx170_2, hx170_3, hl170_1, hi170_1, hl170_3, hi170_3⟩ := at_T58 (Kd.N_reads' HO_11.out).2.2 x16_3 p170 q170
                 cases e170
                 obtain ⟨ce170, hce170, hMe170, hcc170⟩ := Kd.N_get HO_11.out z58 x16_3 p170 (by first | exact q170 | exact of_decide_eq_true (by first | (with_reducible assumption) | assumption) | (have e_ := (Kd.N_reads' HO_11.out).1; omega))
                 obtain ⟨ua170_1, uc170_1, ua170_3, uc170_3, rfl, ul170_1, ge170_1, ul170_3, ge170_3⟩ := k58_openF hMe170
                 have hv170_1 := hcc170 1 _ rfl
                 rw [add_field _ _ 1 (by omega)] at hv170_1
                 replace hv170_1 := Option.some.inj (hv170_1.symm.trans hx170_1)
                 injection hv170_1 with hva_ hvn_ hvc_
                 rw [hva_] at ge170_1
                 rw [hvc_] at ul170_1
                 have HL170_1 := A_ (show Kd.V (Kd.int .i64) 3 _ w.heap.size _ _ ((rd_T58 x11_2 x16_3).f0.f1) from Kd.V_mk ul170_1 ge170_1)
                 clear hva_ hvn_ hvc_ ge170_1 ul170_1
                 have hv170_3 := hcc170 3 _ rfl
                 rw [add_field _ _ 3 (by omega)] at hv170_3
                 replace hv170_3 := Option.some.inj (hv170_3.symm.trans hx170_3)
                 injection hv170_3 with hva_ hvn_ hvc_
                 rw [hva_] at ge170_3
                 rw [hvc_] at ul170_3
                 have HL170_3 := A_ (show Kd.V (Kd.int .i64) 3 _ w.heap.size _ _ ((rd_T58 x11_2 x16_3).f1.f1) from Kd.V_mk ul170_3 ge170_3)
                 clear hva_ hvn_ hvc_ ge170_3 ul170_3 hcc170 hce170
                 have HR170_1 := A_ hi170_1
                 have HC170_1 := A_ hl170_1
                 clear hi170_1 hl170_1
                 have HR170_3 := A_ hi170_3
                 have HC170_3 := A_ hl170_3
                 clear hi170_3 hl170_3
                 replace p170 := eq_true p170
                 replace q170 := eq_true q170
                 have p180 : 0 ≤ (x16_3 : Int) := of_decide_eq_true (by first | (with_reducible assumption) | assumption)
                 have q180 : x16_3 < (x11_2.length : Int) := of_decide_eq_true (by first | (with_reducible assumption) | assumption)
                 obtain ⟨ad180, A180_1, c180_1, A180_3, c180_3, e180, hx180_0, hx180_1, hx180_2, hx180_3, hl180_1, hi180_1, hl180_3, hi180_3⟩ := at_T58 (Kd.N_reads' HO_11.out).2.2 x16_3 p180 q180
                 obtain rfl : ad170 = ad180 := (by injection e180)
                 obtain ⟨ce180, hce180, hMe180, hcc180⟩ := Kd.N_get HO_11.out z58 x16_3 p180 (by first | exact q180 | exact of_decide_eq_true (by first | (with_reducible assumption) | assumption) | (have e_ := (Kd.N_reads' HO_11.out).1; omega))
                 obtain ⟨ua180_1, uc180_1, ua180_3, uc180_3, rfl, ul180_1, ge180_1, ul180_3, ge180_3⟩ := k58_openF hMe180
                 have hv180_1 := hcc180 1 _ rfl
                 rw [add_field _ _ 1 (by omega)] at hv180_1
                 replace hv180_1 := Option.some.inj (hv180_1.symm.trans hx180_1)
                 injection hv180_1 with hva_ hvn_ hvc_
                 rw [hva_] at ge180_1
                 rw [hvc_] at ul180_1
                 have HL180_1 := A_ (show Kd.V (Kd.int .i64) 3 _ w.heap.size _ _ ((rd_T58 x11_2 x16_3).f0.f1) from Kd.V_mk ul180_1 ge180_1)
                 clear hva_ hvn_ hvc_ ge180_1 ul180_1
                 have hv180_3 := hcc180 3 _ rfl
                 rw [add_field _ _ 3 (by omega)] at hv180_3
                 replace hv180_3 := Option.some.inj (hv180_3.symm.trans hx180_3)
                 injection hv180_3 with hva_ hvn_ hvc_
                 rw [hva_] at ge180_3
                 rw [hvc_] at ul180_3
                 have HL180_3 := A_ (show Kd.V (Kd.int .i64) 3 _ w.heap.size _ _ ((rd_T58 x11_2 x16_3).f1.f1) from Kd.V_mk ul180_3 ge180_3)
                 clear hva_ hvn_ hvc_ ge180_3 ul180_3 hcc180 hce180
                 have HR180_1 := A_ hi180_1
                 have HC180_1 := A_ hl180_1
                 clear hi180_1 hl180_1
                 have HR180_3 := A_ hi180_3
                 have HC180_3 := A_ hl180_3
                 clear hi180_3 hl180_3
                 replace p180 := eq_true p180
                 replace q180 := eq_true q180
                 refine start_ (n := 32) (S := fun w' => w'.cell? ⟨gb101, 0, none⟩ = some (.int .i64 a0_0) ∧ w'.cell? ⟨gb101, 1, none⟩ = some (.int .i64 a0_1) ∧ w'.cell? ⟨gb102, 0, none⟩ = some (.int .i64 a1_0) ∧ w'.cell? ⟨gb102, 1, none⟩ = some (.int .i64 a1_1) ∧ w'.cell? ⟨gb103, 0, none⟩ = some (.int .i64 a2_0) ∧ w'.cell? ⟨gb103, 1, none⟩ = some (.int .i64 a2_1) ∧ w'.cell? ⟨gb104, 0, none⟩ = some (.int .i64 a3_0) ∧ w'.cell? ⟨gb104, 1, none⟩ = some (.int .i64 a3_1) ∧ w'.cell? (ad170.add ((x16_3).toNat * 4)) = some (.bool ((rd_T58 x11_2 x16_3).f0.f0)) ∧ w'.cell? ⟨(ad170.add ((x16_3).toNat * 4)).block, (ad170.add ((x16_3).toNat * 4)).off + 1, none⟩ = some (.slice A170_1 ((rd_T58 x11_2 x16_3).f0.f1).length c170_1) ∧ w'.cell? ⟨(ad170.add ((x16_3).toNat * 4)).block, (ad170.add ((x16_3).toNat * 4)).off + 2, none⟩ = some (.bool ((rd_T58 x11_2 x16_3).f1.f0)) ∧ w'.cell? ⟨(ad170.add ((x16_3).toNat * 4)).block, (ad170.add ((x16_3).toNat * 4)).off + 3, none⟩ = some (.slice A170_3 ((rd_T58 x11_2 x16_3).f1.f1).length c170_3) ∧ w'.cell? (ad170.add ((x16_3).toNat * 4)) = some (.bool ((rd_T58 x11_2 x16_3).f0.f0)) ∧ w'.cell? ⟨(ad170.add ((x16_3).toNat * 4)).block, (ad170.add ((x16_3).toNat * 4)).off + 1, none⟩ = some (.slice A180_1 ((rd_T58 x11_2 x16_3).f0.f1).length c180_1) ∧ w'.cell? ⟨(ad170.add ((x16_3).toNat * 4)).block, (ad170.add ((x16_3).toNat * 4)).off + 2, none⟩ = some (.bool ((rd_T58 x11_2 x16_3).f1.f0)) ∧ w'.cell? ⟨(ad170.add ((x16_3).toNat * 4)).block, (ad170.add ((x16_3).toNat * 4)).off + 3, none⟩ = some (.slice A180_3 ((rd_T58 x11_2 x16_3).f1.f1).length c180_3)) (ds := []) (Array.replicate 32 false) (by kernel_rfl) rfl rfl ⟨(blk_cell BK101.out 0).trans rfl, (blk_cell BK101.out 1).trans rfl, (blk_cell BK102.out 0).trans rfl, (blk_cell BK102.out 1).trans rfl, (blk_cell BK103.out 0).trans rfl, (blk_cell BK103.out 1).trans rfl, (blk_cell BK104.out 0).trans rfl, (blk_cell BK104.out 1).trans rfl, hx170_0, hx170_1, hx170_2, hx170_3, hx180_0, hx180_1, hx180_2, hx180_3⟩ (fun hHeld => ?_); refine with_tabW cobwebref06_Meets.tab18 cobwebref06_Meets.bits18 (fun HT_ HW_ => ?_)
                 generalize wr.drew = w170 at HO_11 BK101 BK102 BK103 BK104 HB HL170_1 HL170_3 HL180_1 HL180_3 HR170_1 HR170_3 HR180_1 HR180_3 hx170_0 hx170_1 hx170_2 hx170_3 hx180_0 hx180_1 hx180_2 hx180_3 hHeld ⊢
                 refine pureq_ 0 122 HT_ ?_
                 refine pureq_ 2 124 HT_ ?_
                 refine pureq_ 4 126 HT_ ?_
                 refine pureq_ 5 127 HT_ ?_
                 refine pureq_ 6 128 HT_ ?_
                 refine pureq_ 9 131 HT_ ?_
                 refine pureq_ 11 133 HT_ ?_
                 refine pureq_ 13 135 HT_ ?_
                 refine takeq_ 1 123 HT_ HW_ hHeld ?_
                 refine takeq_ 3 125 HT_ HW_ hHeld ?_
                 refine takeq_ 7 129 HT_ HW_ hHeld ?_
                 refine takeq_ 10 132 HT_ HW_ hHeld ?_
                 refine takeq_ 12 134 HT_ HW_ hHeld ?_
                 refine oneq_ 8 (some 130) HT_ (fun K hK => ?_)
                 refine goesq_ Try.func33 #[.int .i64 a0_0, .int .i64 a1_0, .agg #[.bool ((rd_T58 x11_2 x16_3).f0.f0), .slice A170_1 ((rd_T58 x11_2 x16_3).f0.f1).length c170_1, .bool ((rd_T58 x11_2 x16_3).f1.f0), .slice A170_3 ((rd_T58 x11_2 x16_3).f1.f1).length c170_3]] ?_
                 with_reducible refine (cobwebref06_on.calls k3 a0_0 a1_0 ((rd_T58 x11_2 x16_3).f0.f0) _ _ ((rd_T58 x11_2 x16_3).f0.f1) ((rd_T58 x11_2 x16_3).f1.f0) _ _ ((rd_T58 x11_2 x16_3).f1.f1) t171 t172 t175 t176 _ ?side1 ?side2 ?side3 ?side4 A153.out).mono ?_
                 (case side1 => exact c_ HR170_1.out)
                 (case side2 => exact HC170_1.out)
                 (case side3 => exact c_ HR170_3.out)
                 (case side4 => exact HC170_3.out)
                 rintro e w171 ⟨v173, v177, rfl, ho0, ho1, hb⟩
                 have HS8_ := (hb.cell (World.block_lt_of_cell? _ _ (hHeld.2.2.2.2.2.2.2.2.1))).trans (hHeld.2.2.2.2.2.2.2.2.1)
                 have HS9_ := (hb.cell (World.block_lt_of_cell? _ _ (hHeld.2.2.2.2.2.2.2.2.2.1))).trans (hHeld.2.2.2.2.2.2.2.2.2.1)
                 have HS10_ := (hb.cell (World.block_lt_of_cell? _ _ (hHeld.2.2.2.2.2.2.2.2.2.2.1))).trans (hHeld.2.2.2.2.2.2.2.2.2.2.1)
                 have HS11_ := (hb.cell (World.block_lt_of_cell? _ _ (hHeld.2.2.2.2.2.2.2.2.2.2.2.1))).trans (hHeld.2.2.2.2.2.2.2.2.2.2.2.1)
                 have HS12_ := (hb.cell (World.block_lt_of_cell? _ _ (hHeld.2.2.2.2.2.2.2.2.2.2.2.2.1))).trans (hHeld.2.2.2.2.2.2.2.2.2.2.2.2.1)
                 have HS13_ := (hb.cell (World.block_lt_of_cell? _ _ (hHeld.2.2.2.2.2.2.2.2.2.2.2.2.2.1))).trans (hHeld.2.2.2.2.2.2.2.2.2.2.2.2.2.1)
                 have HS14_ := (hb.cell (World.block_lt_of_cell? _ _ (hHeld.2.2.2.2.2.2.2.2.2.2.2.2.2.2.1))).trans (hHeld.2.2.2.2.2.2.2.2.2.2.2.2.2.2.1)
                 have HS15_ := (hb.cell (World.block_lt_of_cell? _ _ (hHeld.2.2.2.2.2.2.2.2.2.2.2.2.2.2.2))).trans (hHeld.2.2.2.2.2.2.2.2.2.2.2.2.2.2.2)
                 refine ⟨_, rfl, ?_⟩
                 replace HL170_1 := A_ (Kd.V_below (v_ HL170_1.out) hb)
                 replace HL170_3 := A_ (Kd.V_below (v_ HL170_3.out) hb)
                 have HO174 := A_ (Kd.V_lower (Kd.V_mono (ok' := fun k_ => some k_ ≠ (.slice (some ad170) x11_2.length co169 : Value).ownBlock ∧ k_ ≠ gb101 ∧ k_ ≠ gb102 ∧ k_ ≠ gb103 ∧ k_ ≠ gb104) ho0 (fun k_ hk_ => ⟨(Kd.fresh' (Kd.N_lt (n_ HO_11.out)) k_ hk_), (Kd.freshB (b_ BK101) k_ hk_), (Kd.freshB (b_ BK102) k_ hk_), (Kd.freshB (b_ BK103) k_ hk_), (Kd.freshB (b_ BK104) k_ hk_)⟩)) (below_size (l_ HB)))
                 have HO178 := A_ (Kd.V_lower (Kd.V_mono (ok' := fun k_ => some k_ ≠ (.slice (some ad170) x11_2.length co169 : Value).ownBlock ∧ k_ ≠ gb101 ∧ k_ ≠ gb102 ∧ k_ ≠ gb103 ∧ k_ ≠ gb104) ho1 (fun k_ hk_ => ⟨(Kd.fresh' (Kd.N_lt (n_ HO_11.out)) k_ hk_), (Kd.freshB (b_ BK101) k_ hk_), (Kd.freshB (b_ BK102) k_ hk_), (Kd.freshB (b_ BK103) k_ hk_), (Kd.freshB (b_ BK104) k_ hk_)⟩)) (below_size (l_ HB)))
                 replace HO_11 := A_ (Kd.N_below (n_ HO_11.out) hb)
                 replace BK101 := bb_ BK101 hb
                 replace BK102 := bb_ BK102 hb
                 replace BK103 := bb_ BK103 hb
                 replace BK104 := bb_ BK104 hb
                 replace HR170_1 := A_ (Kd.C_below (c_ HR170_1.out) hb)
                 replace HR170_3 := A_ (Kd.C_below (c_ HR170_3.out) hb)
                 replace HB := st_ HB hb
                 try clear hb ho0 ho1
                 obtain ⟨Ao172, co172, eo172⟩ := Kd.V_slice HO174.out
                 (first | subst eo172 | (injection eo172 with f1_ f2_ f3_; have f4_ := f1_.symm; have f5_ := f3_.symm; clear f1_ f2_ f3_; subst f4_; subst f5_))
                 obtain ⟨Ao173, co173, eo173⟩ := Kd.V_slice HO178.out
                 (first | subst eo173 | (injection eo173 with f1_ f2_ f3_; have f4_ := f1_.symm; have f5_ := f3_.symm; clear f1_ f2_ f3_; subst f4_; subst f5_))
                 refine hK.out _ _ ⟨(blk_cell BK101.out 0).trans rfl, (blk_cell BK101.out 1).trans rfl, (blk_cell BK102.out 0).trans rfl, (blk_cell BK102.out 1).trans rfl, (blk_cell BK103.out 0).trans rfl, (blk_cell BK103.out 1).trans rfl, (blk_cell BK104.out 0).trans rfl, (blk_cell BK104.out 1).trans rfl, HS8_, HS9_, HS10_, HS11_, HS12_, HS13_, HS14_, HS15_⟩ (fun hHeld => ?_)
                 clear hK K
                 refine normq_ 130 ?_
                 refine oneq_ 14 (some 136) HT_ (fun K hK => ?_)
                 refine goesq_ Try.func32 #[.agg #[.bool t171, .slice Ao172 t172.length co172, .bool t175, .slice Ao173 t176.length co173], .int .i64 a2_0, .int .i64 a3_0, .int .i64 a4] ?_
                 with_reducible refine (cobwebref06_within.calls k3 t171 _ _ t172 t175 _ _ t176 a2_0 a3_0 a4 true _ ?side1 ?side2 ?side3 ?side4 A154.out).mono ?_
                 (case side1 => exact c_ (Kd.V_reads' HO174.out).2.2)
                 (case side2 => exact (Kd.V_reads' HO174.out).2.1)
                 (case side3 => exact c_ (Kd.V_reads' HO178.out).2.2)
                 (case side4 => exact (Kd.V_reads' HO178.out).2.1)
                 rintro e w174 ⟨rfl, hb⟩
                 have HS8_ := (hb.cell (World.block_lt_of_cell? _ _ (hHeld.2.2.2.2.2.2.2.2.1))).trans (hHeld.2.2.2.2.2.2.2.2.1)
                 have HS9_ := (hb.cell (World.block_lt_of_cell? _ _ (hHeld.2.2.2.2.2.2.2.2.2.1))).trans (hHeld.2.2.2.2.2.2.2.2.2.1)
                 have HS10_ := (hb.cell (World.block_lt_of_cell? _ _ (hHeld.2.2.2.2.2.2.2.2.2.2.1))).trans (hHeld.2.2.2.2.2.2.2.2.2.2.1)
                 have HS11_ := (hb.cell (World.block_lt_of_cell? _ _ (hHeld.2.2.2.2.2.2.2.2.2.2.2.1))).trans (hHeld.2.2.2.2.2.2.2.2.2.2.2.1)
                 have HS12_ := (hb.cell (World.block_lt_of_cell? _ _ (hHeld.2.2.2.2.2.2.2.2.2.2.2.2.1))).trans (hHeld.2.2.2.2.2.2.2.2.2.2.2.2.1)
                 have HS13_ := (hb.cell (World.block_lt_of_cell? _ _ (hHeld.2.2.2.2.2.2.2.2.2.2.2.2.2.1))).trans (hHeld.2.2.2.2.2.2.2.2.2.2.2.2.2.1)
                 have HS14_ := (hb.cell (World.block_lt_of_cell? _ _ (hHeld.2.2.2.2.2.2.2.2.2.2.2.2.2.2.1))).trans (hHeld.2.2.2.2.2.2.2.2.2.2.2.2.2.2.1)
                 have HS15_ := (hb.cell (World.block_lt_of_cell? _ _ (hHeld.2.2.2.2.2.2.2.2.2.2.2.2.2.2.2))).trans (hHeld.2.2.2.2.2.2.2.2.2.2.2.2.2.2.2)
                 refine ⟨_, rfl, ?_⟩
                 replace HO_11 := A_ (Kd.N_below (n_ HO_11.out) hb)
                 replace HL170_1 := A_ (Kd.V_below (v_ HL170_1.out) hb)
                 replace HL170_3 := A_ (Kd.V_below (v_ HL170_3.out) hb)
                 replace HO174 := A_ (Kd.V_below (v_ HO174.out) hb)
                 replace HO178 := A_ (Kd.V_below (v_ HO178.out) hb)
                 replace BK101 := bb_ BK101 hb
                 replace BK102 := bb_ BK102 hb
                 replace BK103 := bb_ BK103 hb
                 replace BK104 := bb_ BK104 hb
                 replace HR170_1 := A_ (Kd.C_below (c_ HR170_1.out) hb)
                 replace HR170_3 := A_ (Kd.C_below (c_ HR170_3.out) hb)
                 replace HB := st_ HB hb
                 try clear hb
                 refine hK.out _ _ ⟨(blk_cell BK101.out 0).trans rfl, (blk_cell BK101.out 1).trans rfl, (blk_cell BK102.out 0).trans rfl, (blk_cell BK102.out 1).trans rfl, (blk_cell BK103.out 0).trans rfl, (blk_cell BK103.out 1).trans rfl, (blk_cell BK104.out 0).trans rfl, (blk_cell BK104.out 1).trans rfl, HS8_, HS9_, HS10_, HS11_, HS12_, HS13_, HS14_, HS15_⟩ (fun hHeld => ?_)
                 clear hK K
                 refine normq_ 136 ?_
                 refine pureq_ 15 137 HT_ ?_
                 refine pureq_ 16 138 HT_ ?_
                 refine pureq_ 18 140 HT_ ?_
                 refine pureq_ 20 142 HT_ ?_
                 refine pureq_ 21 143 HT_ ?_
                 refine pureq_ 22 144 HT_ ?_
                 refine pureq_ 25 147 HT_ ?_
                 refine pureq_ 27 149 HT_ ?_
                 refine pureq_ 29 151 HT_ ?_
                 refine takeq_ 17 139 HT_ HW_ hHeld ?_
                 refine takeq_ 19 141 HT_ HW_ hHeld ?_
                 refine takeq_ 23 145 HT_ HW_ hHeld ?_
                 refine takeq_ 26 148 HT_ HW_ hHeld ?_
                 refine takeq_ 28 150 HT_ HW_ hHeld ?_
                 refine oneq_ 24 (some 146) HT_ (fun K hK => ?_)
                 refine goesq_ Try.func33 #[.int .i64 a0_1, .int .i64 a1_1, .agg #[.bool ((rd_T58 x11_2 x16_3).f0.f0), .slice A170_1 ((rd_T58 x11_2 x16_3).f0.f1).length c170_1, .bool ((rd_T58 x11_2 x16_3).f1.f0), .slice A170_3 ((rd_T58 x11_2 x16_3).f1.f1).length c170_3]] ?_
                 with_reducible refine (cobwebref06_on.calls k3 a0_1 a1_1 ((rd_T58 x11_2 x16_3).f0.f0) _ _ ((rd_T58 x11_2 x16_3).f0.f1) ((rd_T58 x11_2 x16_3).f1.f0) _ _ ((rd_T58 x11_2 x16_3).f1.f1) t181 t182 t185 t186 _ ?side1 ?side2 ?side3 ?side4 A156.out).mono ?_
                 (case side1 => exact c_ HR170_1.out)
                 (case side2 => exact HC170_1.out)
                 (case side3 => exact c_ HR170_3.out)
                 (case side4 => exact HC170_3.out)
                 rintro e w175 ⟨v183, v187, rfl, ho0, ho1, hb⟩
                 have HS8_ := (hb.cell (World.block_lt_of_cell? _ _ (hHeld.2.2.2.2.2.2.2.2.1))).trans (hHeld.2.2.2.2.2.2.2.2.1)
                 have HS9_ := (hb.cell (World.block_lt_of_cell? _ _ (hHeld.2.2.2.2.2.2.2.2.2.1))).trans (hHeld.2.2.2.2.2.2.2.2.2.1)
                 have HS10_ := (hb.cell (World.block_lt_of_cell? _ _ (hHeld.2.2.2.2.2.2.2.2.2.2.1))).trans (hHeld.2.2.2.2.2.2.2.2.2.2.1)
                 have HS11_ := (hb.cell (World.block_lt_of_cell? _ _ (hHeld.2.2.2.2.2.2.2.2.2.2.2.1))).trans (hHeld.2.2.2.2.2.2.2.2.2.2.2.1)
                 have HS12_ := (hb.cell (World.block_lt_of_cell? _ _ (hHeld.2.2.2.2.2.2.2.2.2.2.2.2.1))).trans (hHeld.2.2.2.2.2.2.2.2.2.2.2.2.1)
                 have HS13_ := (hb.cell (World.block_lt_of_cell? _ _ (hHeld.2.2.2.2.2.2.2.2.2.2.2.2.2.1))).trans (hHeld.2.2.2.2.2.2.2.2.2.2.2.2.2.1)
                 have HS14_ := (hb.cell (World.block_lt_of_cell? _ _ (hHeld.2.2.2.2.2.2.2.2.2.2.2.2.2.2.1))).trans (hHeld.2.2.2.2.2.2.2.2.2.2.2.2.2.2.1)
                 have HS15_ := (hb.cell (World.block_lt_of_cell? _ _ (hHeld.2.2.2.2.2.2.2.2.2.2.2.2.2.2.2))).trans (hHeld.2.2.2.2.2.2.2.2.2.2.2.2.2.2.2)
                 refine ⟨_, rfl, ?_⟩
                 replace HL170_1 := A_ (Kd.V_below (v_ HL170_1.out) hb)
                 replace HL170_3 := A_ (Kd.V_below (v_ HL170_3.out) hb)
                 replace HO174 := A_ (Kd.V_below (v_ HO174.out) hb)
                 replace HO178 := A_ (Kd.V_below (v_ HO178.out) hb)
                 have HO184 := A_ (Kd.V_lower (Kd.V_mono (ok' := fun k_ => some k_ ≠ (.slice (some ad170) x11_2.length co169 : Value).ownBlock ∧ k_ ≠ gb101 ∧ k_ ≠ gb102 ∧ k_ ≠ gb103 ∧ k_ ≠ gb104) ho0 (fun k_ hk_ => ⟨(Kd.fresh' (Kd.N_lt (n_ HO_11.out)) k_ hk_), (Kd.freshB (b_ BK101) k_ hk_), (Kd.freshB (b_ BK102) k_ hk_), (Kd.freshB (b_ BK103) k_ hk_), (Kd.freshB (b_ BK104) k_ hk_)⟩)) (below_size (l_ HB)))
                 have HO188 := A_ (Kd.V_lower (Kd.V_mono (ok' := fun k_ => some k_ ≠ (.slice (some ad170) x11_2.length co169 : Value).ownBlock ∧ k_ ≠ gb101 ∧ k_ ≠ gb102 ∧ k_ ≠ gb103 ∧ k_ ≠ gb104) ho1 (fun k_ hk_ => ⟨(Kd.fresh' (Kd.N_lt (n_ HO_11.out)) k_ hk_), (Kd.freshB (b_ BK101) k_ hk_), (Kd.freshB (b_ BK102) k_ hk_), (Kd.freshB (b_ BK103) k_ hk_), (Kd.freshB (b_ BK104) k_ hk_)⟩)) (below_size (l_ HB)))
                 replace HO_11 := A_ (Kd.N_below (n_ HO_11.out) hb)
                 replace BK101 := bb_ BK101 hb
                 replace BK102 := bb_ BK102 hb
                 replace BK103 := bb_ BK103 hb
                 replace BK104 := bb_ BK104 hb
                 replace HR170_1 := A_ (Kd.C_below (c_ HR170_1.out) hb)
                 replace HR170_3 := A_ (Kd.C_below (c_ HR170_3.out) hb)
                 replace HB := st_ HB hb
                 try clear hb ho0 ho1
                 obtain ⟨Ao176, co176, eo176⟩ := Kd.V_slice HO184.out
                 (first | subst eo176 | (injection eo176 with f1_ f2_ f3_; have f4_ := f1_.symm; have f5_ := f3_.symm; clear f1_ f2_ f3_; subst f4_; subst f5_))
                 obtain ⟨Ao177, co177, eo177⟩ := Kd.V_slice HO188.out
                 (first | subst eo177 | (injection eo177 with f1_ f2_ f3_; have f4_ := f1_.symm; have f5_ := f3_.symm; clear f1_ f2_ f3_; subst f4_; subst f5_))
                 refine hK.out _ _ ⟨(blk_cell BK101.out 0).trans rfl, (blk_cell BK101.out 1).trans rfl, (blk_cell BK102.out 0).trans rfl, (blk_cell BK102.out 1).trans rfl, (blk_cell BK103.out 0).trans rfl, (blk_cell BK103.out 1).trans rfl, (blk_cell BK104.out 0).trans rfl, (blk_cell BK104.out 1).trans rfl, HS8_, HS9_, HS10_, HS11_, HS12_, HS13_, HS14_, HS15_⟩ (fun hHeld => ?_)
                 clear hK K
                 refine normq_ 146 ?_
                 refine oneq_ 30 (some 152) HT_ (fun K hK => ?_)
                 refine goesq_ Try.func32 #[.agg #[.bool t181, .slice Ao176 t182.length co176, .bool t185, .slice Ao177 t186.length co177], .int .i64 a2_1, .int .i64 a3_1, .int .i64 a4] ?_
                 with_reducible refine (cobwebref06_within.calls k3 t181 _ _ t182 t185 _ _ t186 a2_1 a3_1 a4 false _ ?side1 ?side2 ?side3 ?side4 A157.out).mono ?_
                 (case side1 => exact c_ (Kd.V_reads' HO184.out).2.2)
                 (case side2 => exact (Kd.V_reads' HO184.out).2.1)
                 (case side3 => exact c_ (Kd.V_reads' HO188.out).2.2)
                 (case side4 => exact (Kd.V_reads' HO188.out).2.1)
                 rintro e w178 ⟨rfl, hb⟩
                 have HS8_ := (hb.cell (World.block_lt_of_cell? _ _ (hHeld.2.2.2.2.2.2.2.2.1))).trans (hHeld.2.2.2.2.2.2.2.2.1)
                 have HS9_ := (hb.cell (World.block_lt_of_cell? _ _ (hHeld.2.2.2.2.2.2.2.2.2.1))).trans (hHeld.2.2.2.2.2.2.2.2.2.1)
                 have HS10_ := (hb.cell (World.block_lt_of_cell? _ _ (hHeld.2.2.2.2.2.2.2.2.2.2.1))).trans (hHeld.2.2.2.2.2.2.2.2.2.2.1)
                 have HS11_ := (hb.cell (World.block_lt_of_cell? _ _ (hHeld.2.2.2.2.2.2.2.2.2.2.2.1))).trans (hHeld.2.2.2.2.2.2.2.2.2.2.2.1)
                 have HS12_ := (hb.cell (World.block_lt_of_cell? _ _ (hHeld.2.2.2.2.2.2.2.2.2.2.2.2.1))).trans (hHeld.2.2.2.2.2.2.2.2.2.2.2.2.1)
                 have HS13_ := (hb.cell (World.block_lt_of_cell? _ _ (hHeld.2.2.2.2.2.2.2.2.2.2.2.2.2.1))).trans (hHeld.2.2.2.2.2.2.2.2.2.2.2.2.2.1)
                 have HS14_ := (hb.cell (World.block_lt_of_cell? _ _ (hHeld.2.2.2.2.2.2.2.2.2.2.2.2.2.2.1))).trans (hHeld.2.2.2.2.2.2.2.2.2.2.2.2.2.2.1)
                 have HS15_ := (hb.cell (World.block_lt_of_cell? _ _ (hHeld.2.2.2.2.2.2.2.2.2.2.2.2.2.2.2))).trans (hHeld.2.2.2.2.2.2.2.2.2.2.2.2.2.2.2)
                 refine ⟨_, rfl, ?_⟩
                 replace HO_11 := A_ (Kd.N_below (n_ HO_11.out) hb)
                 replace HL170_1 := A_ (Kd.V_below (v_ HL170_1.out) hb)
                 replace HL170_3 := A_ (Kd.V_below (v_ HL170_3.out) hb)
                 replace HO174 := A_ (Kd.V_below (v_ HO174.out) hb)
                 replace HO178 := A_ (Kd.V_below (v_ HO178.out) hb)
                 replace HO184 := A_ (Kd.V_below (v_ HO184.out) hb)
                 replace HO188 := A_ (Kd.V_below (v_ HO188.out) hb)
                 replace BK101 := bb_ BK101 hb
                 replace BK102 := bb_ BK102 hb
                 replace BK103 := bb_ BK103 hb
                 replace BK104 := bb_ BK104 hb
                 replace HR170_1 := A_ (Kd.C_below (c_ HR170_1.out) hb)
                 replace HR170_3 := A_ (Kd.C_below (c_ HR170_3.out) hb)
                 replace HB := st_ HB hb
                 try clear hb
                 refine hK.out _ _ ⟨(blk_cell BK101.out 0).trans rfl, (blk_cell BK101.out 1).trans rfl, (blk_cell BK102.out 0).trans rfl, (blk_cell BK102.out 1).trans rfl, (blk_cell BK103.out 0).trans rfl, (blk_cell BK103.out 1).trans rfl, (blk_cell BK104.out 0).trans rfl, (blk_cell BK104.out 1).trans rfl, HS8_, HS9_, HS10_, HS11_, HS12_, HS13_, HS14_, HS15_⟩ (fun hHeld => ?_)
                 clear hK K
                 refine normq_ 152 ?_
                 refine pureq_ 31 153 HT_ ?_
                 refine done_ (done_of HT_.out (by kernel_rfl)) ?_
                 try go_wp2
                 go_roundg k3
                 case measure => have := HJ5.out; have := HK2.out; have := HK3.out; omega
                 case rel => exact ⟨(wrap64 (x16_3 + 1)), (by first | rfl | (simp; done) | (simp [*]; done)), H', ⟨by have := HJ5.out; have := HK2.out; have := HK3.out; omega⟩, ⟨by (with_reducible repeat (first | apply Kd.N_alloc | apply Kd.N_drewN | apply Kd.N_drew)); exact HO_11.out⟩, ⟨b_ BK101⟩, ⟨b_ BK102⟩, ⟨b_ BK103⟩, ⟨b_ BK104⟩, ⟨l_ HB⟩⟩
               ·replace c155 := Bool.eq_false_iff.mpr c155
                subst c155
                have H1 : (cobwebref06_Meets.l2 k3 a4 x11_2 (wrap64 (x16_3 + 1)) a0_0 a0_1 a1_0 a1_1 a2_0 a2_1 a3_0 a3_1) = some r := by rw [if_neg (show ¬ (false = true) by decide)] at H; exact H
                clear H
                have H := H1
                clear H1
                have H' := A_ H
                clear H
                obtain ⟨Ao179, co179, eo179⟩ := Kd.N_slice HO_11.out
                subst eo179
                try go_wp2
                replace HO_11 := A_ (Kd.N_drew HO_11.out)
                replace BK101 := A_ (blk_drew BK101.out)
                replace BK102 := A_ (blk_drew BK102.out)
                replace BK103 := A_ (blk_drew BK103.out)
                replace BK104 := A_ (blk_drew BK104.out)
                replace HB := A_ (below_drew1 HB.out)
                have p170 : 0 ≤ (x16_3 : Int) := of_decide_eq_true (by first | (with_reducible assumption) | assumption)
                have q170 : x16_3 < (x11_2.length : Int) := of_decide_eq_true (by first | (with_reducible assumption) | assumption)
                obtain ⟨ad170, A170_1, c170_1, A170_3, c170_3, e170, hx170_0, hx170_1, hx170_2, hx170_3, hl170_1, hi170_1, hl170_3, hi170_3⟩ := at_T58 (Kd.N_reads' HO_11.out).2.2 x16_3 p170 q170
                cases e170
                obtain ⟨ce170, hce170, hMe170, hcc170⟩ := Kd.N_get HO_11.out z58 x16_3 p170 (by first | exact q170 | exact of_decide_eq_true (by first | (with_reducible assumption) | assumption) | (have e_ := (Kd.N_reads' HO_11.out).1; omega))
                obtain ⟨ua170_1, uc170_1, ua170_3, uc170_3, rfl, ul170_1, ge170_1, ul170_3, ge170_3⟩ := k58_openF hMe170
                have hv170_1 := hcc170 1 _ rfl
                rw [add_field _ _ 1 (by omega)] at hv170_1
                replace hv170_1 := Option.some.inj (hv170_1.symm.trans hx170_1)
                injection hv170_1 with hva_ hvn_ hvc_
                rw [hva_] at ge170_1
                rw [hvc_] at ul170_1
                have HL170_1 := A_ (show Kd.V (Kd.int .i64) 3 _ w.heap.size _ _ ((rd_T58 x11_2 x16_3).f0.f1) from Kd.V_mk ul170_1 ge170_1)
                clear hva_ hvn_ hvc_ ge170_1 ul170_1
                have hv170_3 := hcc170 3 _ rfl
                rw [add_field _ _ 3 (by omega)] at hv170_3
                replace hv170_3 := Option.some.inj (hv170_3.symm.trans hx170_3)
                injection hv170_3 with hva_ hvn_ hvc_
                rw [hva_] at ge170_3
                rw [hvc_] at ul170_3
                have HL170_3 := A_ (show Kd.V (Kd.int .i64) 3 _ w.heap.size _ _ ((rd_T58 x11_2 x16_3).f1.f1) from Kd.V_mk ul170_3 ge170_3)
                clear hva_ hvn_ hvc_ ge170_3 ul170_3 hcc170 hce170
                have HR170_1 := A_ hi170_1
                have HC170_1 := A_ hl170_1
                clear hi170_1 hl170_1
                have HR170_3 := A_ hi170_3
                have HC170_3 := A_ hl170_3
                clear hi170_3 hl170_3
                replace p170 := eq_true p170
                replace q170 := eq_true q170
                refine start_ (n := 32) (S := fun w' => w'.cell? ⟨gb101, 0, none⟩ = some (.int .i64 a0_0) ∧ w'.cell? ⟨gb101, 1, none⟩ = some (.int .i64 a0_1) ∧ w'.cell? ⟨gb102, 0, none⟩ = some (.int .i64 a1_0) ∧ w'.cell? ⟨gb102, 1, none⟩ = some (.int .i64 a1_1) ∧ w'.cell? ⟨gb103, 0, none⟩ = some (.int .i64 a2_0) ∧ w'.cell? ⟨gb103, 1, none⟩ = some (.int .i64 a2_1) ∧ w'.cell? ⟨gb104, 0, none⟩ = some (.int .i64 a3_0) ∧ w'.cell? ⟨gb104, 1, none⟩ = some (.int .i64 a3_1) ∧ w'.cell? (ad170.add ((x16_3).toNat * 4)) = some (.bool ((rd_T58 x11_2 x16_3).f0.f0)) ∧ w'.cell? ⟨(ad170.add ((x16_3).toNat * 4)).block, (ad170.add ((x16_3).toNat * 4)).off + 1, none⟩ = some (.slice A170_1 ((rd_T58 x11_2 x16_3).f0.f1).length c170_1) ∧ w'.cell? ⟨(ad170.add ((x16_3).toNat * 4)).block, (ad170.add ((x16_3).toNat * 4)).off + 2, none⟩ = some (.bool ((rd_T58 x11_2 x16_3).f1.f0)) ∧ w'.cell? ⟨(ad170.add ((x16_3).toNat * 4)).block, (ad170.add ((x16_3).toNat * 4)).off + 3, none⟩ = some (.slice A170_3 ((rd_T58 x11_2 x16_3).f1.f1).length c170_3)) (ds := []) (Array.replicate 32 false) (by kernel_rfl) rfl rfl ⟨(blk_cell BK101.out 0).trans rfl, (blk_cell BK101.out 1).trans rfl, (blk_cell BK102.out 0).trans rfl, (blk_cell BK102.out 1).trans rfl, (blk_cell BK103.out 0).trans rfl, (blk_cell BK103.out 1).trans rfl, (blk_cell BK104.out 0).trans rfl, (blk_cell BK104.out 1).trans rfl, hx170_0, hx170_1, hx170_2, hx170_3⟩ (fun hHeld => ?_); refine with_tabW cobwebref06_Meets.tab18 cobwebref06_Meets.bits18 (fun HT_ HW_ => ?_)
                generalize wr.drew = w180 at HO_11 BK101 BK102 BK103 BK104 HB HL170_1 HL170_3 HR170_1 HR170_3 hx170_0 hx170_1 hx170_2 hx170_3 hHeld ⊢
                refine pureq_ 0 122 HT_ ?_
                refine pureq_ 2 124 HT_ ?_
                refine pureq_ 4 126 HT_ ?_
                refine pureq_ 5 127 HT_ ?_
                refine pureq_ 6 128 HT_ ?_
                refine pureq_ 9 131 HT_ ?_
                refine pureq_ 11 133 HT_ ?_
                refine pureq_ 13 135 HT_ ?_
                refine takeq_ 1 123 HT_ HW_ hHeld ?_
                refine takeq_ 3 125 HT_ HW_ hHeld ?_
                refine takeq_ 7 129 HT_ HW_ hHeld ?_
                refine takeq_ 10 132 HT_ HW_ hHeld ?_
                refine takeq_ 12 134 HT_ HW_ hHeld ?_
                refine oneq_ 8 (some 130) HT_ (fun K hK => ?_)
                refine goesq_ Try.func33 #[.int .i64 a0_0, .int .i64 a1_0, .agg #[.bool ((rd_T58 x11_2 x16_3).f0.f0), .slice A170_1 ((rd_T58 x11_2 x16_3).f0.f1).length c170_1, .bool ((rd_T58 x11_2 x16_3).f1.f0), .slice A170_3 ((rd_T58 x11_2 x16_3).f1.f1).length c170_3]] ?_
                with_reducible refine (cobwebref06_on.calls k3 a0_0 a1_0 ((rd_T58 x11_2 x16_3).f0.f0) _ _ ((rd_T58 x11_2 x16_3).f0.f1) ((rd_T58 x11_2 x16_3).f1.f0) _ _ ((rd_T58 x11_2 x16_3).f1.f1) t171 t172 t175 t176 _ ?side1 ?side2 ?side3 ?side4 A153.out).mono ?_
                (case side1 => exact c_ HR170_1.out)
                (case side2 => exact HC170_1.out)
                (case side3 => exact c_ HR170_3.out)
                (case side4 => exact HC170_3.out)
                rintro e w181 ⟨v173, v177, rfl, ho0, ho1, hb⟩
                have HS8_ := (hb.cell (World.block_lt_of_cell? _ _ (hHeld.2.2.2.2.2.2.2.2.1))).trans (hHeld.2.2.2.2.2.2.2.2.1)
                have HS9_ := (hb.cell (World.block_lt_of_cell? _ _ (hHeld.2.2.2.2.2.2.2.2.2.1))).trans (hHeld.2.2.2.2.2.2.2.2.2.1)
                have HS10_ := (hb.cell (World.block_lt_of_cell? _ _ (hHeld.2.2.2.2.2.2.2.2.2.2.1))).trans (hHeld.2.2.2.2.2.2.2.2.2.2.1)
                have HS11_ := (hb.cell (World.block_lt_of_cell? _ _ (hHeld.2.2.2.2.2.2.2.2.2.2.2))).trans (hHeld.2.2.2.2.2.2.2.2.2.2.2)
                refine ⟨_, rfl, ?_⟩
                replace HL170_1 := A_ (Kd.V_below (v_ HL170_1.out) hb)
                replace HL170_3 := A_ (Kd.V_below (v_ HL170_3.out) hb)
                have HO174 := A_ (Kd.V_lower (Kd.V_mono (ok' := fun k_ => some k_ ≠ (.slice (some ad170) x11_2.length co179 : Value).ownBlock ∧ k_ ≠ gb101 ∧ k_ ≠ gb102 ∧ k_ ≠ gb103 ∧ k_ ≠ gb104) ho0 (fun k_ hk_ => ⟨(Kd.fresh' (Kd.N_lt (n_ HO_11.out)) k_ hk_), (Kd.freshB (b_ BK101) k_ hk_), (Kd.freshB (b_ BK102) k_ hk_), (Kd.freshB (b_ BK103) k_ hk_), (Kd.freshB (b_ BK104) k_ hk_)⟩)) (below_size (l_ HB)))
                have HO178 := A_ (Kd.V_lower (Kd.V_mono (ok' := fun k_ => some k_ ≠ (.slice (some ad170) x11_2.length co179 : Value).ownBlock ∧ k_ ≠ gb101 ∧ k_ ≠ gb102 ∧ k_ ≠ gb103 ∧ k_ ≠ gb104) ho1 (fun k_ hk_ => ⟨(Kd.fresh' (Kd.N_lt (n_ HO_11.out)) k_ hk_), (Kd.freshB (b_ BK101) k_ hk_), (Kd.freshB (b_ BK102) k_ hk_), (Kd.freshB (b_ BK103) k_ hk_), (Kd.freshB (b_ BK104) k_ hk_)⟩)) (below_size (l_ HB)))
                replace HO_11 := A_ (Kd.N_below (n_ HO_11.out) hb)
                replace BK101 := bb_ BK101 hb
                replace BK102 := bb_ BK102 hb
                replace BK103 := bb_ BK103 hb
                replace BK104 := bb_ BK104 hb
                replace HR170_1 := A_ (Kd.C_below (c_ HR170_1.out) hb)
                replace HR170_3 := A_ (Kd.C_below (c_ HR170_3.out) hb)
                replace HB := st_ HB hb
                try clear hb ho0 ho1
                obtain ⟨Ao182, co182, eo182⟩ := Kd.V_slice HO174.out
                (first | subst eo182 | (injection eo182 with f1_ f2_ f3_; have f4_ := f1_.symm; have f5_ := f3_.symm; clear f1_ f2_ f3_; subst f4_; subst f5_))
                obtain ⟨Ao183, co183, eo183⟩ := Kd.V_slice HO178.out
                (first | subst eo183 | (injection eo183 with f1_ f2_ f3_; have f4_ := f1_.symm; have f5_ := f3_.symm; clear f1_ f2_ f3_; subst f4_; subst f5_))
                refine hK.out _ _ ⟨(blk_cell BK101.out 0).trans rfl, (blk_cell BK101.out 1).trans rfl, (blk_cell BK102.out 0).trans rfl, (blk_cell BK102.out 1).trans rfl, (blk_cell BK103.out 0).trans rfl, (blk_cell BK103.out 1).trans rfl, (blk_cell BK104.out 0).trans rfl, (blk_cell BK104.out 1).trans rfl, HS8_, HS9_, HS10_, HS11_⟩ (fun hHeld => ?_)
                clear hK K
                refine normq_ 130 ?_
                refine oneq_ 14 (some 136) HT_ (fun K hK => ?_)
                refine goesq_ Try.func32 #[.agg #[.bool t171, .slice Ao182 t172.length co182, .bool t175, .slice Ao183 t176.length co183], .int .i64 a2_0, .int .i64 a3_0, .int .i64 a4] ?_
                with_reducible refine (cobwebref06_within.calls k3 t171 _ _ t172 t175 _ _ t176 a2_0 a3_0 a4 false _ ?side1 ?side2 ?side3 ?side4 A154.out).mono ?_
                (case side1 => exact c_ (Kd.V_reads' HO174.out).2.2)
                (case side2 => exact (Kd.V_reads' HO174.out).2.1)
                (case side3 => exact c_ (Kd.V_reads' HO178.out).2.2)
                (case side4 => exact (Kd.V_reads' HO178.out).2.1)
                rintro e w184 ⟨rfl, hb⟩
                have HS8_ := (hb.cell (World.block_lt_of_cell? _ _ (hHeld.2.2.2.2.2.2.2.2.1))).trans (hHeld.2.2.2.2.2.2.2.2.1)
                have HS9_ := (hb.cell (World.block_lt_of_cell? _ _ (hHeld.2.2.2.2.2.2.2.2.2.1))).trans (hHeld.2.2.2.2.2.2.2.2.2.1)
                have HS10_ := (hb.cell (World.block_lt_of_cell? _ _ (hHeld.2.2.2.2.2.2.2.2.2.2.1))).trans (hHeld.2.2.2.2.2.2.2.2.2.2.1)
                have HS11_ := (hb.cell (World.block_lt_of_cell? _ _ (hHeld.2.2.2.2.2.2.2.2.2.2.2))).trans (hHeld.2.2.2.2.2.2.2.2.2.2.2)
                refine ⟨_, rfl, ?_⟩
                replace HO_11 := A_ (Kd.N_below (n_ HO_11.out) hb)
                replace HL170_1 := A_ (Kd.V_below (v_ HL170_1.out) hb)
                replace HL170_3 := A_ (Kd.V_below (v_ HL170_3.out) hb)
                replace HO174 := A_ (Kd.V_below (v_ HO174.out) hb)
                replace HO178 := A_ (Kd.V_below (v_ HO178.out) hb)
                replace BK101 := bb_ BK101 hb
                replace BK102 := bb_ BK102 hb
                replace BK103 := bb_ BK103 hb
                replace BK104 := bb_ BK104 hb
                replace HR170_1 := A_ (Kd.C_below (c_ HR170_1.out) hb)
                replace HR170_3 := A_ (Kd.C_below (c_ HR170_3.out) hb)
                replace HB := st_ HB hb
                try clear hb
                refine hK.out _ _ ⟨(blk_cell BK101.out 0).trans rfl, (blk_cell BK101.out 1).trans rfl, (blk_cell BK102.out 0).trans rfl, (blk_cell BK102.out 1).trans rfl, (blk_cell BK103.out 0).trans rfl, (blk_cell BK103.out 1).trans rfl, (blk_cell BK104.out 0).trans rfl, (blk_cell BK104.out 1).trans rfl, HS8_, HS9_, HS10_, HS11_⟩ (fun hHeld => ?_)
                clear hK K
                refine normq_ 136 ?_
                refine pureq_ 15 137 HT_ ?_
                refine puren_ 16 138 HT_ ?_
                refine puren_ 17 139 HT_ ?_
                refine puren_ 18 140 HT_ ?_
                refine puren_ 19 141 HT_ ?_
                refine puren_ 20 142 HT_ ?_
                refine puren_ 21 143 HT_ ?_
                refine puren_ 22 144 HT_ ?_
                refine puren_ 23 145 HT_ ?_
                refine puren_ 24 146 HT_ ?_
                refine puren_ 25 147 HT_ ?_
                refine puren_ 26 148 HT_ ?_
                refine puren_ 27 149 HT_ ?_
                refine puren_ 28 150 HT_ ?_
                refine puren_ 29 151 HT_ ?_
                refine puren_ 30 152 HT_ ?_
                refine pureq_ 31 153 HT_ ?_
                refine done_ (done_of HT_.out (by kernel_rfl)) ?_
                try go_wp2
                go_roundg k3
                case measure => have := HJ5.out; have := HK2.out; have := HK3.out; omega
                case rel => exact ⟨(wrap64 (x16_3 + 1)), (by first | rfl | (simp; done) | (simp [*]; done)), H', ⟨by have := HJ5.out; have := HK2.out; have := HK3.out; omega⟩, ⟨by (with_reducible repeat (first | apply Kd.N_alloc | apply Kd.N_drewN | apply Kd.N_drew)); exact HO_11.out⟩, ⟨b_ BK101⟩, ⟨b_ BK102⟩, ⟨b_ BK103⟩, ⟨b_ BK104⟩, ⟨l_ HB⟩⟩
              ·rw [if_neg c152] at H
               exact absurd H (by simp)
             ·rw [if_neg c151] at H
              have c151b0 : decide (x16_3 < (x11_2.length : Int)) = false := decide_eq_false c151
              clear c151
              obtain rfl := Option.some.inj H
              obtain ⟨Ao185, co185, eo185⟩ := Kd.N_slice HO_11.out
              subst eo185
              go_wp2
              go_ret
              exact ⟨by first | rfl | (simp [errW_none, errW_some] <;> rfl) | (simp [*, errW_none, errW_some] <;> rfl), l_ HB⟩
       ·rw [if_neg c100] at H
        exact absurd H (by simp)
      ·rw [if_neg c98] at H
       exact absurd H (by simp)
     ·rw [if_neg c96] at H
      exact absurd H (by simp)
    ·rw [if_neg c94] at H
     exact absurd H (by simp)

end Go.Proofs.Ytglkjeeiiflpjaa.F
