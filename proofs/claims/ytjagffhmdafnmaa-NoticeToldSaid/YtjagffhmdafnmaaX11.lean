-- Written for this claim by a program of this session (wip/tools/xprint.py) out of the translation.
import Derived.Test.YtjagffhmdafnmaaX0
import Derived.Test.YtjagffhmdafnmaaX1
import Derived.Test.YtjagffhmdafnmaaX3
import Derived.Test.YtjagffhmdafnmaaX4
import Derived.Test.YtjagffhmdafnmaaEAnswer
namespace Go.Proofs.Ytjagffhmdafnmaa.X
open Go.RowKit Go.Proofs.YtjagffhmdafnmaaW.PrintWords Go.Proofs.YtjagffhmdafnmaaW.PrintLast Go.Proofs.YtjagffhmdafnmaaW.PrintMore
attribute [local go_sem] max2_int min2_int max_two min_two max_three min_three max_four min_four   -- for this text's walks alone
set_option linter.unusedVariables false
set_option linter.unusedSimpArgs false

attribute [local go_sem high] eqA36
/-! ### supercargolaw35_NoticeTold: function 6 -/
mutual
def supercargolaw35_NoticeTold.j0 : Nat → Int → Int → List (S36) → List (S36) → Int → Int → Bool → List Int → List Int → Option (Bool)
  | 0, _, _, _, _, _, _, _, _, _ => none
  | k + 1, x1, x2, x3, x4, x5, x13, x60, x229000, x229001 => if x60 = true then (some true) else (if x2 ≥ x1 then (supercargolaw35_NoticeTold.j1 k x1 x2 x3 x4 x5 (decide (x2 ≤ x13)) x229000 x229001) else (supercargolaw35_NoticeTold.j1 k x1 x2 x3 x4 x5 false x229000 x229001))
def supercargolaw35_NoticeTold.j1 : Nat → Int → Int → List (S36) → List (S36) → Int → Bool → List Int → List Int → Option (Bool)
  | 0, _, _, _, _, _, _, _, _ => none
  | k + 1, x1, x2, x3, x4, x5, x15, x229000, x229001 => (some (([] : List (S36)) : List (S36))).bind fun y233 => (if y233.length + x4.length < 3518437208883 then ((some (y233 ++ x4 : List (S36))).bind fun y236 => (if 0 ≤ x5 then (if x5 < (x3.length : Int) then ((some (([(⟨(rd_T36 x3 x5).f0, (rd_T36 x3 x5).f1, (rd_T36 x3 x5).f2, (rd_T36 x3 x5).f3⟩ : S36)] : List (S36)) : List (S36))).bind fun y240 => (if y236.length + y240.length < 3518437208883 then (supercargolaw35_NoticeTold.l0 k x1 x2 x3 x4 x15 (y236 ++ y240) ([] : List (S36)) 0 x229000 x229001) else (none))) else (none)) else (none))) else (none))
def supercargolaw35_NoticeTold.l0 : Nat → Int → Int → List (S36) → List (S36) → Bool → List (S36) → List (S36) → Int → List Int → List Int → Option (Bool)
  | 0, _, _, _, _, _, _, _, _, _, _ => none
  | k + 1, x1, x2, x3, x4, x15, x16, x17, x18, x229000, x229001 => if x18 < (x4.length : Int) then (supercargolaw35_NoticeTold.l1 k x1 x2 x3 x4 x15 x16 x17 x18 false 0 x229000 x229001) else ((notice_Answer.f k x229000 x229001 x1 x2 x3 x16).bind fun t246 => (if ((t246 == 1) == x15) = true then ((notice_Answer.f k x229000 x229001 x1 x2 x3 x17).bind fun t247 => (if t247 = 2 then ((notice_Answer.f k x229000 x229001 x1 x2 ([] : List (S36)) x16).bind fun t248 => (some (t248 == 0))) else (some false))) else (some false)))
def supercargolaw35_NoticeTold.l1 : Nat → Int → Int → List (S36) → List (S36) → Bool → List (S36) → List (S36) → Int → Bool → Int → List Int → List Int → Option (Bool)
  | 0, _, _, _, _, _, _, _, _, _, _, _, _ => none
  | k + 1, x1, x2, x3, x4, x15, x16, x17, x18, x19, x20, x229000, x229001 => if x20 < (x3.length : Int) then (if x19 = true then (supercargolaw35_NoticeTold.l1 k x1 x2 x3 x4 x15 x16 x17 x18 true (wrap64 (x20 + 1)) x229000 x229001) else (if 0 ≤ x20 then (if 0 ≤ x18 then (if x18 < (x4.length : Int) then (supercargolaw35_NoticeTold.l1 k x1 x2 x3 x4 x15 x16 x17 x18 (((rd_T36 x3 x20).f0) == ((rd_T36 x4 x18).f0) && (((rd_T36 x3 x20).f1) == ((rd_T36 x4 x18).f1) && ((((rd_T36 x3 x20).f2).toList) == (((rd_T36 x4 x18).f2).toList) && (((rd_T36 x3 x20).f3) == ((rd_T36 x4 x18).f3))))) (wrap64 (x20 + 1)) x229000 x229001) else (none)) else (none)) else (none))) else (if x19 = true then (supercargolaw35_NoticeTold.l0 k x1 x2 x3 x4 x15 x16 x17 (wrap64 (x18 + 1)) x229000 x229001) else (if 0 ≤ x18 then (if x18 < (x4.length : Int) then ((some (([(⟨(rd_T36 x4 x18).f0, (rd_T36 x4 x18).f1, (rd_T36 x4 x18).f2, (rd_T36 x4 x18).f3⟩ : S36)] : List (S36)) : List (S36))).bind fun y252 => (if x17.length + y252.length < 3518437208883 then (supercargolaw35_NoticeTold.l0 k x1 x2 x3 x4 x15 x16 (x17 ++ y252) (wrap64 (x18 + 1)) x229000 x229001) else (none))) else (none)) else (none)))
end
def supercargolaw35_NoticeTold.f (k : Nat) (l0_0 : List Int) (l0_1 : List Int) (a1 : Int) (a2 : Int) (l3 : List (S36)) (l4 : List (S36)) (a5 : Int) : Option (Bool) := (supercargolaw35_awake.f k).bind fun t229 => (if t229 = true then ((notice_Deadline.f k l0_0 l0_1 a1).bind fun bt230 => ((supercargolaw35_few.f l0_0 l0_1).bind fun t232 => (if t232 = true then (if bt230.2 = true then (if (l3.length : Int) = 0 then (supercargolaw35_NoticeTold.j0 k a1 a2 l3 l4 a5 bt230.1 true l0_0 l0_1) else (if (l3.length : Int) > 30 then (supercargolaw35_NoticeTold.j0 k a1 a2 l3 l4 a5 bt230.1 true l0_0 l0_1) else (if (l4.length : Int) > 30 then (supercargolaw35_NoticeTold.j0 k a1 a2 l3 l4 a5 bt230.1 true l0_0 l0_1) else (if a5 < 0 then (supercargolaw35_NoticeTold.j0 k a1 a2 l3 l4 a5 bt230.1 true l0_0 l0_1) else (supercargolaw35_NoticeTold.j0 k a1 a2 l3 l4 a5 bt230.1 (decide (a5 ≥ (l3.length : Int))) l0_0 l0_1))))) else (supercargolaw35_NoticeTold.j0 k a1 a2 l3 l4 a5 bt230.1 true l0_0 l0_1)) else (supercargolaw35_NoticeTold.j0 k a1 a2 l3 l4 a5 bt230.1 true l0_0 l0_1)))) else (some false))
theorem supercargolaw35_NoticeTold.mono_l : ∀ k, (∀ y0 y1 y2 y3 y4 y5 y6 y7 y8, LeO (supercargolaw35_NoticeTold.j0 k y0 y1 y2 y3 y4 y5 y6 y7 y8) (supercargolaw35_NoticeTold.j0 (k + 1) y0 y1 y2 y3 y4 y5 y6 y7 y8)) ∧ (∀ y0 y1 y2 y3 y4 y5 y6 y7, LeO (supercargolaw35_NoticeTold.j1 k y0 y1 y2 y3 y4 y5 y6 y7) (supercargolaw35_NoticeTold.j1 (k + 1) y0 y1 y2 y3 y4 y5 y6 y7)) ∧ (∀ y0 y1 y2 y3 y4 y5 y6 y7 y8 y9, LeO (supercargolaw35_NoticeTold.l0 k y0 y1 y2 y3 y4 y5 y6 y7 y8 y9) (supercargolaw35_NoticeTold.l0 (k + 1) y0 y1 y2 y3 y4 y5 y6 y7 y8 y9)) ∧ (∀ y0 y1 y2 y3 y4 y5 y6 y7 y8 y9 y10 y11, LeO (supercargolaw35_NoticeTold.l1 k y0 y1 y2 y3 y4 y5 y6 y7 y8 y9 y10 y11) (supercargolaw35_NoticeTold.l1 (k + 1) y0 y1 y2 y3 y4 y5 y6 y7 y8 y9 y10 y11))
  | 0 => ⟨fun _ _ _ _ _ _ _ _ _ r h => by simp [supercargolaw35_NoticeTold.j0] at h, fun _ _ _ _ _ _ _ _ r h => by simp [supercargolaw35_NoticeTold.j1] at h, fun _ _ _ _ _ _ _ _ _ _ r h => by simp [supercargolaw35_NoticeTold.l0] at h, fun _ _ _ _ _ _ _ _ _ _ _ _ r h => by simp [supercargolaw35_NoticeTold.l1] at h⟩
  | k + 1 => by
    obtain ⟨ih0, ih1, ih2, ih3⟩ := supercargolaw35_NoticeTold.mono_l k
    refine ⟨?_, ?_, ?_, ?_⟩
    · intro y0 y1 y2 y3 y4 y5 y6 y7 y8
      unfold supercargolaw35_NoticeTold.j0
      repeat' first
      | (with_reducible exact ih0 _ _ _ _ _ _ _ _ _)
      | (with_reducible exact ih1 _ _ _ _ _ _ _ _)
      | (with_reducible exact ih2 _ _ _ _ _ _ _ _ _ _)
      | (with_reducible exact ih3 _ _ _ _ _ _ _ _ _ _ _ _)
      | (with_reducible exact notice_Answer.mono _ _ _ _ _ _ _)
      | (with_reducible exact notice_Deadline.mono _ _ _ _)
      | (with_reducible exact supercargolaw35_awake.mono _)
      | (with_reducible exact LeO.refl _)
      | (with_reducible exact LeO.none _)
      | (with_reducible refine LeO.ite ?_ ?_)
      | (with_reducible refine LeO.bind ?_ (fun _ => ?_))
      | exact ih0 _ _ _ _ _ _ _ _ _
      | exact ih1 _ _ _ _ _ _ _ _
      | exact ih2 _ _ _ _ _ _ _ _ _ _
      | exact ih3 _ _ _ _ _ _ _ _ _ _ _ _
      | exact notice_Answer.mono _ _ _ _ _ _ _
      | exact notice_Deadline.mono _ _ _ _
      | exact supercargolaw35_awake.mono _
      | exact LeO.none _
      | refine LeO.ite ?_ ?_
      | refine LeO.bind ?_ (fun _ => ?_)
    · intro y0 y1 y2 y3 y4 y5 y6 y7
      unfold supercargolaw35_NoticeTold.j1
      repeat' first
      | (with_reducible exact ih0 _ _ _ _ _ _ _ _ _)
      | (with_reducible exact ih1 _ _ _ _ _ _ _ _)
      | (with_reducible exact ih2 _ _ _ _ _ _ _ _ _ _)
      | (with_reducible exact ih3 _ _ _ _ _ _ _ _ _ _ _ _)
      | (with_reducible exact notice_Answer.mono _ _ _ _ _ _ _)
      | (with_reducible exact notice_Deadline.mono _ _ _ _)
      | (with_reducible exact supercargolaw35_awake.mono _)
      | (with_reducible exact LeO.refl _)
      | (with_reducible exact LeO.none _)
      | (with_reducible refine LeO.ite ?_ ?_)
      | (with_reducible refine LeO.bind ?_ (fun _ => ?_))
      | exact ih0 _ _ _ _ _ _ _ _ _
      | exact ih1 _ _ _ _ _ _ _ _
      | exact ih2 _ _ _ _ _ _ _ _ _ _
      | exact ih3 _ _ _ _ _ _ _ _ _ _ _ _
      | exact notice_Answer.mono _ _ _ _ _ _ _
      | exact notice_Deadline.mono _ _ _ _
      | exact supercargolaw35_awake.mono _
      | exact LeO.none _
      | refine LeO.ite ?_ ?_
      | refine LeO.bind ?_ (fun _ => ?_)
    · intro y0 y1 y2 y3 y4 y5 y6 y7 y8 y9
      unfold supercargolaw35_NoticeTold.l0
      repeat' first
      | (with_reducible exact ih0 _ _ _ _ _ _ _ _ _)
      | (with_reducible exact ih1 _ _ _ _ _ _ _ _)
      | (with_reducible exact ih2 _ _ _ _ _ _ _ _ _ _)
      | (with_reducible exact ih3 _ _ _ _ _ _ _ _ _ _ _ _)
      | (with_reducible exact notice_Answer.mono _ _ _ _ _ _ _)
      | (with_reducible exact notice_Deadline.mono _ _ _ _)
      | (with_reducible exact supercargolaw35_awake.mono _)
      | (with_reducible exact LeO.refl _)
      | (with_reducible exact LeO.none _)
      | (with_reducible refine LeO.ite ?_ ?_)
      | (with_reducible refine LeO.bind ?_ (fun _ => ?_))
      | exact ih0 _ _ _ _ _ _ _ _ _
      | exact ih1 _ _ _ _ _ _ _ _
      | exact ih2 _ _ _ _ _ _ _ _ _ _
      | exact ih3 _ _ _ _ _ _ _ _ _ _ _ _
      | exact notice_Answer.mono _ _ _ _ _ _ _
      | exact notice_Deadline.mono _ _ _ _
      | exact supercargolaw35_awake.mono _
      | exact LeO.none _
      | refine LeO.ite ?_ ?_
      | refine LeO.bind ?_ (fun _ => ?_)
    · intro y0 y1 y2 y3 y4 y5 y6 y7 y8 y9 y10 y11
      unfold supercargolaw35_NoticeTold.l1
      repeat' first
      | (with_reducible exact ih0 _ _ _ _ _ _ _ _ _)
      | (with_reducible exact ih1 _ _ _ _ _ _ _ _)
      | (with_reducible exact ih2 _ _ _ _ _ _ _ _ _ _)
      | (with_reducible exact ih3 _ _ _ _ _ _ _ _ _ _ _ _)
      | (with_reducible exact notice_Answer.mono _ _ _ _ _ _ _)
      | (with_reducible exact notice_Deadline.mono _ _ _ _)
      | (with_reducible exact supercargolaw35_awake.mono _)
      | (with_reducible exact LeO.refl _)
      | (with_reducible exact LeO.none _)
      | (with_reducible refine LeO.ite ?_ ?_)
      | (with_reducible refine LeO.bind ?_ (fun _ => ?_))
      | exact ih0 _ _ _ _ _ _ _ _ _
      | exact ih1 _ _ _ _ _ _ _ _
      | exact ih2 _ _ _ _ _ _ _ _ _ _
      | exact ih3 _ _ _ _ _ _ _ _ _ _ _ _
      | exact notice_Answer.mono _ _ _ _ _ _ _
      | exact notice_Deadline.mono _ _ _ _
      | exact supercargolaw35_awake.mono _
      | exact LeO.none _
      | refine LeO.ite ?_ ?_
      | refine LeO.bind ?_ (fun _ => ?_)
theorem supercargolaw35_NoticeTold.mono : ∀ a0 a1 a2 a3 a4 a5 a6 k, LeO (supercargolaw35_NoticeTold.f k a0 a1 a2 a3 a4 a5 a6) (supercargolaw35_NoticeTold.f (k + 1) a0 a1 a2 a3 a4 a5 a6) := by
  intro a0 a1 a2 a3 a4 a5 a6 k
  obtain ⟨ih0, ih1, ih2, ih3⟩ := supercargolaw35_NoticeTold.mono_l k
  unfold supercargolaw35_NoticeTold.f
  repeat' first
      | (with_reducible exact ih0 _ _ _ _ _ _ _ _ _)
      | (with_reducible exact ih1 _ _ _ _ _ _ _ _)
      | (with_reducible exact ih2 _ _ _ _ _ _ _ _ _ _)
      | (with_reducible exact ih3 _ _ _ _ _ _ _ _ _ _ _ _)
      | (with_reducible exact notice_Answer.mono _ _ _ _ _ _ _)
      | (with_reducible exact notice_Deadline.mono _ _ _ _)
      | (with_reducible exact supercargolaw35_awake.mono _)
      | (with_reducible exact LeO.refl _)
      | (with_reducible exact LeO.none _)
      | (with_reducible refine LeO.ite ?_ ?_)
      | (with_reducible refine LeO.bind ?_ (fun _ => ?_))
      | exact ih0 _ _ _ _ _ _ _ _ _
      | exact ih1 _ _ _ _ _ _ _ _
      | exact ih2 _ _ _ _ _ _ _ _ _ _
      | exact ih3 _ _ _ _ _ _ _ _ _ _ _ _
      | exact notice_Answer.mono _ _ _ _ _ _ _
      | exact notice_Deadline.mono _ _ _ _
      | exact supercargolaw35_awake.mono _
      | exact LeO.none _
      | refine LeO.ite ?_ ?_
      | refine LeO.bind ?_ (fun _ => ?_)
def supercargolaw35_NoticeTold.T7 : Bool × List (List Nat × List Nat) := (true, [([], []), ([], []), ([0, 1], [0, 1]), ([], []), ([], []), ([3, 4], [3, 4]), ([5], [5]), ([6], [6]), ([2, 7, 2], [2, 7]), ([8, 8, 0, 1, 2, 3, 4, 5, 6, 7, 8], [8])])
def supercargolaw35_NoticeTold.B7 : List Nat := [0, 0, 3, 0, 0, 24, 56, 120, 255, 511]
theorem supercargolaw35_NoticeTold.tab7 : rtab .any (opsOf Try.f6 7) = supercargolaw35_NoticeTold.T7 := by kernel_rfl
theorem supercargolaw35_NoticeTold.bits7 : waitsOk supercargolaw35_NoticeTold.T7.2 supercargolaw35_NoticeTold.B7 = true := by kernel_rfl
def supercargolaw35_NoticeTold.T16 : Bool × List (List Nat × List Nat) := (true, [([], []), ([0], [0]), ([1], [1]), ([1], [1]), ([2, 3, 1], [1, 2, 3]), ([4, 1], [1, 4]), ([1], [1]), ([1], [1]), ([6, 7, 1], [1, 6, 7]), ([8, 1], [1, 8]), ([5, 9, 1], [1, 5, 9]), ([1, 10], [1, 10]), ([11, 1, 0, 1, 2, 3, 4, 5, 6, 7, 8, 9, 10, 11], [0, 11])])
def supercargolaw35_NoticeTold.B16 : List Nat := [0, 1, 3, 3, 15, 31, 3, 3, 195, 451, 1023, 2047, 4095]
theorem supercargolaw35_NoticeTold.tab16 : rtab .any (opsOf Try.f6 16) = supercargolaw35_NoticeTold.T16 := by kernel_rfl
theorem supercargolaw35_NoticeTold.bits16 : waitsOk supercargolaw35_NoticeTold.T16.2 supercargolaw35_NoticeTold.B16 = true := by kernel_rfl
set_option maxHeartbeats 8000000 in
set_option maxRecDepth 100000 in
theorem supercargolaw35_NoticeTold.calls (k : Nat) (A0_0 : Option Addr) (c0_0 : Nat) (l0_0 : List Int) (A0_1 : Option Addr) (c0_1 : Nat) (l0_1 : List Int) (a1 : Int) (a2 : Int) (A3 : Option Addr) (c3 : Nat) (l3 : List (S36)) (A4 : Option Addr) (c4 : Nat) (l4 : List (S36)) (a5 : Int) (r : Bool) (w : World) (hr0_0 : Kd.C (Kd.int .i64) w A0_0 l0_0.length l0_0) (hc0_0 : l0_0.length ≤ c0_0) (hr0_1 : Kd.C (Kd.int .i64) w A0_1 l0_1.length l0_1) (hc0_1 : l0_1.length ≤ c0_1) (hr3 : Kd.C k36 w A3 l3.length l3) (hc3 : l3.length ≤ c3) (hr4 : Kd.C k36 w A4 l4.length l4) (hc4 : l4.length ≤ c4) (h : supercargolaw35_NoticeTold.f k l0_0 l0_1 a1 a2 l3 l4 a5 = some r) (hT : Aside0 (r = true)) :
    Calls Try.prog 6 #[.agg #[.slice A0_0 l0_0.length c0_0, .slice A0_1 l0_1.length c0_1], .int .i64 a1, .int .i64 a2, .slice A3 l3.length c3, .slice A4 l4.length c4, .int .i64 a5] w fun e w' => e = .returned (.bool r) ∧ Below w.heap.size w w' := by
  have hu24 := Try.underlying24
  have hu36 := Try.underlying36
  have HR0_0 := Aside0.mk hr0_0
  have HC0_0 := Aside0.mk hc0_0
  clear hr0_0 hc0_0
  have HR0_1 := Aside0.mk hr0_1
  have HC0_1 := Aside0.mk hc0_1
  clear hr0_1 hc0_1
  have HR3 := Aside0.mk hr3
  have HC3 := Aside0.mk hc3
  clear hr3 hc3
  have HR4 := Aside0.mk hr4
  have HC4 := Aside0.mk hc4
  clear hr4 hc4
  have HB := Aside0.mk (Below.refl w.heap.size w)
  have H : ((supercargolaw35_awake.f k).bind fun t229 => (if t229 = true then ((notice_Deadline.f k l0_0 l0_1 a1).bind fun bt230 => ((supercargolaw35_few.f l0_0 l0_1).bind fun t232 => (if t232 = true then (if bt230.2 = true then (if (l3.length : Int) = 0 then (supercargolaw35_NoticeTold.j0 k a1 a2 l3 l4 a5 bt230.1 true l0_0 l0_1) else (if (l3.length : Int) > 30 then (supercargolaw35_NoticeTold.j0 k a1 a2 l3 l4 a5 bt230.1 true l0_0 l0_1) else (if (l4.length : Int) > 30 then (supercargolaw35_NoticeTold.j0 k a1 a2 l3 l4 a5 bt230.1 true l0_0 l0_1) else (if a5 < 0 then (supercargolaw35_NoticeTold.j0 k a1 a2 l3 l4 a5 bt230.1 true l0_0 l0_1) else (supercargolaw35_NoticeTold.j0 k a1 a2 l3 l4 a5 bt230.1 (decide (a5 ≥ (l3.length : Int))) l0_0 l0_1))))) else (supercargolaw35_NoticeTold.j0 k a1 a2 l3 l4 a5 bt230.1 true l0_0 l0_1)) else (supercargolaw35_NoticeTold.j0 k a1 a2 l3 l4 a5 bt230.1 true l0_0 l0_1)))) else (some false))) = some r := h
  clear h
  replace H := Option.bind_eq_some_iff.mp H
  obtain ⟨t229, A70, H⟩ := H
  replace H : (if t229 = true then ((notice_Deadline.f k l0_0 l0_1 a1).bind fun bt230 => ((supercargolaw35_few.f l0_0 l0_1).bind fun t232 => (if t232 = true then (if bt230.2 = true then (if (l3.length : Int) = 0 then (supercargolaw35_NoticeTold.j0 k a1 a2 l3 l4 a5 bt230.1 true l0_0 l0_1) else (if (l3.length : Int) > 30 then (supercargolaw35_NoticeTold.j0 k a1 a2 l3 l4 a5 bt230.1 true l0_0 l0_1) else (if (l4.length : Int) > 30 then (supercargolaw35_NoticeTold.j0 k a1 a2 l3 l4 a5 bt230.1 true l0_0 l0_1) else (if a5 < 0 then (supercargolaw35_NoticeTold.j0 k a1 a2 l3 l4 a5 bt230.1 true l0_0 l0_1) else (supercargolaw35_NoticeTold.j0 k a1 a2 l3 l4 a5 bt230.1 (decide (a5 ≥ (l3.length : Int))) l0_0 l0_1))))) else (supercargolaw35_NoticeTold.j0 k a1 a2 l3 l4 a5 bt230.1 true l0_0 l0_1)) else (supercargolaw35_NoticeTold.j0 k a1 a2 l3 l4 a5 bt230.1 true l0_0 l0_1)))) else (some false)) = some r := H
  have A7 := Aside0.mk A70
  clear A70
  by_cases c8 : t229 = true
  · subst c8
    have H1 : ((notice_Deadline.f k l0_0 l0_1 a1).bind fun bt230 => ((supercargolaw35_few.f l0_0 l0_1).bind fun t232 => (if t232 = true then (if bt230.2 = true then (if (l3.length : Int) = 0 then (supercargolaw35_NoticeTold.j0 k a1 a2 l3 l4 a5 bt230.1 true l0_0 l0_1) else (if (l3.length : Int) > 30 then (supercargolaw35_NoticeTold.j0 k a1 a2 l3 l4 a5 bt230.1 true l0_0 l0_1) else (if (l4.length : Int) > 30 then (supercargolaw35_NoticeTold.j0 k a1 a2 l3 l4 a5 bt230.1 true l0_0 l0_1) else (if a5 < 0 then (supercargolaw35_NoticeTold.j0 k a1 a2 l3 l4 a5 bt230.1 true l0_0 l0_1) else (supercargolaw35_NoticeTold.j0 k a1 a2 l3 l4 a5 bt230.1 (decide (a5 ≥ (l3.length : Int))) l0_0 l0_1))))) else (supercargolaw35_NoticeTold.j0 k a1 a2 l3 l4 a5 bt230.1 true l0_0 l0_1)) else (supercargolaw35_NoticeTold.j0 k a1 a2 l3 l4 a5 bt230.1 true l0_0 l0_1)))) = some r := by rw [if_pos rfl] at H; exact H
    clear H
    have H := H1
    clear H1
    replace H := Option.bind_eq_some_iff.mp H
    obtain ⟨⟨t230, t231⟩, A90, H⟩ := H
    replace H : ((supercargolaw35_few.f l0_0 l0_1).bind fun t232 => (if t232 = true then (if t231 = true then (if (l3.length : Int) = 0 then (supercargolaw35_NoticeTold.j0 k a1 a2 l3 l4 a5 t230 true l0_0 l0_1) else (if (l3.length : Int) > 30 then (supercargolaw35_NoticeTold.j0 k a1 a2 l3 l4 a5 t230 true l0_0 l0_1) else (if (l4.length : Int) > 30 then (supercargolaw35_NoticeTold.j0 k a1 a2 l3 l4 a5 t230 true l0_0 l0_1) else (if a5 < 0 then (supercargolaw35_NoticeTold.j0 k a1 a2 l3 l4 a5 t230 true l0_0 l0_1) else (supercargolaw35_NoticeTold.j0 k a1 a2 l3 l4 a5 t230 (decide (a5 ≥ (l3.length : Int))) l0_0 l0_1))))) else (supercargolaw35_NoticeTold.j0 k a1 a2 l3 l4 a5 t230 true l0_0 l0_1)) else (supercargolaw35_NoticeTold.j0 k a1 a2 l3 l4 a5 t230 true l0_0 l0_1))) = some r := H
    have A9 := Aside0.mk A90
    clear A90
    have HC10 := Aside0.mk H
    clear H
    go_enter Try.func6, Try.ntmps6
    go_upto_region 4 with (first | ((with_reducible refine gate_dst (N := 6) rfl ?_); (try (refine gate_guard (by rfl) ?_; dsimp only)); refine box_event ?hg (N := 6) ?hd (cs := #[.slice A0_0 l0_0.length c0_0, .slice A0_1 l0_1.length c0_1]) (t := 24) ?hr ?_; (case hd => rfl); (case hg => rfl); (case hr => first | (go_simp; done) | (go_simp; rfl)); intro gb228 hg w11 hbox hb; have n0_ := Aside0.mk (below_step (by repeat (first | (with_reducible first | exact HB.out | apply below_alloc | apply pw_below_drewN | apply below_drew1) | exact HB.out)) hb); have n1_ := Aside0.mk (hbox); have n2_ := Aside0.mk ((by rw [hg]; exact (below_size (by repeat (first | (with_reducible first | exact HB.out | apply below_alloc | apply pw_below_drewN | apply below_drew1) | exact HB.out))) : w.heap.size ≤ gb228)); have n3_ := Aside0.mk ((by rw [hg]; exact (below_size (by repeat (first | (with_reducible first | exact HB.out | apply below_alloc | apply pw_below_drewN | apply below_drew1) | exact HB.out))) : w.heap.size ≤ gb228)); clear HB; have HB := n0_; have BK228 := n1_; have GW228 := n2_; have GE228 := n3_; clear n0_ n1_ n2_ n3_; clear hb hbox hg) | ((with_reducible refine gate_callee (f := 9) rfl ?_); refine goesL_ (some 21) rfl rfl Try.func9 (by kernel_rfl) rfl #[] rfl (by (try simp only [List.map_toArray, List.map_cons, List.map_nil]); first | done | rfl | (simp only [List.length_drop, List.length_take]; rfl)) ?_; (with_reducible refine (supercargolaw35_awake.calls k  true _ A7.out).mono ?_); rintro e w12 ⟨rfl, hb⟩; refine ⟨_, rfl, ?_⟩; have n0_ := Aside0.mk (blk_below (g := gb228) (o := .cells #[.slice A0_0 l0_0.length c0_0, .slice A0_1 l0_1.length c0_1] 24 (0, 0)) (by (with_reducible repeat (first | refine blk_drewN ?_ _ | refine blk_drew ?_ | refine blk_alloc ?_ _)); exact BK228.out) hb); have n1_ := Aside0.mk (below_step (by repeat (first | (with_reducible first | exact HB.out | apply below_alloc | apply pw_below_drewN | apply below_drew1 | refine below_set ?_ GE228.out) | exact HB.out)) hb); clear BK228; clear HB; have BK228 := n0_; have HB := n1_; clear n0_ n1_; (try clear hb); (try clear hb2); (try clear hk); (try clear hi); have hcz13_0 : w12.cell? ⟨gb228, 0, none⟩ = some (.slice A0_0 l0_0.length c0_0) := (blk_cell BK228.out 0).trans rfl; have hcz13_1 : w12.cell? ⟨gb228, 1, none⟩ = some (.slice A0_1 l0_1.length c0_1) := (blk_cell BK228.out 1).trans rfl; have hfz13_0 := blk_frozen BK228.out 0; have hfz13_1 := blk_frozen BK228.out 1) | ((with_reducible refine gate_callee (f := 10) rfl ?_); refine goesL_ (some 26) rfl rfl Try.func10 (by kernel_rfl) rfl #[.agg #[.slice A0_0 l0_0.length c0_0, .slice A0_1 l0_1.length c0_1], .int .i64 a1] rfl (by (try simp only [List.map_toArray, List.map_cons, List.map_nil]); first | done | rfl | (simp only [List.length_drop, List.length_take]; rfl)) ?_; (with_reducible refine (notice_Deadline.calls k _ _ l0_0 _ _ l0_1 a1 t230 t231 _ ?side1 ?side2 ?side3 ?side4 A9.out).mono ?_); (case side1 => repeat (first | exact (Kd.C_below HR0_0.out HB.out) | (with_reducible refine Kd.C_alloc ?_ _) | (with_reducible refine Kd.C_drewN ?_ _) | (with_reducible refine Kd.C_drew ?_))); (case side2 => exact HC0_0.out); (case side3 => repeat (first | exact (Kd.C_below HR0_1.out HB.out) | (with_reducible refine Kd.C_alloc ?_ _) | (with_reducible refine Kd.C_drewN ?_ _) | (with_reducible refine Kd.C_drew ?_))); (case side4 => exact HC0_1.out); rintro e w14 ⟨rfl, hb⟩; refine ⟨_, rfl, ?_⟩; have n0_ := Aside0.mk (blk_below (g := gb228) (o := .cells #[.slice A0_0 l0_0.length c0_0, .slice A0_1 l0_1.length c0_1] 24 (0, 0)) (by (with_reducible repeat (first | refine blk_drewN ?_ _ | refine blk_drew ?_ | refine blk_alloc ?_ _)); exact BK228.out) hb); have n1_ := Aside0.mk (below_step (by repeat (first | (with_reducible first | exact HB.out | apply below_alloc | apply pw_below_drewN | apply below_drew1 | refine below_set ?_ GE228.out) | exact HB.out)) hb); clear BK228; clear HB; have BK228 := n0_; have HB := n1_; clear n0_ n1_; (try clear hb); (try clear hb2); (try clear hk); (try clear hi)))
    (try simp only [Act.put, List.setIfInBounds_toArray, List.set_cons_zero, List.set_cons_succ])
    go_cut [60] (fun v60 wc => ∃ (kq : Nat) (x60_9 : Bool), v60 = .bool x60_9 ∧ Aside0 (supercargolaw35_NoticeTold.j0 kq a1 a2 l3 l4 a5 t230 x60_9 l0_0 l0_1 = some r) ∧ Aside0 (kq ≤ k) ∧ Aside0 (wc.heap[gb228]? = some (.cells #[(.slice A0_0 l0_0.length c0_0), (.slice A0_1 l0_1.length c0_1)] 24 (0, 0))) ∧ Aside0 (Below w.heap.size w wc))
    case first =>
      have H := HC10.out
      clear HC10
      replace H := Option.bind_eq_some_iff.mp H
      obtain ⟨t232, A150, H⟩ := H
      replace H : (if t232 = true then (if t231 = true then (if (l3.length : Int) = 0 then (supercargolaw35_NoticeTold.j0 k a1 a2 l3 l4 a5 t230 true l0_0 l0_1) else (if (l3.length : Int) > 30 then (supercargolaw35_NoticeTold.j0 k a1 a2 l3 l4 a5 t230 true l0_0 l0_1) else (if (l4.length : Int) > 30 then (supercargolaw35_NoticeTold.j0 k a1 a2 l3 l4 a5 t230 true l0_0 l0_1) else (if a5 < 0 then (supercargolaw35_NoticeTold.j0 k a1 a2 l3 l4 a5 t230 true l0_0 l0_1) else (supercargolaw35_NoticeTold.j0 k a1 a2 l3 l4 a5 t230 (decide (a5 ≥ (l3.length : Int))) l0_0 l0_1))))) else (supercargolaw35_NoticeTold.j0 k a1 a2 l3 l4 a5 t230 true l0_0 l0_1)) else (supercargolaw35_NoticeTold.j0 k a1 a2 l3 l4 a5 t230 true l0_0 l0_1)) = some r := H
      have A15 := Aside0.mk A150
      clear A150
      by_cases c16 : t232 = true
      · subst c16
        have H1 : (if t231 = true then (if (l3.length : Int) = 0 then (supercargolaw35_NoticeTold.j0 k a1 a2 l3 l4 a5 t230 true l0_0 l0_1) else (if (l3.length : Int) > 30 then (supercargolaw35_NoticeTold.j0 k a1 a2 l3 l4 a5 t230 true l0_0 l0_1) else (if (l4.length : Int) > 30 then (supercargolaw35_NoticeTold.j0 k a1 a2 l3 l4 a5 t230 true l0_0 l0_1) else (if a5 < 0 then (supercargolaw35_NoticeTold.j0 k a1 a2 l3 l4 a5 t230 true l0_0 l0_1) else (supercargolaw35_NoticeTold.j0 k a1 a2 l3 l4 a5 t230 (decide (a5 ≥ (l3.length : Int))) l0_0 l0_1))))) else (supercargolaw35_NoticeTold.j0 k a1 a2 l3 l4 a5 t230 true l0_0 l0_1)) = some r := by rw [if_pos rfl] at H; exact H
        clear H
        have H := H1
        clear H1
        by_cases c17 : t231 = true
        · subst c17
          have H1 : (if (l3.length : Int) = 0 then (supercargolaw35_NoticeTold.j0 k a1 a2 l3 l4 a5 t230 true l0_0 l0_1) else (if (l3.length : Int) > 30 then (supercargolaw35_NoticeTold.j0 k a1 a2 l3 l4 a5 t230 true l0_0 l0_1) else (if (l4.length : Int) > 30 then (supercargolaw35_NoticeTold.j0 k a1 a2 l3 l4 a5 t230 true l0_0 l0_1) else (if a5 < 0 then (supercargolaw35_NoticeTold.j0 k a1 a2 l3 l4 a5 t230 true l0_0 l0_1) else (supercargolaw35_NoticeTold.j0 k a1 a2 l3 l4 a5 t230 (decide (a5 ≥ (l3.length : Int))) l0_0 l0_1))))) = some r := by rw [if_pos rfl] at H; exact H
          clear H
          have H := H1
          clear H1
          by_cases c18 : (l3.length : Int) = 0
          · rw [if_pos c18] at H
            have c18b0 : ((l3.length : Int) == 0) = true := beq_iff_eq.mpr c18
            have c18b1 : ((l3.length : Int) != 0) = false := bne_eq_false_iff_eq.mpr c18
            clear c18
            (first | rw [c18b0] | (simp only [i64_w, i32_w]; rw [c18b0]) | skip)
            have H' := Aside0.mk H
            clear H
            have hcz19_0 : w14.cell? ⟨gb228, 0, none⟩ = some (.slice A0_0 l0_0.length c0_0) := (blk_cell BK228.out 0).trans rfl
            have hcz19_1 : w14.cell? ⟨gb228, 1, none⟩ = some (.slice A0_1 l0_1.length c0_1) := (blk_cell BK228.out 1).trans rfl
            have hfz19_0 := blk_frozen BK228.out 0
            have hfz19_1 := blk_frozen BK228.out 1
            go_wp2_with (first | ((with_reducible refine gate_callee (f := 11) rfl ?_); refine goesL_ (some 30) rfl rfl Try.func11 (by kernel_rfl) rfl #[.agg #[.slice A0_0 l0_0.length c0_0, .slice A0_1 l0_1.length c0_1]] rfl (by (try simp only [List.map_toArray, List.map_cons, List.map_nil]); first | done | rfl | (simp only [List.length_drop, List.length_take]; rfl)) ?_; (with_reducible refine (supercargolaw35_few.calls _ _ l0_0 _ _ l0_1 true _ ?side1 ?side2 ?side3 ?side4 A15.out).mono ?_); (case side1 => repeat (first | exact (Kd.C_below HR0_0.out HB.out) | (with_reducible refine Kd.C_alloc ?_ _) | (with_reducible refine Kd.C_drewN ?_ _) | (with_reducible refine Kd.C_drew ?_))); (case side2 => exact HC0_0.out); (case side3 => repeat (first | exact (Kd.C_below HR0_1.out HB.out) | (with_reducible refine Kd.C_alloc ?_ _) | (with_reducible refine Kd.C_drewN ?_ _) | (with_reducible refine Kd.C_drew ?_))); (case side4 => exact HC0_1.out); rintro e w20 ⟨rfl, hb⟩; refine ⟨_, rfl, ?_⟩; have n0_ := Aside0.mk (blk_below (g := gb228) (o := .cells #[.slice A0_0 l0_0.length c0_0, .slice A0_1 l0_1.length c0_1] 24 (0, 0)) (by (with_reducible repeat (first | refine blk_drewN ?_ _ | refine blk_drew ?_ | refine blk_alloc ?_ _)); exact BK228.out) hb); have n1_ := Aside0.mk (below_step (by repeat (first | (with_reducible first | exact HB.out | apply below_alloc | apply pw_below_drewN | apply below_drew1 | refine below_set ?_ GE228.out) | exact HB.out)) hb); clear BK228; clear HB; have BK228 := n0_; have HB := n1_; clear n0_ n1_; (try clear hb); (try clear hb2); (try clear hk); (try clear hi)))
            go_meet
            case rel => exact ⟨_, (true), (by first | rfl | (simp; done) | (simp [*]; done)), H', ⟨by first | omega | exact Nat.le_refl _⟩, ⟨by (with_reducible repeat (first | refine blk_drewN ?_ _ | refine blk_drew ?_ | refine blk_alloc ?_ _)); exact BK228.out⟩, ⟨by repeat (first | (with_reducible first | exact HB.out | apply below_alloc | apply pw_below_drewN | apply below_drew1 | refine below_set ?_ GE228.out) | exact HB.out)⟩⟩
          · rw [if_neg c18] at H
            have c18b0 : ((l3.length : Int) == 0) = false := beq_eq_false_iff_ne.mpr c18
            have c18b1 : ((l3.length : Int) != 0) = true := bne_iff_ne.mpr c18
            have c18b2 : ¬ (l3 = []) := fun h_ => c18 (by rw [h_]; rfl)
            (first | rw [c18b0] | (simp only [i64_w, i32_w]; rw [c18b0]) | skip)
            by_cases c21 : (l3.length : Int) > 30
            · rw [if_pos c21] at H
              have c21b0 : decide (30 < (l3.length : Int)) = true := decide_eq_true c21
              have c21b1 : decide (30 < l3.length) = true := decide_eq_true (by omega)
              clear c21
              have H' := Aside0.mk H
              clear H
              have hcz22_0 : w14.cell? ⟨gb228, 0, none⟩ = some (.slice A0_0 l0_0.length c0_0) := (blk_cell BK228.out 0).trans rfl
              have hcz22_1 : w14.cell? ⟨gb228, 1, none⟩ = some (.slice A0_1 l0_1.length c0_1) := (blk_cell BK228.out 1).trans rfl
              have hfz22_0 := blk_frozen BK228.out 0
              have hfz22_1 := blk_frozen BK228.out 1
              go_wp2_with (first | ((with_reducible refine gate_callee (f := 11) rfl ?_); refine goesL_ (some 30) rfl rfl Try.func11 (by kernel_rfl) rfl #[.agg #[.slice A0_0 l0_0.length c0_0, .slice A0_1 l0_1.length c0_1]] rfl (by (try simp only [List.map_toArray, List.map_cons, List.map_nil]); first | done | rfl | (simp only [List.length_drop, List.length_take]; rfl)) ?_; (with_reducible refine (supercargolaw35_few.calls _ _ l0_0 _ _ l0_1 true _ ?side1 ?side2 ?side3 ?side4 A15.out).mono ?_); (case side1 => repeat (first | exact (Kd.C_below HR0_0.out HB.out) | (with_reducible refine Kd.C_alloc ?_ _) | (with_reducible refine Kd.C_drewN ?_ _) | (with_reducible refine Kd.C_drew ?_))); (case side2 => exact HC0_0.out); (case side3 => repeat (first | exact (Kd.C_below HR0_1.out HB.out) | (with_reducible refine Kd.C_alloc ?_ _) | (with_reducible refine Kd.C_drewN ?_ _) | (with_reducible refine Kd.C_drew ?_))); (case side4 => exact HC0_1.out); rintro e w23 ⟨rfl, hb⟩; refine ⟨_, rfl, ?_⟩; have n0_ := Aside0.mk (blk_below (g := gb228) (o := .cells #[.slice A0_0 l0_0.length c0_0, .slice A0_1 l0_1.length c0_1] 24 (0, 0)) (by (with_reducible repeat (first | refine blk_drewN ?_ _ | refine blk_drew ?_ | refine blk_alloc ?_ _)); exact BK228.out) hb); have n1_ := Aside0.mk (below_step (by repeat (first | (with_reducible first | exact HB.out | apply below_alloc | apply pw_below_drewN | apply below_drew1 | refine below_set ?_ GE228.out) | exact HB.out)) hb); clear BK228; clear HB; have BK228 := n0_; have HB := n1_; clear n0_ n1_; (try clear hb); (try clear hb2); (try clear hk); (try clear hi)))
              go_meet
              case rel => exact ⟨_, (true), (by first | rfl | (simp; done) | (simp [*]; done)), H', ⟨by first | omega | exact Nat.le_refl _⟩, ⟨by (with_reducible repeat (first | refine blk_drewN ?_ _ | refine blk_drew ?_ | refine blk_alloc ?_ _)); exact BK228.out⟩, ⟨by repeat (first | (with_reducible first | exact HB.out | apply below_alloc | apply pw_below_drewN | apply below_drew1 | refine below_set ?_ GE228.out) | exact HB.out)⟩⟩
            · rw [if_neg c21] at H
              have c21b0 : decide (30 < (l3.length : Int)) = false := decide_eq_false c21
              have c21b1 : decide (30 < l3.length) = false := decide_eq_false (by omega)
              clear c21
              by_cases c24 : (l4.length : Int) > 30
              · rw [if_pos c24] at H
                have c24b0 : decide (30 < (l4.length : Int)) = true := decide_eq_true c24
                have c24b1 : decide (30 < l4.length) = true := decide_eq_true (by omega)
                clear c24
                have H' := Aside0.mk H
                clear H
                have hcz25_0 : w14.cell? ⟨gb228, 0, none⟩ = some (.slice A0_0 l0_0.length c0_0) := (blk_cell BK228.out 0).trans rfl
                have hcz25_1 : w14.cell? ⟨gb228, 1, none⟩ = some (.slice A0_1 l0_1.length c0_1) := (blk_cell BK228.out 1).trans rfl
                have hfz25_0 := blk_frozen BK228.out 0
                have hfz25_1 := blk_frozen BK228.out 1
                go_wp2_with (first | ((with_reducible refine gate_callee (f := 11) rfl ?_); refine goesL_ (some 30) rfl rfl Try.func11 (by kernel_rfl) rfl #[.agg #[.slice A0_0 l0_0.length c0_0, .slice A0_1 l0_1.length c0_1]] rfl (by (try simp only [List.map_toArray, List.map_cons, List.map_nil]); first | done | rfl | (simp only [List.length_drop, List.length_take]; rfl)) ?_; (with_reducible refine (supercargolaw35_few.calls _ _ l0_0 _ _ l0_1 true _ ?side1 ?side2 ?side3 ?side4 A15.out).mono ?_); (case side1 => repeat (first | exact (Kd.C_below HR0_0.out HB.out) | (with_reducible refine Kd.C_alloc ?_ _) | (with_reducible refine Kd.C_drewN ?_ _) | (with_reducible refine Kd.C_drew ?_))); (case side2 => exact HC0_0.out); (case side3 => repeat (first | exact (Kd.C_below HR0_1.out HB.out) | (with_reducible refine Kd.C_alloc ?_ _) | (with_reducible refine Kd.C_drewN ?_ _) | (with_reducible refine Kd.C_drew ?_))); (case side4 => exact HC0_1.out); rintro e w26 ⟨rfl, hb⟩; refine ⟨_, rfl, ?_⟩; have n0_ := Aside0.mk (blk_below (g := gb228) (o := .cells #[.slice A0_0 l0_0.length c0_0, .slice A0_1 l0_1.length c0_1] 24 (0, 0)) (by (with_reducible repeat (first | refine blk_drewN ?_ _ | refine blk_drew ?_ | refine blk_alloc ?_ _)); exact BK228.out) hb); have n1_ := Aside0.mk (below_step (by repeat (first | (with_reducible first | exact HB.out | apply below_alloc | apply pw_below_drewN | apply below_drew1 | refine below_set ?_ GE228.out) | exact HB.out)) hb); clear BK228; clear HB; have BK228 := n0_; have HB := n1_; clear n0_ n1_; (try clear hb); (try clear hb2); (try clear hk); (try clear hi)))
                go_meet
                case rel => exact ⟨_, (true), (by first | rfl | (simp; done) | (simp [*]; done)), H', ⟨by first | omega | exact Nat.le_refl _⟩, ⟨by (with_reducible repeat (first | refine blk_drewN ?_ _ | refine blk_drew ?_ | refine blk_alloc ?_ _)); exact BK228.out⟩, ⟨by repeat (first | (with_reducible first | exact HB.out | apply below_alloc | apply pw_below_drewN | apply below_drew1 | refine below_set ?_ GE228.out) | exact HB.out)⟩⟩
              · rw [if_neg c24] at H
                have c24b0 : decide (30 < (l4.length : Int)) = false := decide_eq_false c24
                have c24b1 : decide (30 < l4.length) = false := decide_eq_false (by omega)
                clear c24
                by_cases c27 : a5 < 0
                · rw [if_pos c27] at H
                  have c27b0 : decide (a5 < 0) = true := decide_eq_true c27
                  clear c27
                  have H' := Aside0.mk H
                  clear H
                  have hcz28_0 : w14.cell? ⟨gb228, 0, none⟩ = some (.slice A0_0 l0_0.length c0_0) := (blk_cell BK228.out 0).trans rfl
                  have hcz28_1 : w14.cell? ⟨gb228, 1, none⟩ = some (.slice A0_1 l0_1.length c0_1) := (blk_cell BK228.out 1).trans rfl
                  have hfz28_0 := blk_frozen BK228.out 0
                  have hfz28_1 := blk_frozen BK228.out 1
                  go_wp2_with (first | ((with_reducible refine gate_callee (f := 11) rfl ?_); refine goesL_ (some 30) rfl rfl Try.func11 (by kernel_rfl) rfl #[.agg #[.slice A0_0 l0_0.length c0_0, .slice A0_1 l0_1.length c0_1]] rfl (by (try simp only [List.map_toArray, List.map_cons, List.map_nil]); first | done | rfl | (simp only [List.length_drop, List.length_take]; rfl)) ?_; (with_reducible refine (supercargolaw35_few.calls _ _ l0_0 _ _ l0_1 true _ ?side1 ?side2 ?side3 ?side4 A15.out).mono ?_); (case side1 => repeat (first | exact (Kd.C_below HR0_0.out HB.out) | (with_reducible refine Kd.C_alloc ?_ _) | (with_reducible refine Kd.C_drewN ?_ _) | (with_reducible refine Kd.C_drew ?_))); (case side2 => exact HC0_0.out); (case side3 => repeat (first | exact (Kd.C_below HR0_1.out HB.out) | (with_reducible refine Kd.C_alloc ?_ _) | (with_reducible refine Kd.C_drewN ?_ _) | (with_reducible refine Kd.C_drew ?_))); (case side4 => exact HC0_1.out); rintro e w29 ⟨rfl, hb⟩; refine ⟨_, rfl, ?_⟩; have n0_ := Aside0.mk (blk_below (g := gb228) (o := .cells #[.slice A0_0 l0_0.length c0_0, .slice A0_1 l0_1.length c0_1] 24 (0, 0)) (by (with_reducible repeat (first | refine blk_drewN ?_ _ | refine blk_drew ?_ | refine blk_alloc ?_ _)); exact BK228.out) hb); have n1_ := Aside0.mk (below_step (by repeat (first | (with_reducible first | exact HB.out | apply below_alloc | apply pw_below_drewN | apply below_drew1 | refine below_set ?_ GE228.out) | exact HB.out)) hb); clear BK228; clear HB; have BK228 := n0_; have HB := n1_; clear n0_ n1_; (try clear hb); (try clear hb2); (try clear hk); (try clear hi)))
                  go_meet
                  case rel => exact ⟨_, (true), (by first | rfl | (simp; done) | (simp [*]; done)), H', ⟨by first | omega | exact Nat.le_refl _⟩, ⟨by (with_reducible repeat (first | refine blk_drewN ?_ _ | refine blk_drew ?_ | refine blk_alloc ?_ _)); exact BK228.out⟩, ⟨by repeat (first | (with_reducible first | exact HB.out | apply below_alloc | apply pw_below_drewN | apply below_drew1 | refine below_set ?_ GE228.out) | exact HB.out)⟩⟩
                · rw [if_neg c27] at H
                  have c27b0 : decide (a5 < 0) = false := decide_eq_false c27
                  clear c27
                  have H' := Aside0.mk H
                  clear H
                  have hcz30_0 : w14.cell? ⟨gb228, 0, none⟩ = some (.slice A0_0 l0_0.length c0_0) := (blk_cell BK228.out 0).trans rfl
                  have hcz30_1 : w14.cell? ⟨gb228, 1, none⟩ = some (.slice A0_1 l0_1.length c0_1) := (blk_cell BK228.out 1).trans rfl
                  have hfz30_0 := blk_frozen BK228.out 0
                  have hfz30_1 := blk_frozen BK228.out 1
                  go_wp2_with (first | ((with_reducible refine gate_callee (f := 11) rfl ?_); refine goesL_ (some 30) rfl rfl Try.func11 (by kernel_rfl) rfl #[.agg #[.slice A0_0 l0_0.length c0_0, .slice A0_1 l0_1.length c0_1]] rfl (by (try simp only [List.map_toArray, List.map_cons, List.map_nil]); first | done | rfl | (simp only [List.length_drop, List.length_take]; rfl)) ?_; (with_reducible refine (supercargolaw35_few.calls _ _ l0_0 _ _ l0_1 true _ ?side1 ?side2 ?side3 ?side4 A15.out).mono ?_); (case side1 => repeat (first | exact (Kd.C_below HR0_0.out HB.out) | (with_reducible refine Kd.C_alloc ?_ _) | (with_reducible refine Kd.C_drewN ?_ _) | (with_reducible refine Kd.C_drew ?_))); (case side2 => exact HC0_0.out); (case side3 => repeat (first | exact (Kd.C_below HR0_1.out HB.out) | (with_reducible refine Kd.C_alloc ?_ _) | (with_reducible refine Kd.C_drewN ?_ _) | (with_reducible refine Kd.C_drew ?_))); (case side4 => exact HC0_1.out); rintro e w31 ⟨rfl, hb⟩; refine ⟨_, rfl, ?_⟩; have n0_ := Aside0.mk (blk_below (g := gb228) (o := .cells #[.slice A0_0 l0_0.length c0_0, .slice A0_1 l0_1.length c0_1] 24 (0, 0)) (by (with_reducible repeat (first | refine blk_drewN ?_ _ | refine blk_drew ?_ | refine blk_alloc ?_ _)); exact BK228.out) hb); have n1_ := Aside0.mk (below_step (by repeat (first | (with_reducible first | exact HB.out | apply below_alloc | apply pw_below_drewN | apply below_drew1 | refine below_set ?_ GE228.out) | exact HB.out)) hb); clear BK228; clear HB; have BK228 := n0_; have HB := n1_; clear n0_ n1_; (try clear hb); (try clear hb2); (try clear hk); (try clear hi)))
                  go_meet
                  case rel => exact ⟨_, (decide (a5 ≥ (l3.length : Int))), (by first | rfl | (simp; done) | (simp [*]; done)), H', ⟨by first | omega | exact Nat.le_refl _⟩, ⟨by (with_reducible repeat (first | refine blk_drewN ?_ _ | refine blk_drew ?_ | refine blk_alloc ?_ _)); exact BK228.out⟩, ⟨by repeat (first | (with_reducible first | exact HB.out | apply below_alloc | apply pw_below_drewN | apply below_drew1 | refine below_set ?_ GE228.out) | exact HB.out)⟩⟩
        · replace c17 := Bool.eq_false_iff.mpr c17
          subst c17
          have H1 : (supercargolaw35_NoticeTold.j0 k a1 a2 l3 l4 a5 t230 true l0_0 l0_1) = some r := by rw [if_neg (show ¬ (false = true) by decide)] at H; exact H
          clear H
          have H := H1
          clear H1
          have H' := Aside0.mk H
          clear H
          have hcz32_0 : w14.cell? ⟨gb228, 0, none⟩ = some (.slice A0_0 l0_0.length c0_0) := (blk_cell BK228.out 0).trans rfl
          have hcz32_1 : w14.cell? ⟨gb228, 1, none⟩ = some (.slice A0_1 l0_1.length c0_1) := (blk_cell BK228.out 1).trans rfl
          have hfz32_0 := blk_frozen BK228.out 0
          have hfz32_1 := blk_frozen BK228.out 1
          go_wp2_with (first | ((with_reducible refine gate_callee (f := 11) rfl ?_); refine goesL_ (some 30) rfl rfl Try.func11 (by kernel_rfl) rfl #[.agg #[.slice A0_0 l0_0.length c0_0, .slice A0_1 l0_1.length c0_1]] rfl (by (try simp only [List.map_toArray, List.map_cons, List.map_nil]); first | done | rfl | (simp only [List.length_drop, List.length_take]; rfl)) ?_; (with_reducible refine (supercargolaw35_few.calls _ _ l0_0 _ _ l0_1 true _ ?side1 ?side2 ?side3 ?side4 A15.out).mono ?_); (case side1 => repeat (first | exact (Kd.C_below HR0_0.out HB.out) | (with_reducible refine Kd.C_alloc ?_ _) | (with_reducible refine Kd.C_drewN ?_ _) | (with_reducible refine Kd.C_drew ?_))); (case side2 => exact HC0_0.out); (case side3 => repeat (first | exact (Kd.C_below HR0_1.out HB.out) | (with_reducible refine Kd.C_alloc ?_ _) | (with_reducible refine Kd.C_drewN ?_ _) | (with_reducible refine Kd.C_drew ?_))); (case side4 => exact HC0_1.out); rintro e w33 ⟨rfl, hb⟩; refine ⟨_, rfl, ?_⟩; have n0_ := Aside0.mk (blk_below (g := gb228) (o := .cells #[.slice A0_0 l0_0.length c0_0, .slice A0_1 l0_1.length c0_1] 24 (0, 0)) (by (with_reducible repeat (first | refine blk_drewN ?_ _ | refine blk_drew ?_ | refine blk_alloc ?_ _)); exact BK228.out) hb); have n1_ := Aside0.mk (below_step (by repeat (first | (with_reducible first | exact HB.out | apply below_alloc | apply pw_below_drewN | apply below_drew1 | refine below_set ?_ GE228.out) | exact HB.out)) hb); clear BK228; clear HB; have BK228 := n0_; have HB := n1_; clear n0_ n1_; (try clear hb); (try clear hb2); (try clear hk); (try clear hi)))
          go_meet
          case rel => exact ⟨_, (true), (by first | rfl | (simp; done) | (simp [*]; done)), H', ⟨by first | omega | exact Nat.le_refl _⟩, ⟨by (with_reducible repeat (first | refine blk_drewN ?_ _ | refine blk_drew ?_ | refine blk_alloc ?_ _)); exact BK228.out⟩, ⟨by repeat (first | (with_reducible first | exact HB.out | apply below_alloc | apply pw_below_drewN | apply below_drew1 | refine below_set ?_ GE228.out) | exact HB.out)⟩⟩
      · replace c16 := Bool.eq_false_iff.mpr c16
        subst c16
        have H1 : (supercargolaw35_NoticeTold.j0 k a1 a2 l3 l4 a5 t230 true l0_0 l0_1) = some r := by rw [if_neg (show ¬ (false = true) by decide)] at H; exact H
        clear H
        have H := H1
        clear H1
        have H' := Aside0.mk H
        clear H
        have hcz34_0 : w14.cell? ⟨gb228, 0, none⟩ = some (.slice A0_0 l0_0.length c0_0) := (blk_cell BK228.out 0).trans rfl
        have hcz34_1 : w14.cell? ⟨gb228, 1, none⟩ = some (.slice A0_1 l0_1.length c0_1) := (blk_cell BK228.out 1).trans rfl
        have hfz34_0 := blk_frozen BK228.out 0
        have hfz34_1 := blk_frozen BK228.out 1
        go_wp2_with (first | ((with_reducible refine gate_callee (f := 11) rfl ?_); refine goesL_ (some 30) rfl rfl Try.func11 (by kernel_rfl) rfl #[.agg #[.slice A0_0 l0_0.length c0_0, .slice A0_1 l0_1.length c0_1]] rfl (by (try simp only [List.map_toArray, List.map_cons, List.map_nil]); first | done | rfl | (simp only [List.length_drop, List.length_take]; rfl)) ?_; (with_reducible refine (supercargolaw35_few.calls _ _ l0_0 _ _ l0_1 false _ ?side1 ?side2 ?side3 ?side4 A15.out).mono ?_); (case side1 => repeat (first | exact (Kd.C_below HR0_0.out HB.out) | (with_reducible refine Kd.C_alloc ?_ _) | (with_reducible refine Kd.C_drewN ?_ _) | (with_reducible refine Kd.C_drew ?_))); (case side2 => exact HC0_0.out); (case side3 => repeat (first | exact (Kd.C_below HR0_1.out HB.out) | (with_reducible refine Kd.C_alloc ?_ _) | (with_reducible refine Kd.C_drewN ?_ _) | (with_reducible refine Kd.C_drew ?_))); (case side4 => exact HC0_1.out); rintro e w35 ⟨rfl, hb⟩; refine ⟨_, rfl, ?_⟩; have n0_ := Aside0.mk (blk_below (g := gb228) (o := .cells #[.slice A0_0 l0_0.length c0_0, .slice A0_1 l0_1.length c0_1] 24 (0, 0)) (by (with_reducible repeat (first | refine blk_drewN ?_ _ | refine blk_drew ?_ | refine blk_alloc ?_ _)); exact BK228.out) hb); have n1_ := Aside0.mk (below_step (by repeat (first | (with_reducible first | exact HB.out | apply below_alloc | apply pw_below_drewN | apply below_drew1 | refine below_set ?_ GE228.out) | exact HB.out)) hb); clear BK228; clear HB; have BK228 := n0_; have HB := n1_; clear n0_ n1_; (try clear hb); (try clear hb2); (try clear hk); (try clear hi)))
        go_meet
        case rel => exact ⟨_, (true), (by first | rfl | (simp; done) | (simp [*]; done)), H', ⟨by first | omega | exact Nat.le_refl _⟩, ⟨by (with_reducible repeat (first | refine blk_drewN ?_ _ | refine blk_drew ?_ | refine blk_alloc ?_ _)); exact BK228.out⟩, ⟨by repeat (first | (with_reducible first | exact HB.out | apply below_alloc | apply pw_below_drewN | apply below_drew1 | refine below_set ?_ GE228.out) | exact HB.out)⟩⟩
    case rest =>
      clear HC10
      try clear c1
      try clear c2
      try clear p2
      try clear c3
      try clear c4
      try clear c6
      try clear c8
      try clear c9
      try clear c10
      try clear c11
      try clear c16
      try clear c17
      try clear c18
      try clear c18b0
      try clear c18b1
      try clear c18b2
      try clear c21
      try clear c21b0
      try clear c21b1
      try clear c24
      try clear c24b0
      try clear c24b1
      try clear c27
      try clear c27b0
      try clear hcz13_0
      try clear hcz13_1
      try clear hcz19_0
      try clear hcz19_1
      try clear hcz22_0
      try clear hcz22_1
      try clear hcz25_0
      try clear hcz25_1
      try clear hcz28_0
      try clear hcz28_1
      try clear hcz30_0
      try clear hcz30_1
      try clear hcz32_0
      try clear hcz32_1
      try clear hcz34_0
      try clear hcz34_1
      try clear hfz13_0
      try clear hfz13_1
      try clear hfz19_0
      try clear hfz19_1
      try clear hfz22_0
      try clear hfz22_1
      try clear hfz25_0
      try clear hfz25_1
      try clear hfz28_0
      try clear hfz28_1
      try clear hfz30_0
      try clear hfz30_1
      try clear hfz32_0
      try clear hfz32_1
      try clear hfz34_0
      try clear hfz34_1
      obtain ⟨kq, x60_9, rfl, HA, HJ9, BK228, HB⟩ := hcut
      cases kq with
      | zero => exact absurd HA.out (by simp [supercargolaw35_NoticeTold.j0])
      | succ kj9 =>
        have H := HA.out
        clear HA
        simp only [supercargolaw35_NoticeTold.j0] at H
        by_cases c36 : x60_9 = true
        · subst c36
          have H1 : (some true) = some r := by rw [if_pos rfl] at H; exact H
          clear H
          have H := H1
          clear H1
          clear hT; obtain rfl := Option.some.inj H
          go_wp2
          go_ret
          exact ⟨by first | rfl | (simp [errW_none, errW_some] <;> rfl) | (simp [*, errW_none, errW_some] <;> rfl), by repeat (first | (with_reducible first | exact HB.out | apply below_alloc | apply pw_below_drewN | apply below_drew1 | refine below_set ?_ GE228.out) | exact HB.out)⟩
        · replace c36 := Bool.eq_false_iff.mpr c36
          subst c36
          have H1 : (if a2 ≥ a1 then (supercargolaw35_NoticeTold.j1 kj9 a1 a2 l3 l4 a5 (decide (a2 ≤ t230)) l0_0 l0_1) else (supercargolaw35_NoticeTold.j1 kj9 a1 a2 l3 l4 a5 false l0_0 l0_1)) = some r := by rw [if_neg (show ¬ (false = true) by decide)] at H; exact H
          clear H
          have H := H1
          clear H1
          have HC37 := Aside0.mk H
          clear H
          go_upto_region 6 with (fail)
          go_cut [15] (fun v15 wc => ∃ (kq : Nat) (x15_36 : Bool), v15 = .bool x15_36 ∧ Aside0 (supercargolaw35_NoticeTold.j1 kq a1 a2 l3 l4 a5 x15_36 l0_0 l0_1 = some r) ∧ Aside0 (kq ≤ kj9) ∧ Aside0 (wc.heap[gb228]? = some (.cells #[(.slice A0_0 l0_0.length c0_0), (.slice A0_1 l0_1.length c0_1)] 24 (0, 0))) ∧ Aside0 (Below w.heap.size w wc))
          case first =>
            have H := HC37.out
            clear HC37
            by_cases c38 : a2 ≥ a1
            · rw [if_pos c38] at H
              have c38b0 : decide (a1 ≤ a2) = true := decide_eq_true c38
              clear c38
              (first | rw [c38b0] | (simp only [i64_w, i32_w]; rw [c38b0]) | skip)
              have H' := Aside0.mk H
              clear H
              go_wp2
              go_meet
              case rel => exact ⟨_, (decide (a2 ≤ t230)), (by first | rfl | (simp; done) | (simp [*]; done)), H', ⟨by have := HJ9.out; first | omega | exact Nat.le_refl _⟩, ⟨by (with_reducible repeat (first | refine blk_drewN ?_ _ | refine blk_drew ?_ | refine blk_alloc ?_ _)); exact BK228.out⟩, ⟨by repeat (first | (with_reducible first | exact HB.out | apply below_alloc | apply pw_below_drewN | apply below_drew1 | refine below_set ?_ GE228.out) | exact HB.out)⟩⟩
            · rw [if_neg c38] at H
              have c38b0 : decide (a1 ≤ a2) = false := decide_eq_false c38
              clear c38
              (first | rw [c38b0] | (simp only [i64_w, i32_w]; rw [c38b0]) | skip)
              have H' := Aside0.mk H
              clear H
              go_wp2
              go_meet
              case rel => exact ⟨_, (false), (by first | rfl | (simp; done) | (simp [*]; done)), H', ⟨by have := HJ9.out; first | omega | exact Nat.le_refl _⟩, ⟨by (with_reducible repeat (first | refine blk_drewN ?_ _ | refine blk_drew ?_ | refine blk_alloc ?_ _)); exact BK228.out⟩, ⟨by repeat (first | (with_reducible first | exact HB.out | apply below_alloc | apply pw_below_drewN | apply below_drew1 | refine below_set ?_ GE228.out) | exact HB.out)⟩⟩
          case rest =>
            clear HC37
            try clear c1
            try clear c2
            try clear p2
            try clear c3
            try clear c4
            try clear c6
            try clear c8
            try clear c9
            try clear c10
            try clear c11
            try clear c16
            try clear c17
            try clear c18
            try clear c18b0
            try clear c18b1
            try clear c18b2
            try clear c21
            try clear c21b0
            try clear c21b1
            try clear c24
            try clear c24b0
            try clear c24b1
            try clear c27
            try clear c27b0
            try clear c36
            try clear c38
            try clear c38b0
            try clear hcz13_0
            try clear hcz13_1
            try clear hcz19_0
            try clear hcz19_1
            try clear hcz22_0
            try clear hcz22_1
            try clear hcz25_0
            try clear hcz25_1
            try clear hcz28_0
            try clear hcz28_1
            try clear hcz30_0
            try clear hcz30_1
            try clear hcz32_0
            try clear hcz32_1
            try clear hcz34_0
            try clear hcz34_1
            try clear hfz13_0
            try clear hfz13_1
            try clear hfz19_0
            try clear hfz19_1
            try clear hfz22_0
            try clear hfz22_1
            try clear hfz25_0
            try clear hfz25_1
            try clear hfz28_0
            try clear hfz28_1
            try clear hfz30_0
            try clear hfz30_1
            try clear hfz32_0
            try clear hfz32_1
            try clear hfz34_0
            try clear hfz34_1
            try clear p2
            obtain ⟨kq, x15_36, rfl, HA, HJ36, BK228, HB⟩ := hcut
            cases kq with
            | zero => exact absurd HA.out (by simp [supercargolaw35_NoticeTold.j1])
            | succ kj36 =>
              have H := HA.out
              clear HA
              simp only [supercargolaw35_NoticeTold.j1] at H
              obtain ⟨y233, hy233⟩ : ∃ y_ : List (S36), y_ = (([] : List (S36))) := ⟨_, rfl⟩
              replace H : (if y233.length + l4.length < 3518437208883 then ((some (y233 ++ l4 : List (S36))).bind fun y236 => (if 0 ≤ a5 then (if a5 < (l3.length : Int) then ((some (([(⟨(rd_T36 l3 a5).f0, (rd_T36 l3 a5).f1, (rd_T36 l3 a5).f2, (rd_T36 l3 a5).f3⟩ : S36)] : List (S36)) : List (S36))).bind fun y240 => (if y236.length + y240.length < 3518437208883 then (supercargolaw35_NoticeTold.l0 kj36 a1 a2 l3 l4 x15_36 (y236 ++ y240) ([] : List (S36)) 0 l0_0 l0_1) else (none))) else (none)) else (none))) else (none)) = some r := by first | (rw [hy233]; with_reducible exact H) | (have H2_ := (Option.bind_some _ _).symm.trans H; rw [hy233]; with_reducible exact H2_) | (have H2_ := (Option.bind_some _ _).symm.trans H; with_reducible exact H2_) | with_reducible exact H | (rw [hy233]; exact H) | exact H
              have Ny233 := Aside0.mk hy233
              clear hy233
              by_cases c39 : y233.length + l4.length < 3518437208883
              · rw [if_pos c39] at H
                have LMc39 := Aside0.mk c39
                clear c39
                obtain ⟨y236, hy236⟩ : ∃ y_ : List (S36), y_ = (y233 ++ l4) := ⟨_, rfl⟩
                replace H : (if 0 ≤ a5 then (if a5 < (l3.length : Int) then ((some (([(⟨(rd_T36 l3 a5).f0, (rd_T36 l3 a5).f1, (rd_T36 l3 a5).f2, (rd_T36 l3 a5).f3⟩ : S36)] : List (S36)) : List (S36))).bind fun y240 => (if y236.length + y240.length < 3518437208883 then (supercargolaw35_NoticeTold.l0 kj36 a1 a2 l3 l4 x15_36 (y236 ++ y240) ([] : List (S36)) 0 l0_0 l0_1) else (none))) else (none)) else (none)) = some r := by first | (rw [hy236]; with_reducible exact H) | (have H2_ := (Option.bind_some _ _).symm.trans H; rw [hy236]; with_reducible exact H2_) | (have H2_ := (Option.bind_some _ _).symm.trans H; with_reducible exact H2_) | with_reducible exact H | (rw [hy236]; exact H) | exact H
                have Ny236 := Aside0.mk hy236
                clear hy236
                by_cases c40 : 0 ≤ a5
                · rw [if_pos c40] at H
                  have c40b0 : decide (0 ≤ a5) = true := decide_eq_true c40
                  clear c40
                  by_cases c41 : a5 < (l3.length : Int)
                  · rw [if_pos c41] at H
                    have c41b0 : decide (a5 < (l3.length : Int)) = true := decide_eq_true c41
                    clear c41
                    obtain ⟨y240, hy240⟩ : ∃ y_ : List (S36), y_ = (([(⟨(rd_T36 l3 a5).f0, (rd_T36 l3 a5).f1, (rd_T36 l3 a5).f2, (rd_T36 l3 a5).f3⟩ : S36)] : List (S36))) := ⟨_, rfl⟩
                    replace H : (if y236.length + y240.length < 3518437208883 then (supercargolaw35_NoticeTold.l0 kj36 a1 a2 l3 l4 x15_36 (y236 ++ y240) ([] : List (S36)) 0 l0_0 l0_1) else (none)) = some r := by first | (rw [hy240]; with_reducible exact H) | (have H2_ := (Option.bind_some _ _).symm.trans H; rw [hy240]; with_reducible exact H2_) | (have H2_ := (Option.bind_some _ _).symm.trans H; with_reducible exact H2_) | with_reducible exact H | (rw [hy240]; exact H) | exact H
                    have Ny240 := Aside0.mk hy240
                    clear hy240
                    by_cases c42 : y236.length + y240.length < 3518437208883
                    · rw [if_pos c42] at H
                      have LMc42 := Aside0.mk c42
                      clear c42
                      obtain ⟨y243, hy243⟩ : ∃ y_ : List (S36), y_ = (y236 ++ y240) := ⟨_, rfl⟩
                      replace H : (supercargolaw35_NoticeTold.l0 kj36 a1 a2 l3 l4 x15_36 y243 ([] : List (S36)) 0 l0_0 l0_1) = some r := by first | (rw [hy243]; with_reducible exact H) | (have H2_ := (Option.bind_some _ _).symm.trans H; rw [hy243]; with_reducible exact H2_) | (have H2_ := (Option.bind_some _ _).symm.trans H; with_reducible exact H2_) | with_reducible exact H | (rw [hy243]; exact H) | exact H
                      have Ny243 := Aside0.mk hy243
                      clear hy243
                      have H' := Aside0.mk H
                      clear H
                      try go_wp2
                      have n0_ := Aside0.mk (blk_drew BK228.out)
                      have n1_ := Aside0.mk (below_drew1 HB.out)
                      clear BK228
                      clear HB
                      have BK228 := n0_
                      have HB := n1_
                      clear n0_ n1_
                      have p239 : 0 ≤ (a5 : Int) := of_decide_eq_true (by first | (with_reducible assumption) | assumption)
                      have q239 : a5 < (l3.length : Int) := of_decide_eq_true (by first | (with_reducible assumption) | assumption)
                      obtain ⟨ad239, e239, hx239_0, hx239_1, hx239_2, hx239_3⟩ := at_T36 HR3.out a5 p239 q239
                      have hw239_3 := hx239_3
                      have hw239_2 := hx239_2
                      have hw239_1 := hx239_1
                      have hw239_0 := hx239_0
                      cases e239
                      replace hx239_0 := (HB.out.cell (World.block_lt_of_cell? w _ hx239_0)).trans hx239_0
                      replace hx239_1 := (HB.out.cell (World.block_lt_of_cell? w _ hx239_1)).trans hx239_1
                      replace hx239_2 := (HB.out.cell (World.block_lt_of_cell? w _ hx239_2)).trans hx239_2
                      replace hx239_3 := (HB.out.cell (World.block_lt_of_cell? w _ hx239_3)).trans hx239_3
                      replace p239 := eq_true p239
                      replace q239 := eq_true q239
                      refine start_ (n := 10) (S := fun w' => w'.cell? (ad239.add ((a5).toNat * 4)) = some (.int .i64 ((rd_T36 l3 a5).f0)) ∧ w'.cell? ⟨(ad239.add ((a5).toNat * 4)).block, (ad239.add ((a5).toNat * 4)).off + 1, none⟩ = some (.int .i64 ((rd_T36 l3 a5).f1)) ∧ w'.cell? ⟨(ad239.add ((a5).toNat * 4)).block, (ad239.add ((a5).toNat * 4)).off + 2, none⟩ = some (.string ((rd_T36 l3 a5).f2)) ∧ w'.cell? ⟨(ad239.add ((a5).toNat * 4)).block, (ad239.add ((a5).toNat * 4)).off + 3, none⟩ = some (.int .i64 ((rd_T36 l3 a5).f3))) (ds := []) #[false, false, false, false, false, false, false, false, false, false] (by kernel_rfl) rfl rfl ⟨((HB.out.cell (World.block_lt_of_cell? w _ hw239_0)).trans hw239_0), ((HB.out.cell (World.block_lt_of_cell? w _ hw239_1)).trans hw239_1), ((HB.out.cell (World.block_lt_of_cell? w _ hw239_2)).trans hw239_2), ((HB.out.cell (World.block_lt_of_cell? w _ hw239_3)).trans hw239_3)⟩ (fun hHeld => ?_); refine with_tabW supercargolaw35_NoticeTold.tab7 supercargolaw35_NoticeTold.bits7 (fun HT_ HW_ => ?_)
                      generalize wc.drew = w43 at BK228 HB hx239_0 hx239_1 hx239_2 hx239_3 hHeld ⊢
                      refine pure_ (i := 1) (N := some 70) (v := ?_) (a' := ?_) #[false, true, false, false, false, false, false, false, false, false] rfl rfl (any_of HT_.out (by kernel_rfl)) (fun _ _ _ h => h) (Or.inl ⟨by rfl, ?_⟩) ?_ ?_
                      rotate_left
                      · intro w'
                        go_simp
                        with_reducible rfl
                      rotate_left
                      · simp only [Act.put, List.setIfInBounds_toArray, List.set_cons_zero, List.set_cons_succ, i64_w, i32_w]
                        rfl
                      refine pure_ (i := 3) (N := some 72) (v := ?_) (a' := ?_) #[false, true, false, true, false, false, false, false, false, false] rfl rfl (any_of HT_.out (by kernel_rfl)) (fun _ _ _ h => h) (Or.inl ⟨by rfl, ?_⟩) ?_ ?_
                      rotate_left
                      · intro w'
                        go_simp
                        with_reducible rfl
                      rotate_left
                      · simp only [Act.put, List.setIfInBounds_toArray, List.set_cons_zero, List.set_cons_succ, i64_w, i32_w]
                        rfl
                      refine pure_ (i := 4) (N := some 73) (v := ?_) (a' := ?_) #[false, true, false, true, true, false, false, false, false, false] rfl rfl (any_of HT_.out (by kernel_rfl)) (fun _ _ _ h => h) (Or.inl ⟨by rfl, ?_⟩) ?_ ?_
                      rotate_left
                      · intro w'
                        go_simp
                        with_reducible rfl
                      rotate_left
                      · simp only [Act.put, List.setIfInBounds_toArray, List.set_cons_zero, List.set_cons_succ, i64_w, i32_w]
                        rfl
                      refine pure_ (i := 5) (N := some 74) (v := ?_) (a' := ?_) #[false, true, false, true, true, true, false, false, false, false] rfl rfl (any_of HT_.out (by kernel_rfl)) (fun _ _ _ h => h) (Or.inl ⟨by rfl, ?_⟩) ?_ ?_
                      rotate_left
                      · intro w'
                        go_simp
                        with_reducible rfl
                      rotate_left
                      · simp only [Act.put, List.setIfInBounds_toArray, List.set_cons_zero, List.set_cons_succ, i64_w, i32_w]
                        rfl
                      refine take_ (i := 6) (N := some 75) (v := ?_) (a' := ?_) #[false, true, false, true, true, true, true, false, false, false] rfl rfl (take_ofW HT_.out HW_.out (by kernel_rfl)) (fun _ _ _ h => h) (Or.inl ⟨by rfl, ?_⟩) hHeld ?_ ?_
                      rotate_left
                      · rintro w' ⟨s0, s1, s2, s3⟩
                        go_simp
                        with_reducible rfl
                      rotate_left
                      · simp only [Act.put, List.setIfInBounds_toArray, List.set_cons_zero, List.set_cons_succ, i64_w, i32_w]
                        rfl
                      refine join_ (σ := Value × Value × Value) 2 #[true, true, true, true, true, true, true, true, false, false] (fun s_ => [(69, s_.1), (71, s_.2.1), (76, s_.2.2)]) (fun s_ w' => (w'.cell? (ad239.add ((a5).toNat * 4)) = some (.int .i64 ((rd_T36 l3 a5).f0)) ∧ w'.cell? ⟨(ad239.add ((a5).toNat * 4)).block, (ad239.add ((a5).toNat * 4)).off + 1, none⟩ = some (.int .i64 ((rd_T36 l3 a5).f1)) ∧ w'.cell? ⟨(ad239.add ((a5).toNat * 4)).block, (ad239.add ((a5).toNat * 4)).off + 2, none⟩ = some (.string ((rd_T36 l3 a5).f2)) ∧ w'.cell? ⟨(ad239.add ((a5).toNat * 4)).block, (ad239.add ((a5).toNat * 4)).off + 3, none⟩ = some (.int .i64 ((rd_T36 l3 a5).f3))) ∧ (Kd.R k36 36 w' w.heap.size (fun k_ => some k_ ≠ (s_.2.2 : Value).ownBlock) s_.2.1 y236) ∧ (Kd.R k36 36 w' w.heap.size (fun k_ => some k_ ≠ (s_.2.1 : Value).ownBlock) s_.2.2 y240) ∧ (w'.heap[gb228]? = some (.cells #[.slice A0_0 l0_0.length c0_0, .slice A0_1 l0_1.length c0_1] 24 (0, 0))) ∧ (Below w.heap.size w w')) ?_ ?_
                      rotate_left
                      · intro hCont
                        refine two_ (i := 0) (j := 7) (Ni := some 69) (Nj := some 76) #[true, true, false, true, true, true, true, false, false, false] #[false, true, false, true, true, true, true, true, false, false] rfl rfl rfl rfl (two_of HT_.out (by kernel_rfl)) (by decide) (by decide) (fun K hK => ?_) (fun K hK => ?_)
                        · skip
                          refine Kd.R_lit_step k36 _ 36 ?hg (N := 69) ?hd (xs := ([] : List (S36))) (inner := []) (ok := fun _ => True) (okp := fun _ => True) ?hr ?hp (fun _ hk => hk) trivial (Below.refl _ _) (Nat.le_refl _) (by simp) ?_; (case hd => rfl); (case hg => rfl); (case hr => first | (go_simp; done) | (go_simp; rfl)); (case hp => exact (Reps.none _ _))
                          intro v234 w44 ho45 hb hg_ hnew_
                          clear hg_ hnew_
                          (first | rw [← Ny233.out] at ho45 | (simp only [Int.reduceToNat] at ho45; rw [← Ny233.out] at ho45))
                          have n0_ := Aside0.mk (Kd.R_lower ho45 (below_size (by repeat (first | (with_reducible first | exact HB.out | apply below_alloc | apply pw_below_drewN | apply below_drew1 | refine below_set ?_ GE228.out) | exact HB.out))))
                          have n1_ := Aside0.mk (blk_below (g := gb228) (o := .cells #[.slice A0_0 l0_0.length c0_0, .slice A0_1 l0_1.length c0_1] 24 (0, 0)) (by (with_reducible repeat (first | refine blk_drewN ?_ _ | refine blk_drew ?_ | refine blk_alloc ?_ _)); exact BK228.out) hb)
                          have n2_ := Aside0.mk (below_step (by repeat (first | (with_reducible first | exact HB.out | apply below_alloc | apply pw_below_drewN | apply below_drew1 | refine below_set ?_ GE228.out) | exact HB.out)) hb)
                          clear BK228
                          clear HB
                          have HO235 := n0_
                          have BK228 := n1_
                          have HB := n2_
                          clear n0_ n1_ n2_
                          clear hb ho45
                          refine hK.out _ _ ⟨((HB.out.cell (World.block_lt_of_cell? w _ hw239_0)).trans hw239_0), ((HB.out.cell (World.block_lt_of_cell? w _ hw239_1)).trans hw239_1), ((HB.out.cell (World.block_lt_of_cell? w _ hw239_2)).trans hw239_2), ((HB.out.cell (World.block_lt_of_cell? w _ hw239_3)).trans hw239_3)⟩ (fun hHeld => ?_)
                          clear hK K
                          refine norm_ (a' := ?_) ?_ ?_
                          rotate_left
                          · show Act.put _ (some 69) _ = _
                            simp only [Act.put, List.setIfInBounds_toArray, List.set_cons_zero, List.set_cons_succ, i64_w, i32_w]
                            rfl
                          refine two_ (i := 2) (j := 7) (Ni := some 71) (Nj := some 76) #[true, true, true, true, true, true, true, false, false, false] #[true, true, false, true, true, true, true, true, false, false] rfl rfl rfl rfl (two_of HT_.out (by kernel_rfl)) (by decide) (by decide) (fun K hK => ?_) (fun K hK => ?_)
                          · skip
                            refine Kd.R_append_rows_step k36 (w0 := w) w.heap.size (by rfl) (.tmp 69) (.tmp 70) 32 36 (.agg #[(.int .i64 0), (.int .i64 0), (.string ⟨#[]⟩), (.int .i64 0)]) 40 rfl Try.underlying32 info36 rfl (by decide) (by omega) v234 y233 l4 _ _ _ (fun _ => True) (fun _ => False) rfl rfl ?aO ?aR (fun _ _ h => h) (fun _ h => h.elim) ?aF ?aB ?aS ?aL ?_
                            (case aR => repeat (first | exact (Kd.C_below HR4.out HB.out) | (with_reducible refine Kd.C_alloc ?_ _) | (with_reducible refine Kd.C_drewN ?_ _) | (with_reducible refine Kd.C_drew ?_)))
                            (case aB => exact (by repeat (first | (with_reducible first | exact HB.out | apply below_alloc | apply pw_below_drewN | apply below_drew1 | refine below_set ?_ GE228.out) | exact HB.out)))
                            (case aF => exact (fun _ _ => trivial))
                            (case aO => exact (by (with_reducible repeat (first | apply Kd.R_alloc | apply Kd.R_drewN | apply Kd.R_drew)); exact HO235.out))
                            (case aS => exact (below_size (by repeat (first | (with_reducible first | exact HB.out | apply below_alloc | apply pw_below_drewN | apply below_drew1 | refine below_set ?_ GE228.out) | exact HB.out))))
                            (case aL => have := LMc39.out; omega)
                            intro v237 w46 ho hb hg hat
                            rw [← Ny236.out] at ho
                            have n0_ := Aside0.mk (blk_grown (g := gb228) (o := .cells #[.slice A0_0 l0_0.length c0_0, .slice A0_1 l0_1.length c0_1] 24 (0, 0)) (by (with_reducible repeat (first | refine blk_drewN ?_ _ | refine blk_drew ?_ | refine blk_alloc ?_ _)); exact BK228.out) hg (Kd.R_ne HO235.out BK228.out (by decide)))
                            have n1_ := Aside0.mk (hb)
                            have n2_ := Aside0.mk (ho)
                            clear BK228
                            clear HB
                            clear HO235
                            have BK228 := n0_
                            have HB := n1_
                            have HO238 := n2_
                            clear n0_ n1_ n2_
                            clear ho hb hg hat
                            refine hK.out _ _ ⟨((HB.out.cell (World.block_lt_of_cell? w _ hw239_0)).trans hw239_0), ((HB.out.cell (World.block_lt_of_cell? w _ hw239_1)).trans hw239_1), ((HB.out.cell (World.block_lt_of_cell? w _ hw239_2)).trans hw239_2), ((HB.out.cell (World.block_lt_of_cell? w _ hw239_3)).trans hw239_3)⟩ (fun hHeld => ?_)
                            clear hK K
                            refine norm_ (a' := ?_) ?_ ?_
                            rotate_left
                            · show Act.put _ (some 71) _ = _
                              simp only [Act.put, List.setIfInBounds_toArray, List.set_cons_zero, List.set_cons_succ, i64_w, i32_w]
                              rfl
                            refine one_ (i := 7) (N := some 76) #[true, true, true, true, true, true, true, true, false, false] rfl rfl (one_of HT_.out (by kernel_rfl)) (by decide) (fun K hK => ?_)
                            refine Kd.R_lit_step k36 _ 36 ?hg (N := 76) ?hd (xs := ([(⟨(rd_T36 l3 a5).f0, (rd_T36 l3 a5).f1, (rd_T36 l3 a5).f2, (rd_T36 l3 a5).f3⟩ : S36)] : List (S36))) (inner := [.int .i64 ((rd_T36 l3 a5).f0), .int .i64 ((rd_T36 l3 a5).f1), .string ((rd_T36 l3 a5).f2), .int .i64 ((rd_T36 l3 a5).f3)]) (ok := fun _ => True) (okp := fun _ => True) ?hr ?hp (fun _ hk => hk) trivial (Below.refl _ _) (Nat.le_refl _) (by simp) ?_; (case hd => rfl); (case hg => rfl); (case hr => first | (go_simp; done) | (go_simp; rfl)); (case hp => exact (Reps.c4 (show Kd.M k36 _ _ _ (⟨(rd_T36 l3 a5).f0, (rd_T36 l3 a5).f1, (rd_T36 l3 a5).f2, (rd_T36 l3 a5).f3⟩ : S36) [.int .i64 ((rd_T36 l3 a5).f0), .int .i64 ((rd_T36 l3 a5).f1), .string ((rd_T36 l3 a5).f2), .int .i64 ((rd_T36 l3 a5).f3)] from (k36_mkM _ _ _ (⟨(rd_T36 l3 a5).f0, (rd_T36 l3 a5).f1, (rd_T36 l3 a5).f2, (rd_T36 l3 a5).f3⟩ : S36) )) (Reps.none _ _)))
                            intro v241 w47 ho48 hb hg_ hnew_
                            clear hg_ hnew_
                            (first | rw [← Ny240.out] at ho48 | (simp only [Int.reduceToNat] at ho48; rw [← Ny240.out] at ho48))
                            have n0_ := Aside0.mk (Kd.R_elder' (by (with_reducible repeat (first | apply Kd.R_alloc | apply Kd.R_drewN | apply Kd.R_drew)); exact HO238.out) (Kd.R_base ho48) hb)
                            have n1_ := Aside0.mk (Kd.R_lower (Kd.R_new' ho48 (Kd.R_lt (by (with_reducible repeat (first | apply Kd.R_alloc | apply Kd.R_drewN | apply Kd.R_drew)); exact HO238.out))) (below_size (by repeat (first | (with_reducible first | exact HB.out | apply below_alloc | apply pw_below_drewN | apply below_drew1 | refine below_set ?_ GE228.out) | exact HB.out))))
                            have n2_ := Aside0.mk (blk_below (g := gb228) (o := .cells #[.slice A0_0 l0_0.length c0_0, .slice A0_1 l0_1.length c0_1] 24 (0, 0)) (by (with_reducible repeat (first | refine blk_drewN ?_ _ | refine blk_drew ?_ | refine blk_alloc ?_ _)); exact BK228.out) hb)
                            have n3_ := Aside0.mk (below_step (by repeat (first | (with_reducible first | exact HB.out | apply below_alloc | apply pw_below_drewN | apply below_drew1 | refine below_set ?_ GE228.out) | exact HB.out)) hb)
                            clear HO238
                            clear BK228
                            clear HB
                            have HO238 := n0_
                            have HO242 := n1_
                            have BK228 := n2_
                            have HB := n3_
                            clear n0_ n1_ n2_ n3_
                            clear hb ho48
                            refine hK.out _ _ ⟨((HB.out.cell (World.block_lt_of_cell? w _ hw239_0)).trans hw239_0), ((HB.out.cell (World.block_lt_of_cell? w _ hw239_1)).trans hw239_1), ((HB.out.cell (World.block_lt_of_cell? w _ hw239_2)).trans hw239_2), ((HB.out.cell (World.block_lt_of_cell? w _ hw239_3)).trans hw239_3)⟩ (fun hHeld => ?_)
                            clear hK K
                            refine norm_ (a' := ?_) ?_ ?_
                            rotate_left
                            · show Act.put _ (some 76) _ = _
                              simp only [Act.put, List.setIfInBounds_toArray, List.set_cons_zero, List.set_cons_succ, i64_w, i32_w]
                              rfl
                            exact norm_ (by simp only [putAll, Act.put, List.setIfInBounds_toArray, List.set_cons_zero, List.set_cons_succ]) (hCont (v234, v237, v241) _ ⟨hHeld, (by (with_reducible repeat (first | apply Kd.R_alloc | apply Kd.R_drewN | apply Kd.R_drew)); exact Kd.R_mono HO238.out (fun _ hk => hk.2)), (by (with_reducible repeat (first | apply Kd.R_alloc | apply Kd.R_drewN | apply Kd.R_drew)); exact Kd.R_mono HO242.out (fun _ hk => hk.2)), (by (with_reducible repeat (first | refine blk_drewN ?_ _ | refine blk_drew ?_ | refine blk_alloc ?_ _)); exact BK228.out), (by repeat (first | (with_reducible first | exact HB.out | apply below_alloc | apply pw_below_drewN | apply below_drew1 | refine below_set ?_ GE228.out) | exact HB.out))⟩)
                          · skip
                            refine Kd.R_lit_step k36 _ 36 ?hg (N := 76) ?hd (xs := ([(⟨(rd_T36 l3 a5).f0, (rd_T36 l3 a5).f1, (rd_T36 l3 a5).f2, (rd_T36 l3 a5).f3⟩ : S36)] : List (S36))) (inner := [.int .i64 ((rd_T36 l3 a5).f0), .int .i64 ((rd_T36 l3 a5).f1), .string ((rd_T36 l3 a5).f2), .int .i64 ((rd_T36 l3 a5).f3)]) (ok := fun _ => True) (okp := fun _ => True) ?hr ?hp (fun _ hk => hk) trivial (Below.refl _ _) (Nat.le_refl _) (by simp) ?_; (case hd => rfl); (case hg => rfl); (case hr => first | (go_simp; done) | (go_simp; rfl)); (case hp => exact (Reps.c4 (show Kd.M k36 _ _ _ (⟨(rd_T36 l3 a5).f0, (rd_T36 l3 a5).f1, (rd_T36 l3 a5).f2, (rd_T36 l3 a5).f3⟩ : S36) [.int .i64 ((rd_T36 l3 a5).f0), .int .i64 ((rd_T36 l3 a5).f1), .string ((rd_T36 l3 a5).f2), .int .i64 ((rd_T36 l3 a5).f3)] from (k36_mkM _ _ _ (⟨(rd_T36 l3 a5).f0, (rd_T36 l3 a5).f1, (rd_T36 l3 a5).f2, (rd_T36 l3 a5).f3⟩ : S36) )) (Reps.none _ _)))
                            intro v241 w46 ho47 hb hg_ hnew_
                            clear hg_ hnew_
                            (first | rw [← Ny240.out] at ho47 | (simp only [Int.reduceToNat] at ho47; rw [← Ny240.out] at ho47))
                            have n0_ := Aside0.mk (Kd.R_elder' (by (with_reducible repeat (first | apply Kd.R_alloc | apply Kd.R_drewN | apply Kd.R_drew)); exact HO235.out) (Kd.R_base ho47) hb)
                            have n1_ := Aside0.mk (Kd.R_lower (Kd.R_new' ho47 (Kd.R_lt (by (with_reducible repeat (first | apply Kd.R_alloc | apply Kd.R_drewN | apply Kd.R_drew)); exact HO235.out))) (below_size (by repeat (first | (with_reducible first | exact HB.out | apply below_alloc | apply pw_below_drewN | apply below_drew1 | refine below_set ?_ GE228.out) | exact HB.out))))
                            have n2_ := Aside0.mk (blk_below (g := gb228) (o := .cells #[.slice A0_0 l0_0.length c0_0, .slice A0_1 l0_1.length c0_1] 24 (0, 0)) (by (with_reducible repeat (first | refine blk_drewN ?_ _ | refine blk_drew ?_ | refine blk_alloc ?_ _)); exact BK228.out) hb)
                            have n3_ := Aside0.mk (below_step (by repeat (first | (with_reducible first | exact HB.out | apply below_alloc | apply pw_below_drewN | apply below_drew1 | refine below_set ?_ GE228.out) | exact HB.out)) hb)
                            clear HO235
                            clear BK228
                            clear HB
                            have HO235 := n0_
                            have HO242 := n1_
                            have BK228 := n2_
                            have HB := n3_
                            clear n0_ n1_ n2_ n3_
                            clear hb ho47
                            refine hK.out _ _ ⟨((HB.out.cell (World.block_lt_of_cell? w _ hw239_0)).trans hw239_0), ((HB.out.cell (World.block_lt_of_cell? w _ hw239_1)).trans hw239_1), ((HB.out.cell (World.block_lt_of_cell? w _ hw239_2)).trans hw239_2), ((HB.out.cell (World.block_lt_of_cell? w _ hw239_3)).trans hw239_3)⟩ (fun hHeld => ?_)
                            clear hK K
                            refine norm_ (a' := ?_) ?_ ?_
                            rotate_left
                            · show Act.put _ (some 76) _ = _
                              simp only [Act.put, List.setIfInBounds_toArray, List.set_cons_zero, List.set_cons_succ, i64_w, i32_w]
                              rfl
                            refine one_ (i := 2) (N := some 71) #[true, true, true, true, true, true, true, true, false, false] rfl rfl (one_of HT_.out (by kernel_rfl)) (by decide) (fun K hK => ?_)
                            refine Kd.R_append_rows_step k36 (w0 := w) w.heap.size (by rfl) (.tmp 69) (.tmp 70) 32 36 (.agg #[(.int .i64 0), (.int .i64 0), (.string ⟨#[]⟩), (.int .i64 0)]) 40 rfl Try.underlying32 info36 rfl (by decide) (by omega) v234 y233 l4 _ _ _ (fun k_ => some k_ ≠ (v241 : Value).ownBlock) (fun _ => False) rfl rfl ?aO ?aR (fun _ _ h => h) (fun _ h => h.elim) ?aF ?aB ?aS ?aL ?_
                            (case aR => repeat (first | exact (Kd.C_below HR4.out HB.out) | (with_reducible refine Kd.C_alloc ?_ _) | (with_reducible refine Kd.C_drewN ?_ _) | (with_reducible refine Kd.C_drew ?_)))
                            (case aB => exact (by repeat (first | (with_reducible first | exact HB.out | apply below_alloc | apply pw_below_drewN | apply below_drew1 | refine below_set ?_ GE228.out) | exact HB.out)))
                            (case aF => exact (fun k_ hk => Kd.fresh' (Kd.R_lt (by (with_reducible repeat (first | apply Kd.R_alloc | apply Kd.R_drewN | apply Kd.R_drew)); exact HO242.out)) k_ hk))
                            (case aO => exact (by (with_reducible repeat (first | apply Kd.R_alloc | apply Kd.R_drewN | apply Kd.R_drew)); exact Kd.R_mono HO235.out (fun _ hk => hk.2)))
                            (case aS => exact (below_size (by repeat (first | (with_reducible first | exact HB.out | apply below_alloc | apply pw_below_drewN | apply below_drew1 | refine below_set ?_ GE228.out) | exact HB.out))))
                            (case aL => have := LMc39.out; omega)
                            intro v237 w48 ho hb hg hat
                            rw [← Ny236.out] at ho
                            have n0_ := Aside0.mk (blk_grown (g := gb228) (o := .cells #[.slice A0_0 l0_0.length c0_0, .slice A0_1 l0_1.length c0_1] 24 (0, 0)) (by (with_reducible repeat (first | refine blk_drewN ?_ _ | refine blk_drew ?_ | refine blk_alloc ?_ _)); exact BK228.out) hg (Kd.R_ne HO235.out BK228.out (by decide)))
                            have n1_ := Aside0.mk (Kd.R_after (ok := (fun _ => True)) (by (with_reducible repeat (first | apply Kd.R_alloc | apply Kd.R_drewN | apply Kd.R_drew)); exact HO242.out) hg hat)
                            have n2_ := Aside0.mk (hb)
                            have n3_ := Aside0.mk (ho)
                            clear BK228
                            clear HO242
                            clear HB
                            clear HO235
                            have BK228 := n0_
                            have HO242 := n1_
                            have HB := n2_
                            have HO238 := n3_
                            clear n0_ n1_ n2_ n3_
                            clear ho hb hg hat
                            refine hK.out _ _ ⟨((HB.out.cell (World.block_lt_of_cell? w _ hw239_0)).trans hw239_0), ((HB.out.cell (World.block_lt_of_cell? w _ hw239_1)).trans hw239_1), ((HB.out.cell (World.block_lt_of_cell? w _ hw239_2)).trans hw239_2), ((HB.out.cell (World.block_lt_of_cell? w _ hw239_3)).trans hw239_3)⟩ (fun hHeld => ?_)
                            clear hK K
                            refine norm_ (a' := ?_) ?_ ?_
                            rotate_left
                            · show Act.put _ (some 71) _ = _
                              simp only [Act.put, List.setIfInBounds_toArray, List.set_cons_zero, List.set_cons_succ, i64_w, i32_w]
                              rfl
                            exact norm_ (by simp only [putAll, Act.put, List.setIfInBounds_toArray, List.set_cons_zero, List.set_cons_succ]) (hCont (v234, v237, v241) _ ⟨hHeld, (by (with_reducible repeat (first | apply Kd.R_alloc | apply Kd.R_drewN | apply Kd.R_drew)); exact HO238.out), (by (with_reducible repeat (first | apply Kd.R_alloc | apply Kd.R_drewN | apply Kd.R_drew)); exact Kd.R_mono HO242.out (fun _ hk => hk.2)), (by (with_reducible repeat (first | refine blk_drewN ?_ _ | refine blk_drew ?_ | refine blk_alloc ?_ _)); exact BK228.out), (by repeat (first | (with_reducible first | exact HB.out | apply below_alloc | apply pw_below_drewN | apply below_drew1 | refine below_set ?_ GE228.out) | exact HB.out))⟩)
                        · skip
                          refine Kd.R_lit_step k36 _ 36 ?hg (N := 76) ?hd (xs := ([(⟨(rd_T36 l3 a5).f0, (rd_T36 l3 a5).f1, (rd_T36 l3 a5).f2, (rd_T36 l3 a5).f3⟩ : S36)] : List (S36))) (inner := [.int .i64 ((rd_T36 l3 a5).f0), .int .i64 ((rd_T36 l3 a5).f1), .string ((rd_T36 l3 a5).f2), .int .i64 ((rd_T36 l3 a5).f3)]) (ok := fun _ => True) (okp := fun _ => True) ?hr ?hp (fun _ hk => hk) trivial (Below.refl _ _) (Nat.le_refl _) (by simp) ?_; (case hd => rfl); (case hg => rfl); (case hr => first | (go_simp; done) | (go_simp; rfl)); (case hp => exact (Reps.c4 (show Kd.M k36 _ _ _ (⟨(rd_T36 l3 a5).f0, (rd_T36 l3 a5).f1, (rd_T36 l3 a5).f2, (rd_T36 l3 a5).f3⟩ : S36) [.int .i64 ((rd_T36 l3 a5).f0), .int .i64 ((rd_T36 l3 a5).f1), .string ((rd_T36 l3 a5).f2), .int .i64 ((rd_T36 l3 a5).f3)] from (k36_mkM _ _ _ (⟨(rd_T36 l3 a5).f0, (rd_T36 l3 a5).f1, (rd_T36 l3 a5).f2, (rd_T36 l3 a5).f3⟩ : S36) )) (Reps.none _ _)))
                          intro v241 w44 ho45 hb hg_ hnew_
                          clear hg_ hnew_
                          (first | rw [← Ny240.out] at ho45 | (simp only [Int.reduceToNat] at ho45; rw [← Ny240.out] at ho45))
                          have n0_ := Aside0.mk (Kd.R_lower ho45 (below_size (by repeat (first | (with_reducible first | exact HB.out | apply below_alloc | apply pw_below_drewN | apply below_drew1 | refine below_set ?_ GE228.out) | exact HB.out))))
                          have n1_ := Aside0.mk (blk_below (g := gb228) (o := .cells #[.slice A0_0 l0_0.length c0_0, .slice A0_1 l0_1.length c0_1] 24 (0, 0)) (by (with_reducible repeat (first | refine blk_drewN ?_ _ | refine blk_drew ?_ | refine blk_alloc ?_ _)); exact BK228.out) hb)
                          have n2_ := Aside0.mk (below_step (by repeat (first | (with_reducible first | exact HB.out | apply below_alloc | apply pw_below_drewN | apply below_drew1 | refine below_set ?_ GE228.out) | exact HB.out)) hb)
                          clear BK228
                          clear HB
                          have HO242 := n0_
                          have BK228 := n1_
                          have HB := n2_
                          clear n0_ n1_ n2_
                          clear hb ho45
                          refine hK.out _ _ ⟨((HB.out.cell (World.block_lt_of_cell? w _ hw239_0)).trans hw239_0), ((HB.out.cell (World.block_lt_of_cell? w _ hw239_1)).trans hw239_1), ((HB.out.cell (World.block_lt_of_cell? w _ hw239_2)).trans hw239_2), ((HB.out.cell (World.block_lt_of_cell? w _ hw239_3)).trans hw239_3)⟩ (fun hHeld => ?_)
                          clear hK K
                          refine norm_ (a' := ?_) ?_ ?_
                          rotate_left
                          · show Act.put _ (some 76) _ = _
                            simp only [Act.put, List.setIfInBounds_toArray, List.set_cons_zero, List.set_cons_succ, i64_w, i32_w]
                            rfl
                          refine one_ (i := 0) (N := some 69) #[true, true, false, true, true, true, true, true, false, false] rfl rfl (one_of HT_.out (by kernel_rfl)) (by decide) (fun K hK => ?_)
                          refine Kd.R_lit_step k36 _ 36 ?hg (N := 69) ?hd (xs := ([] : List (S36))) (inner := []) (ok := fun _ => True) (okp := fun _ => True) ?hr ?hp (fun _ hk => hk) trivial (Below.refl _ _) (Nat.le_refl _) (by simp) ?_; (case hd => rfl); (case hg => rfl); (case hr => first | (go_simp; done) | (go_simp; rfl)); (case hp => exact (Reps.none _ _))
                          intro v234 w46 ho47 hb hg_ hnew_
                          clear hg_ hnew_
                          (first | rw [← Ny233.out] at ho47 | (simp only [Int.reduceToNat] at ho47; rw [← Ny233.out] at ho47))
                          have n0_ := Aside0.mk (Kd.R_elder' (by (with_reducible repeat (first | apply Kd.R_alloc | apply Kd.R_drewN | apply Kd.R_drew)); exact HO242.out) (Kd.R_base ho47) hb)
                          have n1_ := Aside0.mk (Kd.R_lower (Kd.R_new' ho47 (Kd.R_lt (by (with_reducible repeat (first | apply Kd.R_alloc | apply Kd.R_drewN | apply Kd.R_drew)); exact HO242.out))) (below_size (by repeat (first | (with_reducible first | exact HB.out | apply below_alloc | apply pw_below_drewN | apply below_drew1 | refine below_set ?_ GE228.out) | exact HB.out))))
                          have n2_ := Aside0.mk (blk_below (g := gb228) (o := .cells #[.slice A0_0 l0_0.length c0_0, .slice A0_1 l0_1.length c0_1] 24 (0, 0)) (by (with_reducible repeat (first | refine blk_drewN ?_ _ | refine blk_drew ?_ | refine blk_alloc ?_ _)); exact BK228.out) hb)
                          have n3_ := Aside0.mk (below_step (by repeat (first | (with_reducible first | exact HB.out | apply below_alloc | apply pw_below_drewN | apply below_drew1 | refine below_set ?_ GE228.out) | exact HB.out)) hb)
                          clear HO242
                          clear BK228
                          clear HB
                          have HO242 := n0_
                          have HO235 := n1_
                          have BK228 := n2_
                          have HB := n3_
                          clear n0_ n1_ n2_ n3_
                          clear hb ho47
                          refine hK.out _ _ ⟨((HB.out.cell (World.block_lt_of_cell? w _ hw239_0)).trans hw239_0), ((HB.out.cell (World.block_lt_of_cell? w _ hw239_1)).trans hw239_1), ((HB.out.cell (World.block_lt_of_cell? w _ hw239_2)).trans hw239_2), ((HB.out.cell (World.block_lt_of_cell? w _ hw239_3)).trans hw239_3)⟩ (fun hHeld => ?_)
                          clear hK K
                          refine norm_ (a' := ?_) ?_ ?_
                          rotate_left
                          · show Act.put _ (some 69) _ = _
                            simp only [Act.put, List.setIfInBounds_toArray, List.set_cons_zero, List.set_cons_succ, i64_w, i32_w]
                            rfl
                          refine one_ (i := 2) (N := some 71) #[true, true, true, true, true, true, true, true, false, false] rfl rfl (one_of HT_.out (by kernel_rfl)) (by decide) (fun K hK => ?_)
                          refine Kd.R_append_rows_step k36 (w0 := w) w.heap.size (by rfl) (.tmp 69) (.tmp 70) 32 36 (.agg #[(.int .i64 0), (.int .i64 0), (.string ⟨#[]⟩), (.int .i64 0)]) 40 rfl Try.underlying32 info36 rfl (by decide) (by omega) v234 y233 l4 _ _ _ (fun k_ => some k_ ≠ (v241 : Value).ownBlock) (fun _ => False) rfl rfl ?aO ?aR (fun _ _ h => h) (fun _ h => h.elim) ?aF ?aB ?aS ?aL ?_
                          (case aR => repeat (first | exact (Kd.C_below HR4.out HB.out) | (with_reducible refine Kd.C_alloc ?_ _) | (with_reducible refine Kd.C_drewN ?_ _) | (with_reducible refine Kd.C_drew ?_)))
                          (case aB => exact (by repeat (first | (with_reducible first | exact HB.out | apply below_alloc | apply pw_below_drewN | apply below_drew1 | refine below_set ?_ GE228.out) | exact HB.out)))
                          (case aF => exact (fun k_ hk => Kd.fresh' (Kd.R_lt (by (with_reducible repeat (first | apply Kd.R_alloc | apply Kd.R_drewN | apply Kd.R_drew)); exact HO242.out)) k_ hk))
                          (case aO => exact (by (with_reducible repeat (first | apply Kd.R_alloc | apply Kd.R_drewN | apply Kd.R_drew)); exact Kd.R_mono HO235.out (fun _ hk => hk.2)))
                          (case aS => exact (below_size (by repeat (first | (with_reducible first | exact HB.out | apply below_alloc | apply pw_below_drewN | apply below_drew1 | refine below_set ?_ GE228.out) | exact HB.out))))
                          (case aL => have := LMc39.out; omega)
                          intro v237 w48 ho hb hg hat
                          rw [← Ny236.out] at ho
                          have n0_ := Aside0.mk (blk_grown (g := gb228) (o := .cells #[.slice A0_0 l0_0.length c0_0, .slice A0_1 l0_1.length c0_1] 24 (0, 0)) (by (with_reducible repeat (first | refine blk_drewN ?_ _ | refine blk_drew ?_ | refine blk_alloc ?_ _)); exact BK228.out) hg (Kd.R_ne HO235.out BK228.out (by decide)))
                          have n1_ := Aside0.mk (Kd.R_after (ok := (fun _ => True)) (by (with_reducible repeat (first | apply Kd.R_alloc | apply Kd.R_drewN | apply Kd.R_drew)); exact HO242.out) hg hat)
                          have n2_ := Aside0.mk (hb)
                          have n3_ := Aside0.mk (ho)
                          clear BK228
                          clear HO242
                          clear HB
                          clear HO235
                          have BK228 := n0_
                          have HO242 := n1_
                          have HB := n2_
                          have HO238 := n3_
                          clear n0_ n1_ n2_ n3_
                          clear ho hb hg hat
                          refine hK.out _ _ ⟨((HB.out.cell (World.block_lt_of_cell? w _ hw239_0)).trans hw239_0), ((HB.out.cell (World.block_lt_of_cell? w _ hw239_1)).trans hw239_1), ((HB.out.cell (World.block_lt_of_cell? w _ hw239_2)).trans hw239_2), ((HB.out.cell (World.block_lt_of_cell? w _ hw239_3)).trans hw239_3)⟩ (fun hHeld => ?_)
                          clear hK K
                          refine norm_ (a' := ?_) ?_ ?_
                          rotate_left
                          · show Act.put _ (some 71) _ = _
                            simp only [Act.put, List.setIfInBounds_toArray, List.set_cons_zero, List.set_cons_succ, i64_w, i32_w]
                            rfl
                          exact norm_ (by simp only [putAll, Act.put, List.setIfInBounds_toArray, List.set_cons_zero, List.set_cons_succ]) (hCont (v234, v237, v241) _ ⟨hHeld, (by (with_reducible repeat (first | apply Kd.R_alloc | apply Kd.R_drewN | apply Kd.R_drew)); exact HO238.out), (by (with_reducible repeat (first | apply Kd.R_alloc | apply Kd.R_drewN | apply Kd.R_drew)); exact Kd.R_mono HO242.out (fun _ hk => hk.2)), (by (with_reducible repeat (first | refine blk_drewN ?_ _ | refine blk_drew ?_ | refine blk_alloc ?_ _)); exact BK228.out), (by repeat (first | (with_reducible first | exact HB.out | apply below_alloc | apply pw_below_drewN | apply below_drew1 | refine below_set ?_ GE228.out) | exact HB.out))⟩)
                      rintro ⟨v234, v237, v241⟩ w49 ⟨hS_, h0_, h1_, h2_, h3_⟩
                      have n0_ : Aside0 (Kd.R k36 36 w49 w.heap.size (fun k_ => some k_ ≠ (v241 : Value).ownBlock) v237 y236) := ⟨h0_⟩
                      have n1_ : Aside0 (Kd.R k36 36 w49 w.heap.size (fun k_ => some k_ ≠ (v237 : Value).ownBlock) v241 y240) := ⟨h1_⟩
                      have n2_ : Aside0 (w49.heap[gb228]? = some (.cells #[.slice A0_0 l0_0.length c0_0, .slice A0_1 l0_1.length c0_1] 24 (0, 0))) := ⟨h2_⟩
                      have n3_ : Aside0 (Below w.heap.size w w49) := ⟨h3_⟩
                      clear BK228
                      clear HB
                      clear h0_ h1_ h2_ h3_
                      have HO238 := n0_
                      have HO242 := n1_
                      have BK228 := n2_
                      have HB := n3_
                      clear n0_ n1_ n2_ n3_
                      have hHeld : w49.cell? (ad239.add ((a5).toNat * 4)) = some (.int .i64 ((rd_T36 l3 a5).f0)) ∧ w49.cell? ⟨(ad239.add ((a5).toNat * 4)).block, (ad239.add ((a5).toNat * 4)).off + 1, none⟩ = some (.int .i64 ((rd_T36 l3 a5).f1)) ∧ w49.cell? ⟨(ad239.add ((a5).toNat * 4)).block, (ad239.add ((a5).toNat * 4)).off + 2, none⟩ = some (.string ((rd_T36 l3 a5).f2)) ∧ w49.cell? ⟨(ad239.add ((a5).toNat * 4)).block, (ad239.add ((a5).toNat * 4)).off + 3, none⟩ = some (.int .i64 ((rd_T36 l3 a5).f3)) := hS_
                      obtain ⟨Ao51, co51, eo51⟩ := Kd.R_slice HO242.out
                      (first | subst eo51 | (injection eo51 with f1_ f2_ f3_; have f4_ := f1_.symm; have f5_ := f3_.symm; clear f1_ f2_ f3_; subst f4_; subst f5_))
                      refine norm_ (a' := ?_) ?_ ?_
                      rotate_left
                      · simp only [putAll, Act.put, List.setIfInBounds_toArray, List.set_cons_zero, List.set_cons_succ]
                        rfl
                      refine one_ (i := 8) (N := some 77) #[true, true, true, true, true, true, true, true, true, false] rfl rfl (one_of HT_.out (by kernel_rfl)) (by decide) (fun K hK => ?_)
                      refine Kd.R_append_rows_step k36 (w0 := w) w.heap.size (by rfl) (.tmp 71) (.tmp 76) 32 36 (.agg #[(.int .i64 0), (.int .i64 0), (.string ⟨#[]⟩), (.int .i64 0)]) 40 rfl Try.underlying32 info36 rfl (by decide) (by omega) v237 y236 y240 _ _ _ (fun k_ => some k_ ≠ (.slice Ao51 y240.length co51 : Value).ownBlock) (fun _ => False) rfl rfl ?aO ?aR (fun _ _ h => h) (fun _ h => h.elim) ?aF ?aB ?aS ?aL ?_
                      (case aR => repeat (first | exact (Kd.R_reads' HO242.out).2.2 | (with_reducible refine Kd.C_alloc ?_ _) | (with_reducible refine Kd.C_drewN ?_ _) | (with_reducible refine Kd.C_drew ?_)))
                      (case aB => exact (by repeat (first | (with_reducible first | exact HB.out | apply below_alloc | apply pw_below_drewN | apply below_drew1 | refine below_set ?_ GE228.out) | exact HB.out)))
                      (case aF => exact (fun k_ hk => Kd.fresh' (Kd.R_lt (by (with_reducible repeat (first | apply Kd.R_alloc | apply Kd.R_drewN | apply Kd.R_drew)); exact HO242.out)) k_ hk))
                      (case aO => exact (by (with_reducible repeat (first | apply Kd.R_alloc | apply Kd.R_drewN | apply Kd.R_drew)); exact HO238.out))
                      (case aS => exact (below_size (by repeat (first | (with_reducible first | exact HB.out | apply below_alloc | apply pw_below_drewN | apply below_drew1 | refine below_set ?_ GE228.out) | exact HB.out))))
                      (case aL => have := LMc42.out; omega)
                      intro v244 w50 ho hb hg hat
                      rw [← Ny243.out] at ho
                      have n0_ := Aside0.mk (blk_grown (g := gb228) (o := .cells #[.slice A0_0 l0_0.length c0_0, .slice A0_1 l0_1.length c0_1] 24 (0, 0)) (by (with_reducible repeat (first | refine blk_drewN ?_ _ | refine blk_drew ?_ | refine blk_alloc ?_ _)); exact BK228.out) hg (Kd.R_ne HO238.out BK228.out (by decide)))
                      have n1_ := Aside0.mk (Kd.R_after (ok := (fun _ => True)) (by (with_reducible repeat (first | apply Kd.R_alloc | apply Kd.R_drewN | apply Kd.R_drew)); exact Kd.R_mono HO242.out (fun _ hk => ⟨trivial, hk⟩)) hg hat)
                      have n2_ := Aside0.mk (hb)
                      have n3_ := Aside0.mk (ho)
                      clear BK228
                      clear HO242
                      clear HB
                      clear HO238
                      have BK228 := n0_
                      have HO242 := n1_
                      have HB := n2_
                      have HO245 := n3_
                      clear n0_ n1_ n2_ n3_
                      clear ho hb hg hat
                      refine hK.out _ _ ⟨((HB.out.cell (World.block_lt_of_cell? w _ hw239_0)).trans hw239_0), ((HB.out.cell (World.block_lt_of_cell? w _ hw239_1)).trans hw239_1), ((HB.out.cell (World.block_lt_of_cell? w _ hw239_2)).trans hw239_2), ((HB.out.cell (World.block_lt_of_cell? w _ hw239_3)).trans hw239_3)⟩ (fun hHeld => ?_)
                      clear hK K
                      refine norm_ (a' := ?_) ?_ ?_
                      rotate_left
                      · show Act.put _ (some 77) _ = _
                        simp only [Act.put, List.setIfInBounds_toArray, List.set_cons_zero, List.set_cons_succ, i64_w, i32_w]
                        rfl
                      refine pure_ (i := 9) (N := some 16) (v := ?_) (a' := ?_) #[true, true, true, true, true, true, true, true, true, true] rfl rfl (any_of HT_.out (by kernel_rfl)) (fun _ _ _ h => h) (Or.inl ⟨by rfl, ?_⟩) ?_ ?_
                      rotate_left
                      · intro w'
                        go_simp
                        with_reducible rfl
                      rotate_left
                      · simp only [Act.put, List.setIfInBounds_toArray, List.set_cons_zero, List.set_cons_succ, i64_w, i32_w]
                        rfl
                      refine done_ (done_of HT_.out (by kernel_rfl)) ?_
                      try go_wp2
                      go_loopg [17, 18] kj36 (fun kq v17 v18 w' => ∃ (x17_3 : List (S36)) (x18_3 : Int), v18 = .int .i64 x18_3 ∧ Aside0 (supercargolaw35_NoticeTold.l0 kq a1 a2 l3 l4 x15_36 y243 x17_3 x18_3 l0_0 l0_1 = some r) ∧ Aside0 (kq ≤ kj36) ∧ Aside0 (Kd.R k36 36 w' w.heap.size (fun k_ => some k_ ≠ (v17 : Value).ownBlock) v244 y243) ∧ Aside0 (Kd.R k36 36 w' w.heap.size (fun k_ => some k_ ≠ (v244 : Value).ownBlock) v17 x17_3) ∧ Aside0 (w'.heap[gb228]? = some (.cells #[(.slice A0_0 l0_0.length c0_0), (.slice A0_1 l0_1.length c0_1)] 24 (0, 0))) ∧ Aside0 (Below w.heap.size w w'))
                      case atStart => exact ⟨(([] : List (S36))), (0), (by first | rfl | (simp; done) | (simp [*]; done)), H', ⟨Nat.le_refl _⟩, ⟨by (with_reducible repeat (first | apply Kd.R_alloc | apply Kd.R_drewN | apply Kd.R_drew)); exact Kd.R_mono HO245.out (fun _ hk => (by simp [Value.ownBlock]))⟩, ⟨by first | exact Kd.R_nil _ _ _ _ _ | exact Kd.N_nil _ _ _ _ _ | exact Kd.V_nil _ _ _ _ _ | exact Kd.Q_nil _ _ _ _ _ | exact Kd.S_nil _ _ _ _ _⟩, ⟨by (with_reducible repeat (first | refine blk_drewN ?_ _ | refine blk_drew ?_ | refine blk_alloc ?_ _)); exact BK228.out⟩, ⟨by repeat (first | (with_reducible first | exact HB.out | apply below_alloc | apply pw_below_drewN | apply below_drew1 | refine below_set ?_ GE228.out) | exact HB.out)⟩⟩
                      case round =>
                        clear H'
                        try clear c1
                        try clear c2
                        try clear p2
                        try clear q2
                        try clear hx2
                        try clear c3
                        try clear c4
                        try clear c6
                        try clear c8
                        try clear c9
                        try clear c10
                        try clear c11
                        try clear c16
                        try clear c17
                        try clear c18
                        try clear c18b0
                        try clear c18b1
                        try clear c18b2
                        try clear c21
                        try clear c21b0
                        try clear c21b1
                        try clear p23
                        try clear q23
                        try clear hx23
                        try clear c24
                        try clear c24b0
                        try clear c24b1
                        try clear c27
                        try clear c27b0
                        try clear c36
                        try clear c38
                        try clear c38b0
                        try clear c39
                        try clear c40
                        try clear c40b0
                        try clear c41
                        try clear c41b0
                        try clear c42
                        try clear hcz13_0
                        try clear hcz13_1
                        try clear hcz19_0
                        try clear hcz19_1
                        try clear hcz22_0
                        try clear hcz22_1
                        try clear hcz25_0
                        try clear hcz25_1
                        try clear hcz28_0
                        try clear hcz28_1
                        try clear hcz30_0
                        try clear hcz30_1
                        try clear hcz32_0
                        try clear hcz32_1
                        try clear hcz34_0
                        try clear hcz34_1
                        try clear hfz13_0
                        try clear hfz13_1
                        try clear hfz19_0
                        try clear hfz19_1
                        try clear hfz22_0
                        try clear hfz22_1
                        try clear hfz25_0
                        try clear hfz25_1
                        try clear hfz28_0
                        try clear hfz28_1
                        try clear hfz30_0
                        try clear hfz30_1
                        try clear hfz32_0
                        try clear hfz32_1
                        try clear hfz34_0
                        try clear hfz34_1
                        try clear hx239_0
                        try clear hx239_1
                        try clear hx239_2
                        try clear hx239_3
                        try clear p2
                        try clear p239
                        try clear q239
                        obtain ⟨x17_3, x18_3, rfl, HA, HK3, HO_16, HO_17, BK228, HB⟩ := hrel
                        cases gk with
                        | zero => exact absurd HA.out (by simp [supercargolaw35_NoticeTold.l0])
                        | succ k3 =>
                          have H := HA.out
                          clear HA
                          simp only [supercargolaw35_NoticeTold.l0] at H
                          by_cases c52 : x18_3 < (l4.length : Int)
                          · rw [if_pos c52] at H
                            have c52b0 : decide (x18_3 < (l4.length : Int)) = true := decide_eq_true c52
                            clear c52
                            have H' := Aside0.mk H
                            clear H
                            go_wp2
                            go_loopg [19, 20] k3 (fun kq v19 v20 w' => ∃ (x19_4 : Bool) (x20_4 : Int), v19 = .bool x19_4 ∧ v20 = .int .i64 x20_4 ∧ Aside0 (supercargolaw35_NoticeTold.l1 kq a1 a2 l3 l4 x15_36 y243 x17_3 x18_3 x19_4 x20_4 l0_0 l0_1 = some r) ∧ Aside0 (kq ≤ k3) ∧ Aside0 (Kd.R k36 36 w' w.heap.size (fun k_ => some k_ ≠ (u17 : Value).ownBlock) v244 y243) ∧ Aside0 (Kd.R k36 36 w' w.heap.size (fun k_ => some k_ ≠ (v244 : Value).ownBlock) u17 x17_3) ∧ Aside0 (w'.heap[gb228]? = some (.cells #[(.slice A0_0 l0_0.length c0_0), (.slice A0_1 l0_1.length c0_1)] 24 (0, 0))) ∧ Aside0 (Below w.heap.size w w'))
                            case atStart => exact ⟨(false), (0), (by first | rfl | (simp; done) | (simp [*]; done)), (by first | rfl | (simp; done) | (simp [*]; done)), H', ⟨Nat.le_refl _⟩, ⟨by (with_reducible repeat (first | apply Kd.R_alloc | apply Kd.R_drewN | apply Kd.R_drew)); exact HO_16.out⟩, ⟨by (with_reducible repeat (first | apply Kd.R_alloc | apply Kd.R_drewN | apply Kd.R_drew)); exact HO_17.out⟩, ⟨by (with_reducible repeat (first | refine blk_drewN ?_ _ | refine blk_drew ?_ | refine blk_alloc ?_ _)); exact BK228.out⟩, ⟨by repeat (first | (with_reducible first | exact HB.out | apply below_alloc | apply pw_below_drewN | apply below_drew1 | refine below_set ?_ GE228.out) | exact HB.out)⟩⟩
                            case round =>
                              clear H'
                              try clear c1
                              try clear c2
                              try clear p2
                              try clear q2
                              try clear hx2
                              try clear c3
                              try clear c4
                              try clear c5
                              try clear c6
                              try clear c8
                              try clear c9
                              try clear c10
                              try clear c11
                              try clear c16
                              try clear c17
                              try clear c18
                              try clear c18b0
                              try clear c18b1
                              try clear c18b2
                              try clear c21
                              try clear c21b0
                              try clear c21b1
                              try clear p23
                              try clear q23
                              try clear hx23
                              try clear c24
                              try clear c24b0
                              try clear c24b1
                              try clear c27
                              try clear c27b0
                              try clear c36
                              try clear c38
                              try clear c38b0
                              try clear c39
                              try clear c40
                              try clear c40b0
                              try clear c41
                              try clear c41b0
                              try clear c42
                              try clear c52
                              try clear c52b0
                              try clear hcz13_0
                              try clear hcz13_1
                              try clear hcz19_0
                              try clear hcz19_1
                              try clear hcz22_0
                              try clear hcz22_1
                              try clear hcz25_0
                              try clear hcz25_1
                              try clear hcz28_0
                              try clear hcz28_1
                              try clear hcz30_0
                              try clear hcz30_1
                              try clear hcz32_0
                              try clear hcz32_1
                              try clear hcz34_0
                              try clear hcz34_1
                              try clear hfz13_0
                              try clear hfz13_1
                              try clear hfz19_0
                              try clear hfz19_1
                              try clear hfz22_0
                              try clear hfz22_1
                              try clear hfz25_0
                              try clear hfz25_1
                              try clear hfz28_0
                              try clear hfz28_1
                              try clear hfz30_0
                              try clear hfz30_1
                              try clear hfz32_0
                              try clear hfz32_1
                              try clear hfz34_0
                              try clear hfz34_1
                              try clear hx239_0
                              try clear hx239_1
                              try clear hx239_2
                              try clear hx239_3
                              try clear p2
                              try clear p23
                              try clear p239
                              try clear q2
                              try clear q23
                              try clear q239
                              obtain ⟨x19_4, x20_4, rfl, rfl, HA, HK4, HO_16, HO_17, BK228, HB⟩ := hrel
                              cases gk with
                              | zero => exact absurd HA.out (by simp [supercargolaw35_NoticeTold.l1])
                              | succ k4 =>
                                have H := HA.out
                                clear HA
                                simp only [supercargolaw35_NoticeTold.l1] at H
                                by_cases c53 : x20_4 < (l3.length : Int)
                                · rw [if_pos c53] at H
                                  have c53b0 : decide (x20_4 < (l3.length : Int)) = true := decide_eq_true c53
                                  clear c53
                                  by_cases c54 : x19_4 = true
                                  · subst c54
                                    have H1 : (supercargolaw35_NoticeTold.l1 k4 a1 a2 l3 l4 x15_36 y243 x17_3 x18_3 true (wrap64 (x20_4 + 1)) l0_0 l0_1) = some r := by rw [if_pos rfl] at H; exact H
                                    clear H
                                    have H := H1
                                    clear H1
                                    have H' := Aside0.mk H
                                    clear H
                                    try go_wp2
                                    have n0_ := Aside0.mk (Kd.R_drew HO_16.out)
                                    have n1_ := Aside0.mk (Kd.R_drew HO_17.out)
                                    have n2_ := Aside0.mk (blk_drew BK228.out)
                                    have n3_ := Aside0.mk (below_drew1 HB.out)
                                    clear HO_16
                                    clear HO_17
                                    clear BK228
                                    clear HB
                                    have HO_16 := n0_
                                    have HO_17 := n1_
                                    have BK228 := n2_
                                    have HB := n3_
                                    clear n0_ n1_ n2_ n3_
                                    refine start_ (n := 13) (S := fun w' => True) (ds := []) #[false, false, false, false, false, false, false, false, false, false, false, false, false] (by kernel_rfl) rfl rfl trivial (fun hHeld => ?_); refine with_tabW supercargolaw35_NoticeTold.tab16 supercargolaw35_NoticeTold.bits16 (fun HT_ HW_ => ?_)
                                    generalize wr.drew = w55 at HO_16 HO_17 BK228 HB hHeld ⊢
                                    refine pure_ (i := 0) (N := some 90) (v := ?_) (a' := ?_) #[true, false, false, false, false, false, false, false, false, false, false, false, false] rfl rfl (any_of HT_.out (by kernel_rfl)) (fun _ _ _ h => h) (Or.inl ⟨by rfl, ?_⟩) ?_ ?_
                                    rotate_left
                                    · intro w'
                                      go_simp
                                      with_reducible rfl
                                    rotate_left
                                    · simp only [Act.put, List.setIfInBounds_toArray, List.set_cons_zero, List.set_cons_succ, i64_w, i32_w]
                                      rfl
                                    refine pure_ (i := 1) (N := some 91) (v := ?_) (a' := ?_) #[true, true, false, false, false, false, false, false, false, false, false, false, false] rfl rfl (any_of HT_.out (by kernel_rfl)) (fun _ _ _ h => h) (Or.inl ⟨by rfl, ?_⟩) ?_ ?_
                                    rotate_left
                                    · intro w'
                                      go_simp
                                      with_reducible rfl
                                    rotate_left
                                    · simp only [Act.put, List.setIfInBounds_toArray, List.set_cons_zero, List.set_cons_succ, i64_w, i32_w]
                                      rfl
                                    refine pure_ (i := 2) (N := some 92) (v := undef) (a' := ?_) #[true, true, true, false, false, false, false, false, false, false, false, false, false] rfl rfl (any_of HT_.out (by kernel_rfl)) (fun _ _ _ h => h) (Or.inr ⟨by rfl, rfl⟩) ?_ ?_
                                    rotate_left
                                    · simp only [Act.put, List.setIfInBounds_toArray, List.set_cons_zero, List.set_cons_succ, i64_w, i32_w]
                                      rfl
                                    refine pure_ (i := 3) (N := some 93) (v := undef) (a' := ?_) #[true, true, true, true, false, false, false, false, false, false, false, false, false] rfl rfl (any_of HT_.out (by kernel_rfl)) (fun _ _ _ h => h) (Or.inr ⟨by rfl, rfl⟩) ?_ ?_
                                    rotate_left
                                    · simp only [Act.put, List.setIfInBounds_toArray, List.set_cons_zero, List.set_cons_succ, i64_w, i32_w]
                                      rfl
                                    refine pure_ (i := 4) (N := some 94) (v := undef) (a' := ?_) #[true, true, true, true, true, false, false, false, false, false, false, false, false] rfl rfl (any_of HT_.out (by kernel_rfl)) (fun _ _ _ h => h) (Or.inr ⟨by rfl, rfl⟩) ?_ ?_
                                    rotate_left
                                    · simp only [Act.put, List.setIfInBounds_toArray, List.set_cons_zero, List.set_cons_succ, i64_w, i32_w]
                                      rfl
                                    refine pure_ (i := 5) (N := some 95) (v := undef) (a' := ?_) #[true, true, true, true, true, true, false, false, false, false, false, false, false] rfl rfl (any_of HT_.out (by kernel_rfl)) (fun _ _ _ h => h) (Or.inr ⟨by rfl, rfl⟩) ?_ ?_
                                    rotate_left
                                    · simp only [Act.put, List.setIfInBounds_toArray, List.set_cons_zero, List.set_cons_succ, i64_w, i32_w]
                                      rfl
                                    refine pure_ (i := 6) (N := some 96) (v := undef) (a' := ?_) #[true, true, true, true, true, true, true, false, false, false, false, false, false] rfl rfl (any_of HT_.out (by kernel_rfl)) (fun _ _ _ h => h) (Or.inr ⟨by rfl, rfl⟩) ?_ ?_
                                    rotate_left
                                    · simp only [Act.put, List.setIfInBounds_toArray, List.set_cons_zero, List.set_cons_succ, i64_w, i32_w]
                                      rfl
                                    refine pure_ (i := 7) (N := some 97) (v := undef) (a' := ?_) #[true, true, true, true, true, true, true, true, false, false, false, false, false] rfl rfl (any_of HT_.out (by kernel_rfl)) (fun _ _ _ h => h) (Or.inr ⟨by rfl, rfl⟩) ?_ ?_
                                    rotate_left
                                    · simp only [Act.put, List.setIfInBounds_toArray, List.set_cons_zero, List.set_cons_succ, i64_w, i32_w]
                                      rfl
                                    refine pure_ (i := 8) (N := some 98) (v := undef) (a' := ?_) #[true, true, true, true, true, true, true, true, true, false, false, false, false] rfl rfl (any_of HT_.out (by kernel_rfl)) (fun _ _ _ h => h) (Or.inr ⟨by rfl, rfl⟩) ?_ ?_
                                    rotate_left
                                    · simp only [Act.put, List.setIfInBounds_toArray, List.set_cons_zero, List.set_cons_succ, i64_w, i32_w]
                                      rfl
                                    refine pure_ (i := 9) (N := some 99) (v := undef) (a' := ?_) #[true, true, true, true, true, true, true, true, true, true, false, false, false] rfl rfl (any_of HT_.out (by kernel_rfl)) (fun _ _ _ h => h) (Or.inr ⟨by rfl, rfl⟩) ?_ ?_
                                    rotate_left
                                    · simp only [Act.put, List.setIfInBounds_toArray, List.set_cons_zero, List.set_cons_succ, i64_w, i32_w]
                                      rfl
                                    refine pure_ (i := 10) (N := some 100) (v := undef) (a' := ?_) #[true, true, true, true, true, true, true, true, true, true, true, false, false] rfl rfl (any_of HT_.out (by kernel_rfl)) (fun _ _ _ h => h) (Or.inr ⟨by rfl, rfl⟩) ?_ ?_
                                    rotate_left
                                    · simp only [Act.put, List.setIfInBounds_toArray, List.set_cons_zero, List.set_cons_succ, i64_w, i32_w]
                                      rfl
                                    refine pure_ (i := 11) (N := some 101) (v := ?_) (a' := ?_) #[true, true, true, true, true, true, true, true, true, true, true, true, false] rfl rfl (any_of HT_.out (by kernel_rfl)) (fun _ _ _ h => h) (Or.inl ⟨by rfl, ?_⟩) ?_ ?_
                                    rotate_left
                                    · intro w'
                                      go_simp
                                      with_reducible rfl
                                    rotate_left
                                    · simp only [Act.put, List.setIfInBounds_toArray, List.set_cons_zero, List.set_cons_succ, i64_w, i32_w]
                                      rfl
                                    refine pure_ (i := 12) (N := some 19) (v := ?_) (a' := ?_) #[true, true, true, true, true, true, true, true, true, true, true, true, true] rfl rfl (any_of HT_.out (by kernel_rfl)) (fun _ _ _ h => h) (Or.inl ⟨by rfl, ?_⟩) ?_ ?_
                                    rotate_left
                                    · intro w'
                                      go_simp
                                      with_reducible rfl
                                    rotate_left
                                    · simp only [Act.put, List.setIfInBounds_toArray, List.set_cons_zero, List.set_cons_succ, i64_w, i32_w]
                                      rfl
                                    refine done_ (done_of HT_.out (by kernel_rfl)) ?_
                                    try go_wp2
                                    go_roundg k4
                                    case measure => have := HJ9.out; have := HJ36.out; have := HK3.out; have := HK4.out; omega
                                    case rel => exact ⟨(true), (wrap64 (x20_4 + 1)), (by first | rfl | (simp; done) | (simp [*]; done)), (by first | rfl | (simp; done) | (simp [*]; done)), H', ⟨by have := HJ9.out; have := HJ36.out; have := HK3.out; have := HK4.out; omega⟩, ⟨by (with_reducible repeat (first | apply Kd.R_alloc | apply Kd.R_drewN | apply Kd.R_drew)); exact HO_16.out⟩, ⟨by (with_reducible repeat (first | apply Kd.R_alloc | apply Kd.R_drewN | apply Kd.R_drew)); exact HO_17.out⟩, ⟨by (with_reducible repeat (first | refine blk_drewN ?_ _ | refine blk_drew ?_ | refine blk_alloc ?_ _)); exact BK228.out⟩, ⟨by repeat (first | (with_reducible first | exact HB.out | apply below_alloc | apply pw_below_drewN | apply below_drew1 | refine below_set ?_ GE228.out) | exact HB.out)⟩⟩
                                  · replace c54 := Bool.eq_false_iff.mpr c54
                                    subst c54
                                    have H1 : (if 0 ≤ x20_4 then (if 0 ≤ x18_3 then (if x18_3 < (l4.length : Int) then (supercargolaw35_NoticeTold.l1 k4 a1 a2 l3 l4 x15_36 y243 x17_3 x18_3 (((rd_T36 l3 x20_4).f0) == ((rd_T36 l4 x18_3).f0) && (((rd_T36 l3 x20_4).f1) == ((rd_T36 l4 x18_3).f1) && ((((rd_T36 l3 x20_4).f2).toList) == (((rd_T36 l4 x18_3).f2).toList) && (((rd_T36 l3 x20_4).f3) == ((rd_T36 l4 x18_3).f3))))) (wrap64 (x20_4 + 1)) l0_0 l0_1) else (none)) else (none)) else (none)) = some r := by rw [if_neg (show ¬ (false = true) by decide)] at H; exact H
                                    clear H
                                    have H := H1
                                    clear H1
                                    by_cases c56 : 0 ≤ x20_4
                                    · rw [if_pos c56] at H
                                      have c56b0 : decide (0 ≤ x20_4) = true := decide_eq_true c56
                                      clear c56
                                      by_cases c57 : 0 ≤ x18_3
                                      · rw [if_pos c57] at H
                                        have c57b0 : decide (0 ≤ x18_3) = true := decide_eq_true c57
                                        clear c57
                                        by_cases c58 : x18_3 < (l4.length : Int)
                                        · rw [if_pos c58] at H
                                          have c58b0 : decide (x18_3 < (l4.length : Int)) = true := decide_eq_true c58
                                          clear c58
                                          have H' := Aside0.mk H
                                          clear H
                                          try go_wp2
                                          have n0_ := Aside0.mk (Kd.R_drew HO_16.out)
                                          have n1_ := Aside0.mk (Kd.R_drew HO_17.out)
                                          have n2_ := Aside0.mk (blk_drew BK228.out)
                                          have n3_ := Aside0.mk (below_drew1 HB.out)
                                          clear HO_16
                                          clear HO_17
                                          clear BK228
                                          clear HB
                                          have HO_16 := n0_
                                          have HO_17 := n1_
                                          have BK228 := n2_
                                          have HB := n3_
                                          clear n0_ n1_ n2_ n3_
                                          have p249 : 0 ≤ (x20_4 : Int) := of_decide_eq_true (by first | (with_reducible assumption) | assumption)
                                          have q249 : x20_4 < (l3.length : Int) := of_decide_eq_true (by first | (with_reducible assumption) | assumption)
                                          obtain ⟨ad249, e249, hx249_0, hx249_1, hx249_2, hx249_3⟩ := at_T36 HR3.out x20_4 p249 q249
                                          have hw249_3 := hx249_3
                                          have hw249_2 := hx249_2
                                          have hw249_1 := hx249_1
                                          have hw249_0 := hx249_0
                                          obtain rfl : ad239 = ad249 := (by injection e249)
                                          replace hx249_0 := (HB.out.cell (World.block_lt_of_cell? w _ hx249_0)).trans hx249_0
                                          replace hx249_1 := (HB.out.cell (World.block_lt_of_cell? w _ hx249_1)).trans hx249_1
                                          replace hx249_2 := (HB.out.cell (World.block_lt_of_cell? w _ hx249_2)).trans hx249_2
                                          replace hx249_3 := (HB.out.cell (World.block_lt_of_cell? w _ hx249_3)).trans hx249_3
                                          replace p249 := eq_true p249
                                          replace q249 := eq_true q249
                                          have p250 : 0 ≤ (x18_3 : Int) := of_decide_eq_true (by first | (with_reducible assumption) | assumption)
                                          have q250 : x18_3 < (l4.length : Int) := of_decide_eq_true (by first | (with_reducible assumption) | assumption)
                                          obtain ⟨ad250, e250, hx250_0, hx250_1, hx250_2, hx250_3⟩ := at_T36 HR4.out x18_3 p250 q250
                                          have hw250_3 := hx250_3
                                          have hw250_2 := hx250_2
                                          have hw250_1 := hx250_1
                                          have hw250_0 := hx250_0
                                          cases e250
                                          replace hx250_0 := (HB.out.cell (World.block_lt_of_cell? w _ hx250_0)).trans hx250_0
                                          replace hx250_1 := (HB.out.cell (World.block_lt_of_cell? w _ hx250_1)).trans hx250_1
                                          replace hx250_2 := (HB.out.cell (World.block_lt_of_cell? w _ hx250_2)).trans hx250_2
                                          replace hx250_3 := (HB.out.cell (World.block_lt_of_cell? w _ hx250_3)).trans hx250_3
                                          replace p250 := eq_true p250
                                          replace q250 := eq_true q250
                                          refine start_ (n := 13) (S := fun w' => w'.cell? (ad239.add ((x20_4).toNat * 4)) = some (.int .i64 ((rd_T36 l3 x20_4).f0)) ∧ w'.cell? ⟨(ad239.add ((x20_4).toNat * 4)).block, (ad239.add ((x20_4).toNat * 4)).off + 1, none⟩ = some (.int .i64 ((rd_T36 l3 x20_4).f1)) ∧ w'.cell? ⟨(ad239.add ((x20_4).toNat * 4)).block, (ad239.add ((x20_4).toNat * 4)).off + 2, none⟩ = some (.string ((rd_T36 l3 x20_4).f2)) ∧ w'.cell? ⟨(ad239.add ((x20_4).toNat * 4)).block, (ad239.add ((x20_4).toNat * 4)).off + 3, none⟩ = some (.int .i64 ((rd_T36 l3 x20_4).f3)) ∧ w'.cell? (ad250.add ((x18_3).toNat * 4)) = some (.int .i64 ((rd_T36 l4 x18_3).f0)) ∧ w'.cell? ⟨(ad250.add ((x18_3).toNat * 4)).block, (ad250.add ((x18_3).toNat * 4)).off + 1, none⟩ = some (.int .i64 ((rd_T36 l4 x18_3).f1)) ∧ w'.cell? ⟨(ad250.add ((x18_3).toNat * 4)).block, (ad250.add ((x18_3).toNat * 4)).off + 2, none⟩ = some (.string ((rd_T36 l4 x18_3).f2)) ∧ w'.cell? ⟨(ad250.add ((x18_3).toNat * 4)).block, (ad250.add ((x18_3).toNat * 4)).off + 3, none⟩ = some (.int .i64 ((rd_T36 l4 x18_3).f3))) (ds := []) #[false, false, false, false, false, false, false, false, false, false, false, false, false] (by kernel_rfl) rfl rfl ⟨((HB.out.cell (World.block_lt_of_cell? w _ hw249_0)).trans hw249_0), ((HB.out.cell (World.block_lt_of_cell? w _ hw249_1)).trans hw249_1), ((HB.out.cell (World.block_lt_of_cell? w _ hw249_2)).trans hw249_2), ((HB.out.cell (World.block_lt_of_cell? w _ hw249_3)).trans hw249_3), ((HB.out.cell (World.block_lt_of_cell? w _ hw250_0)).trans hw250_0), ((HB.out.cell (World.block_lt_of_cell? w _ hw250_1)).trans hw250_1), ((HB.out.cell (World.block_lt_of_cell? w _ hw250_2)).trans hw250_2), ((HB.out.cell (World.block_lt_of_cell? w _ hw250_3)).trans hw250_3)⟩ (fun hHeld => ?_); refine with_tabW supercargolaw35_NoticeTold.tab16 supercargolaw35_NoticeTold.bits16 (fun HT_ HW_ => ?_)
                                          generalize wr.drew = w59 at HO_16 HO_17 BK228 HB hx249_0 hx249_1 hx249_2 hx249_3 hx250_0 hx250_1 hx250_2 hx250_3 hHeld ⊢
                                          refine pure_ (i := 0) (N := some 90) (v := ?_) (a' := ?_) #[true, false, false, false, false, false, false, false, false, false, false, false, false] rfl rfl (any_of HT_.out (by kernel_rfl)) (fun _ _ _ h => h) (Or.inl ⟨by rfl, ?_⟩) ?_ ?_
                                          rotate_left
                                          · intro w'
                                            go_simp
                                            with_reducible rfl
                                          rotate_left
                                          · simp only [Act.put, List.setIfInBounds_toArray, List.set_cons_zero, List.set_cons_succ, i64_w, i32_w]
                                            rfl
                                          refine pure_ (i := 1) (N := some 91) (v := ?_) (a' := ?_) #[true, true, false, false, false, false, false, false, false, false, false, false, false] rfl rfl (any_of HT_.out (by kernel_rfl)) (fun _ _ _ h => h) (Or.inl ⟨by rfl, ?_⟩) ?_ ?_
                                          rotate_left
                                          · intro w'
                                            go_simp
                                            with_reducible rfl
                                          rotate_left
                                          · simp only [Act.put, List.setIfInBounds_toArray, List.set_cons_zero, List.set_cons_succ, i64_w, i32_w]
                                            rfl
                                          refine pure_ (i := 2) (N := some 92) (v := ?_) (a' := ?_) #[true, true, true, false, false, false, false, false, false, false, false, false, false] rfl rfl (any_of HT_.out (by kernel_rfl)) (fun _ _ _ h => h) (Or.inl ⟨by rfl, ?_⟩) ?_ ?_
                                          rotate_left
                                          · intro w'
                                            go_simp
                                            with_reducible rfl
                                          rotate_left
                                          · simp only [Act.put, List.setIfInBounds_toArray, List.set_cons_zero, List.set_cons_succ, i64_w, i32_w]
                                            rfl
                                          refine pure_ (i := 3) (N := some 93) (v := ?_) (a' := ?_) #[true, true, true, true, false, false, false, false, false, false, false, false, false] rfl rfl (any_of HT_.out (by kernel_rfl)) (fun _ _ _ h => h) (Or.inl ⟨by rfl, ?_⟩) ?_ ?_
                                          rotate_left
                                          · intro w'
                                            go_simp
                                            with_reducible rfl
                                          rotate_left
                                          · simp only [Act.put, List.setIfInBounds_toArray, List.set_cons_zero, List.set_cons_succ, i64_w, i32_w]
                                            rfl
                                          refine pure_ (i := 4) (N := some 94) (v := ?_) (a' := ?_) #[true, true, true, true, true, false, false, false, false, false, false, false, false] rfl rfl (any_of HT_.out (by kernel_rfl)) (fun _ _ _ h => h) (Or.inl ⟨by rfl, ?_⟩) ?_ ?_
                                          rotate_left
                                          · intro w'
                                            go_simp
                                            with_reducible rfl
                                          rotate_left
                                          · simp only [Act.put, List.setIfInBounds_toArray, List.set_cons_zero, List.set_cons_succ, i64_w, i32_w]
                                            rfl
                                          refine pure_ (i := 6) (N := some 96) (v := ?_) (a' := ?_) #[true, true, true, true, true, false, true, false, false, false, false, false, false] rfl rfl (any_of HT_.out (by kernel_rfl)) (fun _ _ _ h => h) (Or.inl ⟨by rfl, ?_⟩) ?_ ?_
                                          rotate_left
                                          · intro w'
                                            go_simp
                                            with_reducible rfl
                                          rotate_left
                                          · simp only [Act.put, List.setIfInBounds_toArray, List.set_cons_zero, List.set_cons_succ, i64_w, i32_w]
                                            rfl
                                          refine pure_ (i := 7) (N := some 97) (v := ?_) (a' := ?_) #[true, true, true, true, true, false, true, true, false, false, false, false, false] rfl rfl (any_of HT_.out (by kernel_rfl)) (fun _ _ _ h => h) (Or.inl ⟨by rfl, ?_⟩) ?_ ?_
                                          rotate_left
                                          · intro w'
                                            go_simp
                                            with_reducible rfl
                                          rotate_left
                                          · simp only [Act.put, List.setIfInBounds_toArray, List.set_cons_zero, List.set_cons_succ, i64_w, i32_w]
                                            rfl
                                          refine pure_ (i := 8) (N := some 98) (v := ?_) (a' := ?_) #[true, true, true, true, true, false, true, true, true, false, false, false, false] rfl rfl (any_of HT_.out (by kernel_rfl)) (fun _ _ _ h => h) (Or.inl ⟨by rfl, ?_⟩) ?_ ?_
                                          rotate_left
                                          · intro w'
                                            go_simp
                                            with_reducible rfl
                                          rotate_left
                                          · simp only [Act.put, List.setIfInBounds_toArray, List.set_cons_zero, List.set_cons_succ, i64_w, i32_w]
                                            rfl
                                          refine take_ (i := 5) (N := some 95) (v := ?_) (a' := ?_) #[true, true, true, true, true, true, true, true, true, false, false, false, false] rfl rfl (take_ofW HT_.out HW_.out (by kernel_rfl)) (fun _ _ _ h => h) (Or.inl ⟨by rfl, ?_⟩) hHeld ?_ ?_
                                          rotate_left
                                          · rintro w' ⟨s0, s1, s2, s3, s4, s5, s6, s7⟩
                                            go_simp
                                            with_reducible rfl
                                          rotate_left
                                          · simp only [Act.put, List.setIfInBounds_toArray, List.set_cons_zero, List.set_cons_succ, i64_w, i32_w]
                                            rfl
                                          refine take_ (i := 9) (N := some 99) (v := ?_) (a' := ?_) #[true, true, true, true, true, true, true, true, true, true, false, false, false] rfl rfl (take_ofW HT_.out HW_.out (by kernel_rfl)) (fun _ _ _ h => h) (Or.inl ⟨by rfl, ?_⟩) hHeld ?_ ?_
                                          rotate_left
                                          · rintro w' ⟨s0, s1, s2, s3, s4, s5, s6, s7⟩
                                            go_simp
                                            with_reducible rfl
                                          rotate_left
                                          · simp only [Act.put, List.setIfInBounds_toArray, List.set_cons_zero, List.set_cons_succ, i64_w, i32_w]
                                            rfl
                                          refine pure_ (i := 10) (N := some 100) (v := ?_) (a' := ?_) #[true, true, true, true, true, true, true, true, true, true, true, false, false] rfl rfl (any_of HT_.out (by kernel_rfl)) (fun _ _ _ h => h) (Or.inl ⟨by rfl, ?_⟩) ?_ ?_
                                          rotate_left
                                          · intro w'
                                            go_simp
                                            with_reducible rfl
                                          rotate_left
                                          · simp only [Act.put, List.setIfInBounds_toArray, List.set_cons_zero, List.set_cons_succ, i64_w, i32_w]
                                            rfl
                                          refine pure_ (i := 11) (N := some 101) (v := ?_) (a' := ?_) #[true, true, true, true, true, true, true, true, true, true, true, true, false] rfl rfl (any_of HT_.out (by kernel_rfl)) (fun _ _ _ h => h) (Or.inl ⟨by rfl, ?_⟩) ?_ ?_
                                          rotate_left
                                          · intro w'
                                            go_simp
                                            with_reducible rfl
                                          rotate_left
                                          · simp only [Act.put, List.setIfInBounds_toArray, List.set_cons_zero, List.set_cons_succ, i64_w, i32_w]
                                            rfl
                                          refine pure_ (i := 12) (N := some 19) (v := ?_) (a' := ?_) #[true, true, true, true, true, true, true, true, true, true, true, true, true] rfl rfl (any_of HT_.out (by kernel_rfl)) (fun _ _ _ h => h) (Or.inl ⟨by rfl, ?_⟩) ?_ ?_
                                          rotate_left
                                          · intro w'
                                            go_simp
                                            with_reducible rfl
                                          rotate_left
                                          · simp only [Act.put, List.setIfInBounds_toArray, List.set_cons_zero, List.set_cons_succ, i64_w, i32_w]
                                            rfl
                                          refine done_ (done_of HT_.out (by kernel_rfl)) ?_
                                          try go_wp2
                                          go_roundg k4
                                          case measure => have := HJ9.out; have := HJ36.out; have := HK3.out; have := HK4.out; omega
                                          case rel => exact ⟨((((rd_T36 l3 x20_4).f0) == ((rd_T36 l4 x18_3).f0) && (((rd_T36 l3 x20_4).f1) == ((rd_T36 l4 x18_3).f1) && ((((rd_T36 l3 x20_4).f2).toList) == (((rd_T36 l4 x18_3).f2).toList) && (((rd_T36 l3 x20_4).f3) == ((rd_T36 l4 x18_3).f3)))))), (wrap64 (x20_4 + 1)), (by first | rfl | (simp; done) | (simp [*]; done)), (by first | rfl | (simp; done) | (simp [*]; done)), H', ⟨by have := HJ9.out; have := HJ36.out; have := HK3.out; have := HK4.out; omega⟩, ⟨by (with_reducible repeat (first | apply Kd.R_alloc | apply Kd.R_drewN | apply Kd.R_drew)); exact HO_16.out⟩, ⟨by (with_reducible repeat (first | apply Kd.R_alloc | apply Kd.R_drewN | apply Kd.R_drew)); exact HO_17.out⟩, ⟨by (with_reducible repeat (first | refine blk_drewN ?_ _ | refine blk_drew ?_ | refine blk_alloc ?_ _)); exact BK228.out⟩, ⟨by repeat (first | (with_reducible first | exact HB.out | apply below_alloc | apply pw_below_drewN | apply below_drew1 | refine below_set ?_ GE228.out) | exact HB.out)⟩⟩
                                        · rw [if_neg c58] at H
                                          exact absurd H (by simp)
                                      · rw [if_neg c57] at H
                                        exact absurd H (by simp)
                                    · rw [if_neg c56] at H
                                      exact absurd H (by simp)
                                · rw [if_neg c53] at H
                                  have c53b0 : decide (x20_4 < (l3.length : Int)) = false := decide_eq_false c53
                                  clear c53
                                  by_cases c60 : x19_4 = true
                                  · subst c60
                                    have H1 : (supercargolaw35_NoticeTold.l0 k4 a1 a2 l3 l4 x15_36 y243 x17_3 (wrap64 (x18_3 + 1)) l0_0 l0_1) = some r := by rw [if_pos rfl] at H; exact H
                                    clear H
                                    have H := H1
                                    clear H1
                                    have H' := Aside0.mk H
                                    clear H
                                    go_wp2
                                    go_roundg k4
                                    case measure => have := HJ9.out; have := HJ36.out; have := HK3.out; have := HK4.out; omega
                                    case rel => exact ⟨(x17_3), (wrap64 (x18_3 + 1)), (by first | rfl | (simp; done) | (simp [*]; done)), H', ⟨by have := HJ9.out; have := HJ36.out; have := HK3.out; have := HK4.out; omega⟩, ⟨by (with_reducible repeat (first | apply Kd.R_alloc | apply Kd.R_drewN | apply Kd.R_drew)); exact HO_16.out⟩, ⟨by (with_reducible repeat (first | apply Kd.R_alloc | apply Kd.R_drewN | apply Kd.R_drew)); exact HO_17.out⟩, ⟨by (with_reducible repeat (first | refine blk_drewN ?_ _ | refine blk_drew ?_ | refine blk_alloc ?_ _)); exact BK228.out⟩, ⟨by repeat (first | (with_reducible first | exact HB.out | apply below_alloc | apply pw_below_drewN | apply below_drew1 | refine below_set ?_ GE228.out) | exact HB.out)⟩⟩
                                  · replace c60 := Bool.eq_false_iff.mpr c60
                                    subst c60
                                    have H1 : (if 0 ≤ x18_3 then (if x18_3 < (l4.length : Int) then ((some (([(⟨(rd_T36 l4 x18_3).f0, (rd_T36 l4 x18_3).f1, (rd_T36 l4 x18_3).f2, (rd_T36 l4 x18_3).f3⟩ : S36)] : List (S36)) : List (S36))).bind fun y252 => (if x17_3.length + y252.length < 3518437208883 then (supercargolaw35_NoticeTold.l0 k4 a1 a2 l3 l4 x15_36 y243 (x17_3 ++ y252) (wrap64 (x18_3 + 1)) l0_0 l0_1) else (none))) else (none)) else (none)) = some r := by rw [if_neg (show ¬ (false = true) by decide)] at H; exact H
                                    clear H
                                    have H := H1
                                    clear H1
                                    by_cases c61 : 0 ≤ x18_3
                                    · rw [if_pos c61] at H
                                      have c61b0 : decide (0 ≤ x18_3) = true := decide_eq_true c61
                                      clear c61
                                      by_cases c62 : x18_3 < (l4.length : Int)
                                      · rw [if_pos c62] at H
                                        have c62b0 : decide (x18_3 < (l4.length : Int)) = true := decide_eq_true c62
                                        clear c62
                                        obtain ⟨y252, hy252⟩ : ∃ y_ : List (S36), y_ = (([(⟨(rd_T36 l4 x18_3).f0, (rd_T36 l4 x18_3).f1, (rd_T36 l4 x18_3).f2, (rd_T36 l4 x18_3).f3⟩ : S36)] : List (S36))) := ⟨_, rfl⟩
                                        replace H : (if x17_3.length + y252.length < 3518437208883 then (supercargolaw35_NoticeTold.l0 k4 a1 a2 l3 l4 x15_36 y243 (x17_3 ++ y252) (wrap64 (x18_3 + 1)) l0_0 l0_1) else (none)) = some r := by first | (rw [hy252]; with_reducible exact H) | (have H2_ := (Option.bind_some _ _).symm.trans H; rw [hy252]; with_reducible exact H2_) | (have H2_ := (Option.bind_some _ _).symm.trans H; with_reducible exact H2_) | with_reducible exact H | (rw [hy252]; exact H) | exact H
                                        have Ny252 := Aside0.mk hy252
                                        clear hy252
                                        by_cases c63 : x17_3.length + y252.length < 3518437208883
                                        · rw [if_pos c63] at H
                                          have LMc63 := Aside0.mk c63
                                          clear c63
                                          obtain ⟨y255, hy255⟩ : ∃ y_ : List (S36), y_ = (x17_3 ++ y252) := ⟨_, rfl⟩
                                          replace H : (supercargolaw35_NoticeTold.l0 k4 a1 a2 l3 l4 x15_36 y243 y255 (wrap64 (x18_3 + 1)) l0_0 l0_1) = some r := by first | (rw [hy255]; with_reducible exact H) | (have H2_ := (Option.bind_some _ _).symm.trans H; rw [hy255]; with_reducible exact H2_) | (have H2_ := (Option.bind_some _ _).symm.trans H; with_reducible exact H2_) | with_reducible exact H | (rw [hy255]; exact H) | exact H
                                          have Ny255 := Aside0.mk hy255
                                          clear hy255
                                          have H' := Aside0.mk H
                                          clear H
                                          have p251 : 0 ≤ (x18_3 : Int) := of_decide_eq_true (by first | (with_reducible assumption) | assumption)
                                          have q251 : x18_3 < (l4.length : Int) := of_decide_eq_true (by first | (with_reducible assumption) | assumption)
                                          obtain ⟨ad251, e251, hx251_0, hx251_1, hx251_2, hx251_3⟩ := at_T36 HR4.out x18_3 p251 q251
                                          cases e251
                                          replace hx251_0 := (HB.out.cell (World.block_lt_of_cell? w _ hx251_0)).trans hx251_0
                                          replace hx251_1 := (HB.out.cell (World.block_lt_of_cell? w _ hx251_1)).trans hx251_1
                                          replace hx251_2 := (HB.out.cell (World.block_lt_of_cell? w _ hx251_2)).trans hx251_2
                                          replace hx251_3 := (HB.out.cell (World.block_lt_of_cell? w _ hx251_3)).trans hx251_3
                                          replace p251 := eq_true p251
                                          replace q251 := eq_true q251
                                          go_wp2_with (first | ((with_reducible refine gate_dst (N := 109) rfl ?_); (try (refine gate_guard (by rfl) ?_; dsimp only)); refine Kd.R_lit k36 _ 36 ?hg (N := 109) ?hd (xs := ([(⟨(rd_T36 l4 x18_3).f0, (rd_T36 l4 x18_3).f1, (rd_T36 l4 x18_3).f2, (rd_T36 l4 x18_3).f3⟩ : S36)] : List (S36))) (inner := [.int .i64 ((rd_T36 l4 x18_3).f0), .int .i64 ((rd_T36 l4 x18_3).f1), .string ((rd_T36 l4 x18_3).f2), .int .i64 ((rd_T36 l4 x18_3).f3)]) (ok := fun _ => True) (okp := fun _ => True) ?hr ?hp (fun _ hk => hk) trivial (Below.refl _ _) (Nat.le_refl _) (by simp) ?_; (case hd => rfl); (case hg => rfl); (case hr => first | (go_simp; done) | (go_simp; rfl)); (case hp => exact (Reps.c4 (show Kd.M k36 _ _ _ (⟨(rd_T36 l4 x18_3).f0, (rd_T36 l4 x18_3).f1, (rd_T36 l4 x18_3).f2, (rd_T36 l4 x18_3).f3⟩ : S36) [.int .i64 ((rd_T36 l4 x18_3).f0), .int .i64 ((rd_T36 l4 x18_3).f1), .string ((rd_T36 l4 x18_3).f2), .int .i64 ((rd_T36 l4 x18_3).f3)] from (k36_mkM _ _ _ (⟨(rd_T36 l4 x18_3).f0, (rd_T36 l4 x18_3).f1, (rd_T36 l4 x18_3).f2, (rd_T36 l4 x18_3).f3⟩ : S36) )) (Reps.none _ _))); intro v253 w64 ho65 hb hg_ hnew_; clear hg_ hnew_; (first | rw [← Ny252.out] at ho65 | (simp only [Int.reduceToNat] at ho65; rw [← Ny252.out] at ho65)); have n0_ := Aside0.mk (Kd.R_elder' (by (with_reducible repeat (first | apply Kd.R_alloc | apply Kd.R_drewN | apply Kd.R_drew)); exact HO_16.out) (Kd.R_base ho65) hb); have n1_ := Aside0.mk (Kd.R_elder' (by (with_reducible repeat (first | apply Kd.R_alloc | apply Kd.R_drewN | apply Kd.R_drew)); exact HO_17.out) (Kd.R_base ho65) hb); have n2_ := Aside0.mk (Kd.R_lower (Kd.R_new' (Kd.R_new' ho65 (Kd.R_lt (by (with_reducible repeat (first | apply Kd.R_alloc | apply Kd.R_drewN | apply Kd.R_drew)); exact HO_16.out))) (Kd.R_lt (by (with_reducible repeat (first | apply Kd.R_alloc | apply Kd.R_drewN | apply Kd.R_drew)); exact HO_17.out))) (below_size (by repeat (first | (with_reducible first | exact HB.out | apply below_alloc | apply pw_below_drewN | apply below_drew1 | refine below_set ?_ GE228.out) | exact HB.out)))); have n3_ := Aside0.mk (blk_below (g := gb228) (o := .cells #[.slice A0_0 l0_0.length c0_0, .slice A0_1 l0_1.length c0_1] 24 (0, 0)) (by (with_reducible repeat (first | refine blk_drewN ?_ _ | refine blk_drew ?_ | refine blk_alloc ?_ _)); exact BK228.out) hb); have n4_ := Aside0.mk (below_step (by repeat (first | (with_reducible first | exact HB.out | apply below_alloc | apply pw_below_drewN | apply below_drew1 | refine below_set ?_ GE228.out) | exact HB.out)) hb); clear HO_16; clear HO_17; clear BK228; clear HB; have HO_16 := n0_; have HO_17 := n1_; have HO254 := n2_; have BK228 := n3_; have HB := n4_; clear n0_ n1_ n2_ n3_ n4_; clear hb ho65; obtain ⟨Ao67, co67, eo67⟩ := Kd.R_slice HO254.out; subst eo67) | ((with_reducible refine gate_builtin (b := .append) (xs := #[.tmp 104, .tmp 109]) rfl ?_); (try (refine gate_guard (by rfl) ?_; dsimp only)); at_builtin; refine Kd.R_append_rows k36 (w0 := w) w.heap.size rfl (.tmp 104) (.tmp 109) 32 36 (.agg #[(.int .i64 0), (.int .i64 0), (.string ⟨#[]⟩), (.int .i64 0)]) 40 rfl Try.underlying32 info36 rfl (by decide) (by omega) u17 x17_3 y252 _ _ _ (fun k_ => some k_ ≠ (v244 : Value).ownBlock ∧ some k_ ≠ (.slice Ao67 y252.length co67 : Value).ownBlock) (fun _ => False) rfl rfl ?aO ?aR (fun _ _ h => h) (fun _ h => h.elim) ?aF ?aB ?aS ?aL ?_; (case aR => repeat (first | exact (Kd.R_reads' HO254.out).2.2 | (with_reducible refine Kd.C_alloc ?_ _) | (with_reducible refine Kd.C_drewN ?_ _) | (with_reducible refine Kd.C_drew ?_))); (case aB => exact (by repeat (first | (with_reducible first | exact HB.out | apply below_alloc | apply pw_below_drewN | apply below_drew1 | refine below_set ?_ GE228.out) | exact HB.out))); (case aF => exact (fun k_ hk => ⟨Kd.fresh' (Kd.R_lt (by (with_reducible repeat (first | apply Kd.R_alloc | apply Kd.R_drewN | apply Kd.R_drew)); exact HO_16.out)) k_ hk, Kd.fresh' (Kd.R_lt (by (with_reducible repeat (first | apply Kd.R_alloc | apply Kd.R_drewN | apply Kd.R_drew)); exact HO254.out)) k_ hk⟩)); (case aO => exact (by (with_reducible repeat (first | apply Kd.R_alloc | apply Kd.R_drewN | apply Kd.R_drew)); exact HO_17.out)); (case aS => exact (below_size (by repeat (first | (with_reducible first | exact HB.out | apply below_alloc | apply pw_below_drewN | apply below_drew1 | refine below_set ?_ GE228.out) | exact HB.out)))); (case aL => have := LMc63.out; omega); intro v256 w66 ho hb hg hat; rw [← Ny255.out] at ho; have n0_ := Aside0.mk (Kd.R_after (ok := (fun k_ => some k_ ≠ (.slice Ao67 y252.length co67 : Value).ownBlock)) (by (with_reducible repeat (first | apply Kd.R_alloc | apply Kd.R_drewN | apply Kd.R_drew)); exact Kd.R_mono HO_16.out (fun _ hk => ⟨hk.2, hk.1⟩)) hg hat); have n1_ := Aside0.mk (blk_grown (g := gb228) (o := .cells #[.slice A0_0 l0_0.length c0_0, .slice A0_1 l0_1.length c0_1] 24 (0, 0)) (by (with_reducible repeat (first | refine blk_drewN ?_ _ | refine blk_drew ?_ | refine blk_alloc ?_ _)); exact BK228.out) hg (Kd.R_ne HO_17.out BK228.out (by decide))); have n2_ := Aside0.mk (Kd.R_after (ok := (fun k_ => some k_ ≠ (v244 : Value).ownBlock)) (by (with_reducible repeat (first | apply Kd.R_alloc | apply Kd.R_drewN | apply Kd.R_drew)); exact Kd.R_mono HO254.out (fun _ hk => ⟨hk.1.2, hk.2⟩)) hg hat); have n3_ := Aside0.mk (hb); have n4_ := Aside0.mk (ho); clear HO_16; clear BK228; clear HO254; clear HB; clear HO_17; have HO_16 := n0_; have BK228 := n1_; have HO254 := n2_; have HB := n3_; have HO257 := n4_; clear n0_ n1_ n2_ n3_ n4_; clear ho hb hg hat))
                                          go_roundg k4
                                          case measure => have := HJ9.out; have := HJ36.out; have := HK3.out; have := HK4.out; omega
                                          case rel => exact ⟨(y255), (wrap64 (x18_3 + 1)), (by first | rfl | (simp; done) | (simp [*]; done)), H', ⟨by have := HJ9.out; have := HJ36.out; have := HK3.out; have := HK4.out; omega⟩, ⟨by (with_reducible repeat (first | apply Kd.R_alloc | apply Kd.R_drewN | apply Kd.R_drew)); exact Kd.R_mono HO_16.out (fun _ hk => hk.2)⟩, ⟨by (with_reducible repeat (first | apply Kd.R_alloc | apply Kd.R_drewN | apply Kd.R_drew)); exact Kd.R_mono HO257.out (fun _ hk => hk.1)⟩, ⟨by (with_reducible repeat (first | refine blk_drewN ?_ _ | refine blk_drew ?_ | refine blk_alloc ?_ _)); exact BK228.out⟩, ⟨by repeat (first | (with_reducible first | exact HB.out | apply below_alloc | apply pw_below_drewN | apply below_drew1 | refine below_set ?_ GE228.out) | exact HB.out)⟩⟩
                                        · rw [if_neg c63] at H
                                          exact absurd H (by simp)
                                      · rw [if_neg c62] at H
                                        exact absurd H (by simp)
                                    · rw [if_neg c61] at H
                                      exact absurd H (by simp)
                          · rw [if_neg c52] at H
                            have c52b0 : decide (x18_3 < (l4.length : Int)) = false := decide_eq_false c52
                            clear c52
                            replace H := Option.bind_eq_some_iff.mp H
                            obtain ⟨t246, A680, H⟩ := H
                            replace H : (if ((t246 == 1) == x15_36) = true then ((notice_Answer.f k3 l0_0 l0_1 a1 a2 l3 x17_3).bind fun t247 => (if t247 = 2 then ((notice_Answer.f k3 l0_0 l0_1 a1 a2 ([] : List (S36)) y243).bind fun t248 => (some (t248 == 0))) else (some false))) else (some false)) = some r := H
                            have A68 := Aside0.mk A680
                            clear A680
                            by_cases c69 : ((t246 == 1) == x15_36) = true
                            · rw [if_pos c69] at H
                              have c69b0 : ((t246 == 1) == x15_36) = true := c69
                              (try (have c69b1 : decide ((t246 == 1) = x15_36) = true := by simpa using c69))
                              (try (have c69b2 : ((t246 == 1) == x15_36) = true := by simpa using c69))
                              clear c69
                              replace H := Option.bind_eq_some_iff.mp H
                              obtain ⟨t247, A700, H⟩ := H
                              replace H : (if t247 = 2 then ((notice_Answer.f k3 l0_0 l0_1 a1 a2 ([] : List (S36)) y243).bind fun t248 => (some (t248 == 0))) else (some false)) = some r := H
                              have A70 := Aside0.mk A700
                              clear A700
                              by_cases c71 : t247 = 2
                              · rw [if_pos c71] at H
                                have c71b0 : (t247 == 2) = true := beq_iff_eq.mpr c71
                                have c71b1 : (t247 != 2) = false := bne_eq_false_iff_eq.mpr c71
                                clear c71
                                replace H := Option.bind_eq_some_iff.mp H
                                obtain ⟨t248, A720, H⟩ := H
                                replace H : (some (t248 == 0)) = some r := H
                                have A72 := Aside0.mk A720
                                clear A720
                                clear hT; obtain rfl := Option.some.inj H
                                have hcz73_0 : wr.cell? ⟨gb228, 0, none⟩ = some (.slice A0_0 l0_0.length c0_0) := (blk_cell BK228.out 0).trans rfl
                                have hcz73_1 : wr.cell? ⟨gb228, 1, none⟩ = some (.slice A0_1 l0_1.length c0_1) := (blk_cell BK228.out 1).trans rfl
                                have hfz73_0 := blk_frozen BK228.out 0
                                have hfz73_1 := blk_frozen BK228.out 1
                                obtain ⟨Ao74, co74, eo74⟩ := Kd.R_slice HO_16.out
                                subst eo74
                                go_wp2_with (first | ((with_reducible refine gate_callee (f := 19) rfl ?_); refine goesL_ (some 116) rfl rfl Try.func19 (by kernel_rfl) rfl #[.agg #[.slice A0_0 l0_0.length c0_0, .slice A0_1 l0_1.length c0_1], .int .i64 a1, .int .i64 a2, .slice (some ad239) l3.length c3, .slice Ao74 y243.length co74] rfl (by (try simp only [List.map_toArray, List.map_cons, List.map_nil]); first | done | rfl | (simp only [List.length_drop, List.length_take]; rfl)) ?_; (with_reducible refine (notice_Answer.calls k3 _ _ l0_0 _ _ l0_1 a1 a2 _ _ l3 _ _ y243 t246 _ ?side1 ?side2 ?side3 ?side4 ?side5 ?side6 ?side7 ?side8 A68.out).mono ?_); (case side1 => repeat (first | exact (Kd.C_below HR0_0.out HB.out) | (with_reducible refine Kd.C_alloc ?_ _) | (with_reducible refine Kd.C_drewN ?_ _) | (with_reducible refine Kd.C_drew ?_))); (case side2 => exact HC0_0.out); (case side3 => repeat (first | exact (Kd.C_below HR0_1.out HB.out) | (with_reducible refine Kd.C_alloc ?_ _) | (with_reducible refine Kd.C_drewN ?_ _) | (with_reducible refine Kd.C_drew ?_))); (case side4 => exact HC0_1.out); (case side5 => repeat (first | exact (Kd.C_below HR3.out HB.out) | (with_reducible refine Kd.C_alloc ?_ _) | (with_reducible refine Kd.C_drewN ?_ _) | (with_reducible refine Kd.C_drew ?_))); (case side6 => exact HC3.out); (case side7 => repeat (first | exact (Kd.R_reads' HO_16.out).2.2 | (with_reducible refine Kd.C_alloc ?_ _) | (with_reducible refine Kd.C_drewN ?_ _) | (with_reducible refine Kd.C_drew ?_))); (case side8 => exact (Kd.R_reads' HO_16.out).2.1); rintro e w75 ⟨rfl, hb⟩; refine ⟨_, rfl, ?_⟩; have n0_ := Aside0.mk (Kd.R_below (by (with_reducible repeat (first | apply Kd.R_alloc | apply Kd.R_drewN | apply Kd.R_drew)); exact HO_16.out) hb); have n1_ := Aside0.mk (Kd.R_below (by (with_reducible repeat (first | apply Kd.R_alloc | apply Kd.R_drewN | apply Kd.R_drew)); exact HO_17.out) hb); have n2_ := Aside0.mk (blk_below (g := gb228) (o := .cells #[.slice A0_0 l0_0.length c0_0, .slice A0_1 l0_1.length c0_1] 24 (0, 0)) (by (with_reducible repeat (first | refine blk_drewN ?_ _ | refine blk_drew ?_ | refine blk_alloc ?_ _)); exact BK228.out) hb); have n3_ := Aside0.mk (below_step (by repeat (first | (with_reducible first | exact HB.out | apply below_alloc | apply pw_below_drewN | apply below_drew1 | refine below_set ?_ GE228.out) | exact HB.out)) hb); clear HO_16; clear HO_17; clear BK228; clear HB; have HO_16 := n0_; have HO_17 := n1_; have BK228 := n2_; have HB := n3_; clear n0_ n1_ n2_ n3_; (try clear hb); (try clear hb2); (try clear hk); (try clear hi); have hcz76_0 : w75.cell? ⟨gb228, 0, none⟩ = some (.slice A0_0 l0_0.length c0_0) := (blk_cell BK228.out 0).trans rfl; have hcz76_1 : w75.cell? ⟨gb228, 1, none⟩ = some (.slice A0_1 l0_1.length c0_1) := (blk_cell BK228.out 1).trans rfl; have hfz76_0 := blk_frozen BK228.out 0; have hfz76_1 := blk_frozen BK228.out 1; obtain ⟨Ao77, co77, eo77⟩ := Kd.R_slice HO_17.out; subst eo77) | (go_at_call 19; (with_reducible refine (notice_Answer.calls k3 _ _ l0_0 _ _ l0_1 a1 a2 _ _ l3 _ _ x17_3 t247 _ ?side1 ?side2 ?side3 ?side4 ?side5 ?side6 ?side7 ?side8 A70.out).mono ?_); (case side1 => repeat (first | exact (Kd.C_below HR0_0.out HB.out) | (with_reducible refine Kd.C_alloc ?_ _) | (with_reducible refine Kd.C_drewN ?_ _) | (with_reducible refine Kd.C_drew ?_))); (case side2 => exact HC0_0.out); (case side3 => repeat (first | exact (Kd.C_below HR0_1.out HB.out) | (with_reducible refine Kd.C_alloc ?_ _) | (with_reducible refine Kd.C_drewN ?_ _) | (with_reducible refine Kd.C_drew ?_))); (case side4 => exact HC0_1.out); (case side5 => repeat (first | exact (Kd.C_below HR3.out HB.out) | (with_reducible refine Kd.C_alloc ?_ _) | (with_reducible refine Kd.C_drewN ?_ _) | (with_reducible refine Kd.C_drew ?_))); (case side6 => exact HC3.out); (case side7 => repeat (first | exact (Kd.R_reads' HO_17.out).2.2 | (with_reducible refine Kd.C_alloc ?_ _) | (with_reducible refine Kd.C_drewN ?_ _) | (with_reducible refine Kd.C_drew ?_))); (case side8 => exact (Kd.R_reads' HO_17.out).2.1); rintro e w78 ⟨rfl, hb⟩; have n0_ := Aside0.mk (Kd.R_below (by (with_reducible repeat (first | apply Kd.R_alloc | apply Kd.R_drewN | apply Kd.R_drew)); exact HO_16.out) hb); have n1_ := Aside0.mk (Kd.R_below (by (with_reducible repeat (first | apply Kd.R_alloc | apply Kd.R_drewN | apply Kd.R_drew)); exact HO_17.out) hb); have n2_ := Aside0.mk (blk_below (g := gb228) (o := .cells #[.slice A0_0 l0_0.length c0_0, .slice A0_1 l0_1.length c0_1] 24 (0, 0)) (by (with_reducible repeat (first | refine blk_drewN ?_ _ | refine blk_drew ?_ | refine blk_alloc ?_ _)); exact BK228.out) hb); have n3_ := Aside0.mk (below_step (by repeat (first | (with_reducible first | exact HB.out | apply below_alloc | apply pw_below_drewN | apply below_drew1 | refine below_set ?_ GE228.out) | exact HB.out)) hb); clear HO_16; clear HO_17; clear BK228; clear HB; have HO_16 := n0_; have HO_17 := n1_; have BK228 := n2_; have HB := n3_; clear n0_ n1_ n2_ n3_; (try clear hb); (try clear hb2); (try clear hk); (try clear hi); have hcz79_0 : w78.cell? ⟨gb228, 0, none⟩ = some (.slice A0_0 l0_0.length c0_0) := (blk_cell BK228.out 0).trans rfl; have hcz79_1 : w78.cell? ⟨gb228, 1, none⟩ = some (.slice A0_1 l0_1.length c0_1) := (blk_cell BK228.out 1).trans rfl; have hfz79_0 := blk_frozen BK228.out 0; have hfz79_1 := blk_frozen BK228.out 1) | (go_at_call 19; (refine (notice_Answer.calls k3 _ _ l0_0 _ _ l0_1 a1 a2 _ _ ([] : List (S36)) _ _ y243 t248 _ ?side1 ?side2 ?side3 ?side4 ?side5 ?side6 ?side7 ?side8 A72.out).mono ?_); (case side1 => repeat (first | exact (Kd.C_below HR0_0.out HB.out) | (with_reducible refine Kd.C_alloc ?_ _) | (with_reducible refine Kd.C_drewN ?_ _) | (with_reducible refine Kd.C_drew ?_))); (case side2 => exact HC0_0.out); (case side3 => repeat (first | exact (Kd.C_below HR0_1.out HB.out) | (with_reducible refine Kd.C_alloc ?_ _) | (with_reducible refine Kd.C_drewN ?_ _) | (with_reducible refine Kd.C_drew ?_))); (case side4 => exact HC0_1.out); (case side5 => exact Kd.C_nil _ _); (case side6 => exact Nat.le_refl _); (case side7 => repeat (first | exact (Kd.R_reads' HO_16.out).2.2 | (with_reducible refine Kd.C_alloc ?_ _) | (with_reducible refine Kd.C_drewN ?_ _) | (with_reducible refine Kd.C_drew ?_))); (case side8 => exact (Kd.R_reads' HO_16.out).2.1); rintro e w80 ⟨rfl, hb⟩; have n0_ := Aside0.mk (Kd.R_below (by (with_reducible repeat (first | apply Kd.R_alloc | apply Kd.R_drewN | apply Kd.R_drew)); exact HO_16.out) hb); have n1_ := Aside0.mk (Kd.R_below (by (with_reducible repeat (first | apply Kd.R_alloc | apply Kd.R_drewN | apply Kd.R_drew)); exact HO_17.out) hb); have n2_ := Aside0.mk (blk_below (g := gb228) (o := .cells #[.slice A0_0 l0_0.length c0_0, .slice A0_1 l0_1.length c0_1] 24 (0, 0)) (by (with_reducible repeat (first | refine blk_drewN ?_ _ | refine blk_drew ?_ | refine blk_alloc ?_ _)); exact BK228.out) hb); have n3_ := Aside0.mk (below_step (by repeat (first | (with_reducible first | exact HB.out | apply below_alloc | apply pw_below_drewN | apply below_drew1 | refine below_set ?_ GE228.out) | exact HB.out)) hb); clear HO_16; clear HO_17; clear BK228; clear HB; have HO_16 := n0_; have HO_17 := n1_; have BK228 := n2_; have HB := n3_; clear n0_ n1_ n2_ n3_; (try clear hb); (try clear hb2); (try clear hk); (try clear hi)))
                                go_ret
                                exact ⟨by first | rfl | (simp [errW_none, errW_some] <;> rfl) | (simp [*, errW_none, errW_some] <;> rfl), by repeat (first | (with_reducible first | exact HB.out | apply below_alloc | apply pw_below_drewN | apply below_drew1 | refine below_set ?_ GE228.out) | exact HB.out)⟩
                              · rw [if_neg c71] at H
                                have c71b0 : (t247 == 2) = false := beq_eq_false_iff_ne.mpr c71
                                have c71b1 : (t247 != 2) = true := bne_iff_ne.mpr c71
                                exact absurd (Option.some.inj H) (by rw [hT.out]; decide)
                            · rw [if_neg c69] at H
                              have c69b0 : ((t246 == 1) == x15_36) = false := by simpa using c69
                              (try (have c69b1 : decide ((t246 == 1) = x15_36) = false := by simpa using c69))
                              (try (have c69b2 : ((t246 == 1) == x15_36) = false := by simpa using c69))
                              (try (have c69b3 : ¬ ((t246 == 1) = x15_36) := by simpa using c69))
                              clear c69
                              exact absurd (Option.some.inj H) (by rw [hT.out]; decide)
                    · rw [if_neg c42] at H
                      exact absurd H (by simp)
                  · rw [if_neg c41] at H
                    exact absurd H (by simp)
                · rw [if_neg c40] at H
                  exact absurd H (by simp)
              · rw [if_neg c39] at H
                exact absurd H (by simp)
  · replace c8 := Bool.eq_false_iff.mpr c8
    subst c8
    have H1 : (some false) = some r := by rw [if_neg (show ¬ (false = true) by decide)] at H; exact H
    clear H
    have H := H1
    clear H1
    exact absurd (Option.some.inj H) (by rw [hT.out]; decide)

end Go.Proofs.Ytjagffhmdafnmaa.X
