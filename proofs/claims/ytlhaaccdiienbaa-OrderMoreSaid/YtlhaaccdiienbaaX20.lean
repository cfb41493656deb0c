-- Written for this claim by a program of this session (wip/tools/xprint.py) out of the translation.
import Derived.Test.YtlhaaccdiienbaaX0
import Derived.Test.YtlhaaccdiienbaaX6
import Derived.Test.YtlhaaccdiienbaaEAwake
import Derived.Test.YtlhaaccdiienbaaEAppend
import Derived.Test.YtlhaaccdiienbaaECut
import Derived.Test.YtlhaaccdiienbaaELeft
import Derived.Test.YtlhaaccdiienbaaEValue
namespace Go.Proofs.Ytlhaaccdiienbaa.X
open Go.RowKit Go.Proofs.YtlhaaccdiienbaaW.PrintWords Go.Proofs.YtlhaaccdiienbaaW.PrintLast Go.Proofs.YtlhaaccdiienbaaW.PrintMore
attribute [local go_sem] max2_int min2_int max_two min_two max_three min_three max_four min_four   -- for this text's walks alone
set_option linter.unusedVariables false
set_option linter.unusedSimpArgs false

mutual
def supercargolaw19_OrderMore.j0 : Nat → List Int → List (List Int) → Int → Int → Bool → ByteArray → ByteArray → ByteArray → ByteArray → ByteArray → ByteArray → Int → List (S65) → Option (Bool)
 | 0, _, _, _, _, _, _, _, _, _, _, _, _, _ => none
 | k + 1, x1, x2, x3, x4, x60, x140000, x140001, x140002, x140003, x140004, x140005, x140006, x140007 => if x60 = true then (some true) else ((order_Cut.f k x140000 x140001 x140002 x140003 x140004 x140005 x140006 x140007 x1 x2).bind fun bt142 => (if bt142.2 = 0 then (if 0 ≤ x3 then (if x3 < (x2.length : Int) then (if ((rd_L5 x2 x3).length : Int) = (x140007.length : Int) then (supercargolaw19_OrderMore.j1 k x1 x2 x3 x4 bt142.1 bt142.2 (decide (x3 ≥ (bt142.1.length : Int))) x140000 x140001 x140002 x140003 x140004 x140005 x140006 x140007) else (supercargolaw19_OrderMore.j1 k x1 x2 x3 x4 bt142.1 bt142.2 true x140000 x140001 x140002 x140003 x140004 x140005 x140006 x140007)) else (none)) else (none)) else (supercargolaw19_OrderMore.j1 k x1 x2 x3 x4 bt142.1 bt142.2 true x140000 x140001 x140002 x140003 x140004 x140005 x140006 x140007)))
def supercargolaw19_OrderMore.j1 : Nat → List Int → List (List Int) → Int → Int → List (S42) → Int → Bool → ByteArray → ByteArray → ByteArray → ByteArray → ByteArray → ByteArray → Int → List (S65) → Option (Bool)
 | 0, _, _, _, _, _, _, _, _, _, _, _, _, _, _, _ => none
 | k + 1, x1, x2, x3, x4, x11, x12, x86, x140000, x140001, x140002, x140003, x140004, x140005, x140006, x140007 => if x86 = true then (some (x12 != 0)) else (supercargolaw19_OrderMore.l0 k x1 x2 x3 x4 x11 ([] : List (List Int)) 0 x140000 x140001 x140002 x140003 x140004 x140005 x140006 x140007)
def supercargolaw19_OrderMore.l0 : Nat → List Int → List (List Int) → Int → Int → List (S42) → List (List Int) → Int → ByteArray → ByteArray → ByteArray → ByteArray → ByteArray → ByteArray → Int → List (S65) → Option (Bool)
 | 0, _, _, _, _, _, _, _, _, _, _, _, _, _, _, _ => none
 | k + 1, x1, x2, x3, x4, x11, x13, x14, x140000, x140001, x140002, x140003, x140004, x140005, x140006, x140007 => if x14 < (x2.length : Int) then ((some (([] : List Int) : List Int)).bind fun y147 => (if 0 ≤ x14 then (if y147.length + (rd_L5 x2 x14).length < 17592186044416 then (if x13.length < 5864062014805 then (supercargolaw19_OrderMore.l0 k x1 x2 x3 x4 x11 (x13 ++ [(y147 ++ (rd_L5 x2 x14))]) (wrap64 (x14 + 1)) x140000 x140001 x140002 x140003 x140004 x140005 x140006 x140007) else (none)) else (none)) else (none))) else (if 0 ≤ x3 then (if x3 < (x13.length : Int) then (if 0 ≤ x4 then (if x4 < ((rd_L5 x13 x3).length : Int) then ((order_Cut.f k x140000 x140001 x140002 x140003 x140004 x140005 x140006 x140007 x1 (x13.set (x3 : Int).toNat ((rd_L5 x13 x3).set (x4 : Int).toNat (wrap64 ((rd (rd_L5 x13 x3) x4) + 1))))).bind fun bt163 => (if x4 < (x140007.length : Int) then ((some (([(⟨(rd_T65 x140007 x4).f0, 1⟩ : S67)] : List (S67)) : List (S67))).bind fun y168 => ((consAdd.f x11 x140000 0 0 y168).bind fun t175 => ((order_Left.f k x140000 x140001 x140002 x140003 x140004 x140005 x140006 x140007 t175).bind fun bt178 => (if x140000.size + 1 ≤ 9223372036854775807 then ((consAdd.f ([] : List (S42)) (x140000 ++ (⟨#[120]⟩ : ByteArray)) 0 0 y168).bind fun t183 => ((order_Left.f k x140000 x140001 x140002 x140003 x140004 x140005 x140006 x140007 t183).bind fun bt186 => ((order_Value.f k x140000 x140001 x140002 x140003 x140004 x140005 x140006 x140007 (x140000 ++ (⟨#[120]⟩ : ByteArray)) 0 0 y168).bind fun bt190 => (if bt163.2 = 3 then (if bt178.2 = 3 then (if bt186.2 = 1 then (some (bt190.2 == 1)) else (some false)) else (some false)) else (some false))))) else (none))))) else (none))) else (none)) else (none)) else (none)) else (none))
end
def supercargolaw19_OrderMore.f (k : Nat) (a0_0 : ByteArray) (a0_1 : ByteArray) (a0_2 : ByteArray) (a0_3 : ByteArray) (a0_4 : ByteArray) (a0_5 : ByteArray) (a0_6 : Int) (l0_7 : List (S65)) (l1 : List Int) (l2 : List (List Int)) (a3 : Int) (a4 : Int) : Option (Bool) := (supercargolaw19_awake.f k).bind fun t140 => (if t140 = true then ((sr19_Few.f k a0_0 a0_1 a0_2 a0_3 a0_4 a0_5 a0_6 l0_7 ([] : List (S42))).bind fun t141 => (if t141 = true then (if (l1.length : Int) > 70 then (supercargolaw19_OrderMore.j0 k l1 l2 a3 a4 true a0_0 a0_1 a0_2 a0_3 a0_4 a0_5 a0_6 l0_7) else (if (l2.length : Int) > 70 then (supercargolaw19_OrderMore.j0 k l1 l2 a3 a4 true a0_0 a0_1 a0_2 a0_3 a0_4 a0_5 a0_6 l0_7) else (if a3 < 0 then (supercargolaw19_OrderMore.j0 k l1 l2 a3 a4 true a0_0 a0_1 a0_2 a0_3 a0_4 a0_5 a0_6 l0_7) else (if a3 ≥ (l2.length : Int) then (supercargolaw19_OrderMore.j0 k l1 l2 a3 a4 true a0_0 a0_1 a0_2 a0_3 a0_4 a0_5 a0_6 l0_7) else (if a4 < 0 then (supercargolaw19_OrderMore.j0 k l1 l2 a3 a4 true a0_0 a0_1 a0_2 a0_3 a0_4 a0_5 a0_6 l0_7) else (supercargolaw19_OrderMore.j0 k l1 l2 a3 a4 (decide (a4 ≥ (l0_7.length : Int))) a0_0 a0_1 a0_2 a0_3 a0_4 a0_5 a0_6 l0_7)))))) else (supercargolaw19_OrderMore.j0 k l1 l2 a3 a4 true a0_0 a0_1 a0_2 a0_3 a0_4 a0_5 a0_6 l0_7))) else (some false))
theorem supercargolaw19_OrderMore.mono_l : ∀ k, (∀ y0 y1 y2 y3 y4 y5 y6 y7 y8 y9 y10 y11 y12, LeO (supercargolaw19_OrderMore.j0 k y0 y1 y2 y3 y4 y5 y6 y7 y8 y9 y10 y11 y12) (supercargolaw19_OrderMore.j0 (k + 1) y0 y1 y2 y3 y4 y5 y6 y7 y8 y9 y10 y11 y12)) ∧ (∀ y0 y1 y2 y3 y4 y5 y6 y7 y8 y9 y10 y11 y12 y13 y14, LeO (supercargolaw19_OrderMore.j1 k y0 y1 y2 y3 y4 y5 y6 y7 y8 y9 y10 y11 y12 y13 y14) (supercargolaw19_OrderMore.j1 (k + 1) y0 y1 y2 y3 y4 y5 y6 y7 y8 y9 y10 y11 y12 y13 y14)) ∧ (∀ y0 y1 y2 y3 y4 y5 y6 y7 y8 y9 y10 y11 y12 y13 y14, LeO (supercargolaw19_OrderMore.l0 k y0 y1 y2 y3 y4 y5 y6 y7 y8 y9 y10 y11 y12 y13 y14) (supercargolaw19_OrderMore.l0 (k + 1) y0 y1 y2 y3 y4 y5 y6 y7 y8 y9 y10 y11 y12 y13 y14))
 | 0 => ⟨fun _ _ _ _ _ _ _ _ _ _ _ _ _ r h => by simp [supercargolaw19_OrderMore.j0] at h, fun _ _ _ _ _ _ _ _ _ _ _ _ _ _ _ r h => by simp [supercargolaw19_OrderMore.j1] at h, fun _ _ _ _ _ _ _ _ _ _ _ _ _ _ _ r h => by simp [supercargolaw19_OrderMore.l0] at h⟩
 | k + 1 => by
  obtain ⟨ih0, ih1, ih2⟩ := supercargolaw19_OrderMore.mono_l k
  refine ⟨?_, ?_, ?_⟩
  ·intro y0 y1 y2 y3 y4 y5 y6 y7 y8 y9 y10 y11 y12
   unfold supercargolaw19_OrderMore.j0
   repeat' first
   | (with_reducible exact ih0 _ _ _ _ _ _ _ _ _ _ _ _ _)
   | (with_reducible exact ih1 _ _ _ _ _ _ _ _ _ _ _ _ _ _ _)
   | (with_reducible exact ih2 _ _ _ _ _ _ _ _ _ _ _ _ _ _ _)
   | (with_reducible exact order_Cut.mono _ _ _ _ _ _ _ _ _ _ _)
   | (with_reducible exact order_Left.mono _ _ _ _ _ _ _ _ _ _)
   | (with_reducible exact order_Value.mono _ _ _ _ _ _ _ _ _ _ _ _ _)
   | (with_reducible exact supercargolaw19_awake.mono _)
   | (with_reducible exact sr19_Few.mono _ _ _ _ _ _ _ _ _ _)
   | (with_reducible exact LeO.refl _)
   | (with_reducible exact LeO.none _)
   | (with_reducible refine LeO.ite ?_ ?_)
   | (with_reducible refine LeO.bind ?_ (fun _ => ?_))
   | exact ih0 _ _ _ _ _ _ _ _ _ _ _ _ _
   | exact ih1 _ _ _ _ _ _ _ _ _ _ _ _ _ _ _
   | exact ih2 _ _ _ _ _ _ _ _ _ _ _ _ _ _ _
   | exact order_Cut.mono _ _ _ _ _ _ _ _ _ _ _
   | exact order_Left.mono _ _ _ _ _ _ _ _ _ _
   | exact order_Value.mono _ _ _ _ _ _ _ _ _ _ _ _ _
   | exact supercargolaw19_awake.mono _
   | exact sr19_Few.mono _ _ _ _ _ _ _ _ _ _
   | exact LeO.none _
   | refine LeO.ite ?_ ?_
   | refine LeO.bind ?_ (fun _ => ?_)
  ·intro y0 y1 y2 y3 y4 y5 y6 y7 y8 y9 y10 y11 y12 y13 y14
   unfold supercargolaw19_OrderMore.j1
   repeat' first
   | (with_reducible exact ih0 _ _ _ _ _ _ _ _ _ _ _ _ _)
   | (with_reducible exact ih1 _ _ _ _ _ _ _ _ _ _ _ _ _ _ _)
   | (with_reducible exact ih2 _ _ _ _ _ _ _ _ _ _ _ _ _ _ _)
   | (with_reducible exact order_Cut.mono _ _ _ _ _ _ _ _ _ _ _)
   | (with_reducible exact order_Left.mono _ _ _ _ _ _ _ _ _ _)
   | (with_reducible exact order_Value.mono _ _ _ _ _ _ _ _ _ _ _ _ _)
   | (with_reducible exact supercargolaw19_awake.mono _)
   | (with_reducible exact sr19_Few.mono _ _ _ _ _ _ _ _ _ _)
   | (with_reducible exact LeO.refl _)
   | (with_reducible exact LeO.none _)
   | (with_reducible refine LeO.ite ?_ ?_)
   | (with_reducible refine LeO.bind ?_ (fun _ => ?_))
   | exact ih0 _ _ _ _ _ _ _ _ _ _ _ _ _
   | exact ih1 _ _ _ _ _ _ _ _ _ _ _ _ _ _ _
   | exact ih2 _ _ _ _ _ _ _ _ _ _ _ _ _ _ _
   | exact order_Cut.mono _ _ _ _ _ _ _ _ _ _ _
   | exact order_Left.mono _ _ _ _ _ _ _ _ _ _
   | exact order_Value.mono _ _ _ _ _ _ _ _ _ _ _ _ _
   | exact supercargolaw19_awake.mono _
   | exact sr19_Few.mono _ _ _ _ _ _ _ _ _ _
   | exact LeO.none _
   | refine LeO.ite ?_ ?_
   | refine LeO.bind ?_ (fun _ => ?_)
  ·intro y0 y1 y2 y3 y4 y5 y6 y7 y8 y9 y10 y11 y12 y13 y14
   unfold supercargolaw19_OrderMore.l0
   repeat' first
   | (with_reducible exact ih0 _ _ _ _ _ _ _ _ _ _ _ _ _)
   | (with_reducible exact ih1 _ _ _ _ _ _ _ _ _ _ _ _ _ _ _)
   | (with_reducible exact ih2 _ _ _ _ _ _ _ _ _ _ _ _ _ _ _)
   | (with_reducible exact order_Cut.mono _ _ _ _ _ _ _ _ _ _ _)
   | (with_reducible exact order_Left.mono _ _ _ _ _ _ _ _ _ _)
   | (with_reducible exact order_Value.mono _ _ _ _ _ _ _ _ _ _ _ _ _)
   | (with_reducible exact supercargolaw19_awake.mono _)
   | (with_reducible exact sr19_Few.mono _ _ _ _ _ _ _ _ _ _)
   | (with_reducible exact LeO.refl _)
   | (with_reducible exact LeO.none _)
   | (with_reducible refine LeO.ite ?_ ?_)
   | (with_reducible refine LeO.bind ?_ (fun _ => ?_))
   | exact ih0 _ _ _ _ _ _ _ _ _ _ _ _ _
   | exact ih1 _ _ _ _ _ _ _ _ _ _ _ _ _ _ _
   | exact ih2 _ _ _ _ _ _ _ _ _ _ _ _ _ _ _
   | exact order_Cut.mono _ _ _ _ _ _ _ _ _ _ _
   | exact order_Left.mono _ _ _ _ _ _ _ _ _ _
   | exact order_Value.mono _ _ _ _ _ _ _ _ _ _ _ _ _
   | exact supercargolaw19_awake.mono _
   | exact sr19_Few.mono _ _ _ _ _ _ _ _ _ _
   | exact LeO.none _
   | refine LeO.ite ?_ ?_
   | refine LeO.bind ?_ (fun _ => ?_)
theorem supercargolaw19_OrderMore.mono : ∀ a0 a1 a2 a3 a4 a5 a6 a7 a8 a9 a10 a11 k, LeO (supercargolaw19_OrderMore.f k a0 a1 a2 a3 a4 a5 a6 a7 a8 a9 a10 a11) (supercargolaw19_OrderMore.f (k + 1) a0 a1 a2 a3 a4 a5 a6 a7 a8 a9 a10 a11) := by
 intro a0 a1 a2 a3 a4 a5 a6 a7 a8 a9 a10 a11 k
 obtain ⟨ih0, ih1, ih2⟩ := supercargolaw19_OrderMore.mono_l k
 unfold supercargolaw19_OrderMore.f
 repeat' first
   | (with_reducible exact ih0 _ _ _ _ _ _ _ _ _ _ _ _ _)
   | (with_reducible exact ih1 _ _ _ _ _ _ _ _ _ _ _ _ _ _ _)
   | (with_reducible exact ih2 _ _ _ _ _ _ _ _ _ _ _ _ _ _ _)
   | (with_reducible exact order_Cut.mono _ _ _ _ _ _ _ _ _ _ _)
   | (with_reducible exact order_Left.mono _ _ _ _ _ _ _ _ _ _)
   | (with_reducible exact order_Value.mono _ _ _ _ _ _ _ _ _ _ _ _ _)
   | (with_reducible exact supercargolaw19_awake.mono _)
   | (with_reducible exact sr19_Few.mono _ _ _ _ _ _ _ _ _ _)
   | (with_reducible exact LeO.refl _)
   | (with_reducible exact LeO.none _)
   | (with_reducible refine LeO.ite ?_ ?_)
   | (with_reducible refine LeO.bind ?_ (fun _ => ?_))
   | exact ih0 _ _ _ _ _ _ _ _ _ _ _ _ _
   | exact ih1 _ _ _ _ _ _ _ _ _ _ _ _ _ _ _
   | exact ih2 _ _ _ _ _ _ _ _ _ _ _ _ _ _ _
   | exact order_Cut.mono _ _ _ _ _ _ _ _ _ _ _
   | exact order_Left.mono _ _ _ _ _ _ _ _ _ _
   | exact order_Value.mono _ _ _ _ _ _ _ _ _ _ _ _ _
   | exact supercargolaw19_awake.mono _
   | exact sr19_Few.mono _ _ _ _ _ _ _ _ _ _
   | exact LeO.none _
   | refine LeO.ite ?_ ?_
   | refine LeO.bind ?_ (fun _ => ?_)
def supercargolaw19_OrderMore.T6 : Bool × List (List Nat × List Nat) := (true, [([], []), ([0], [0]), ([1], [1]), ([2], [2]), ([2], [2]), ([3, 4, 2], [2, 3, 4]), ([5, 2], [2, 5]), ([6, 2], [2, 6]), ([2], [2]), ([8, 2], [2, 8]), ([9, 2], [2, 9]), ([7, 10, 2], [2, 7, 10]), ([2, 11], [2, 11]), ([12, 2], [12]), ([13], [13]), ([13], [13]), ([15, 13], [13, 15]), ([14, 16, 13], [13, 14, 16]), ([13, 17], [13, 17])])
def supercargolaw19_OrderMore.B6 : List Nat := [0, 1, 3, 7, 7, 31, 63, 127, 7, 263, 775, 2047, 4095, 8191, 16383, 16383, 49151, 131071, 262143]
theorem supercargolaw19_OrderMore.tab6 : rtab .any (opsOf Try.f9 6) = supercargolaw19_OrderMore.T6 := by kernel_rfl
theorem supercargolaw19_OrderMore.bits6 : waitsOk supercargolaw19_OrderMore.T6.2 supercargolaw19_OrderMore.B6 = true := by kernel_rfl
def supercargolaw19_OrderMore.T13 : Bool × List (List Nat × List Nat) := (true, [([], []), ([], []), ([0, 1], [0, 1]), ([2], [2]), ([], []), ([], []), ([], []), ([5, 6], [5, 6]), ([7], [7]), ([], []), ([8, 9], [8, 9]), ([10], [10]), ([11], [11]), ([3, 4, 0, 1, 2, 3, 4, 5, 6, 7, 8, 9, 10, 11, 12], [3, 4]), ([13, 12, 0, 1, 2, 3, 4, 5, 6, 7, 8, 9, 10, 11, 12], [12, 13])])
def supercargolaw19_OrderMore.B13 : List Nat := [0, 0, 3, 7, 0, 0, 0, 96, 224, 0, 992, 2016, 4064, 8191, 16383]
theorem supercargolaw19_OrderMore.tab13 : rtab .any (opsOf Try.f9 13) = supercargolaw19_OrderMore.T13 := by kernel_rfl
theorem supercargolaw19_OrderMore.bits13 : waitsOk supercargolaw19_OrderMore.T13.2 supercargolaw19_OrderMore.B13 = true := by kernel_rfl
def supercargolaw19_OrderMore.T15 : Bool × List (List Nat × List Nat) := (true, [([], []), ([0], [0]), ([], []), ([2], [2]), ([], []), ([3, 4], [3, 4]), ([5], [5]), ([6], [6]), ([7], [7]), ([8], [8]), ([1, 9], [1, 9]), ([], []), ([11, 10, 0, 1, 2, 3, 4, 5, 6, 7, 8, 9, 10, 11], [10, 11])])
def supercargolaw19_OrderMore.B15 : List Nat := [0, 1, 0, 4, 0, 28, 60, 124, 252, 508, 1023, 0, 4095]
theorem supercargolaw19_OrderMore.tab15 : rtab .any (opsOf Try.f9 15) = supercargolaw19_OrderMore.T15 := by kernel_rfl
theorem supercargolaw19_OrderMore.bits15 : waitsOk supercargolaw19_OrderMore.T15.2 supercargolaw19_OrderMore.B15 = true := by kernel_rfl
def supercargolaw19_OrderMore.T16 : Bool × List (List Nat × List Nat) := (true, [([], []), ([], []), ([], []), ([1, 2], [1, 2]), ([], []), ([4], [4]), ([3, 5, 3], [3, 5]), ([0, 6, 6], [0, 6]), ([7], [7]), ([8], [8]), ([8], [8]), ([9, 7, 0, 1, 2, 3, 4, 5, 6, 7, 8, 9], [9]), ([10, 11, 0, 1, 2, 3, 4, 5, 6, 7, 8, 9, 10, 11], [10])])
def supercargolaw19_OrderMore.B16 : List Nat := [0, 0, 0, 6, 0, 16, 62, 127, 255, 511, 511, 1023, 4095]
theorem supercargolaw19_OrderMore.tab16 : rtab .any (opsOf Try.f9 16) = supercargolaw19_OrderMore.T16 := by kernel_rfl
theorem supercargolaw19_OrderMore.bits16 : waitsOk supercargolaw19_OrderMore.T16.2 supercargolaw19_OrderMore.B16 = true := by kernel_rfl
set_option maxHeartbeats 8000000 in
set_option maxRecDepth 100000 in
theorem supercargolaw19_OrderMore.calls (k : Nat) (a0_0 : ByteArray) (a0_1 : ByteArray) (a0_2 : ByteArray) (a0_3 : ByteArray) (a0_4 : ByteArray) (a0_5 : ByteArray) (a0_6 : Int) (A0_7 : Option Addr) (c0_7 : Nat) (l0_7 : List (S65)) (A1 : Option Addr) (c1 : Nat) (l1 : List Int) (A2 : Option Addr) (c2 : Nat) (l2 : List (List Int)) (a3 : Int) (a4 : Int) (r : Bool) (w : World) (hr0_7 : Kd.C k65 w A0_7 l0_7.length l0_7) (hc0_7 : l0_7.length ≤ c0_7) (hr1 : Kd.C (Kd.int .i64) w A1 l1.length l1) (hc1 : l1.length ≤ c1) (hr2 : Kd.C (Kd.slice 3 (Kd.int .i64)) w A2 l2.length l2) (hc2 : l2.length ≤ c2) (h : supercargolaw19_OrderMore.f k a0_0 a0_1 a0_2 a0_3 a0_4 a0_5 a0_6 l0_7 l1 l2 a3 a4 = some r) (hT : Aside0 (r = true)) :
  Calls Try.prog 9 #[.agg #[.string a0_0, .string a0_1, .string a0_2, .string a0_3, .string a0_4, .string a0_5, .int .i64 a0_6, .slice A0_7 l0_7.length c0_7], .slice A1 l1.length c1, .slice A2 l2.length c2, .int .i64 a3, .int .i64 a4] w fun e w' => e = .returned (.bool r) ∧ Below w.heap.size w w' := by
 have hu24 := Try.underlying24
 have hu67 := Try.underlying67
 have hu42 := Try.underlying42
 have HR0_7 := Aside0.mk hr0_7
 have HC0_7 := Aside0.mk hc0_7
 clear hr0_7 hc0_7
 have HR1 := Aside0.mk hr1
 have HC1 := Aside0.mk hc1
 clear hr1 hc1
 have HR2 := Aside0.mk hr2
 have HC2 := Aside0.mk hc2
 clear hr2 hc2
 have HB := Aside0.mk (Below.refl w.heap.size w)
 have H : ((supercargolaw19_awake.f k).bind fun t140 => (if t140 = true then ((sr19_Few.f k a0_0 a0_1 a0_2 a0_3 a0_4 a0_5 a0_6 l0_7 ([] : List (S42))).bind fun t141 => (if t141 = true then (if (l1.length : Int) > 70 then (supercargolaw19_OrderMore.j0 k l1 l2 a3 a4 true a0_0 a0_1 a0_2 a0_3 a0_4 a0_5 a0_6 l0_7) else (if (l2.length : Int) > 70 then (supercargolaw19_OrderMore.j0 k l1 l2 a3 a4 true a0_0 a0_1 a0_2 a0_3 a0_4 a0_5 a0_6 l0_7) else (if a3 < 0 then (supercargolaw19_OrderMore.j0 k l1 l2 a3 a4 true a0_0 a0_1 a0_2 a0_3 a0_4 a0_5 a0_6 l0_7) else (if a3 ≥ (l2.length : Int) then (supercargolaw19_OrderMore.j0 k l1 l2 a3 a4 true a0_0 a0_1 a0_2 a0_3 a0_4 a0_5 a0_6 l0_7) else (if a4 < 0 then (supercargolaw19_OrderMore.j0 k l1 l2 a3 a4 true a0_0 a0_1 a0_2 a0_3 a0_4 a0_5 a0_6 l0_7) else (supercargolaw19_OrderMore.j0 k l1 l2 a3 a4 (decide (a4 ≥ (l0_7.length : Int))) a0_0 a0_1 a0_2 a0_3 a0_4 a0_5 a0_6 l0_7)))))) else (supercargolaw19_OrderMore.j0 k l1 l2 a3 a4 true a0_0 a0_1 a0_2 a0_3 a0_4 a0_5 a0_6 l0_7))) else (some false))) = some r := h
 clear h
 replace H := Option.bind_eq_some_iff.mp H
 obtain ⟨t140, A60, H⟩ := H
 replace H : (if t140 = true then ((sr19_Few.f k a0_0 a0_1 a0_2 a0_3 a0_4 a0_5 a0_6 l0_7 ([] : List (S42))).bind fun t141 => (if t141 = true then (if (l1.length : Int) > 70 then (supercargolaw19_OrderMore.j0 k l1 l2 a3 a4 true a0_0 a0_1 a0_2 a0_3 a0_4 a0_5 a0_6 l0_7) else (if (l2.length : Int) > 70 then (supercargolaw19_OrderMore.j0 k l1 l2 a3 a4 true a0_0 a0_1 a0_2 a0_3 a0_4 a0_5 a0_6 l0_7) else (if a3 < 0 then (supercargolaw19_OrderMore.j0 k l1 l2 a3 a4 true a0_0 a0_1 a0_2 a0_3 a0_4 a0_5 a0_6 l0_7) else (if a3 ≥ (l2.length : Int) then (supercargolaw19_OrderMore.j0 k l1 l2 a3 a4 true a0_0 a0_1 a0_2 a0_3 a0_4 a0_5 a0_6 l0_7) else (if a4 < 0 then (supercargolaw19_OrderMore.j0 k l1 l2 a3 a4 true a0_0 a0_1 a0_2 a0_3 a0_4 a0_5 a0_6 l0_7) else (supercargolaw19_OrderMore.j0 k l1 l2 a3 a4 (decide (a4 ≥ (l0_7.length : Int))) a0_0 a0_1 a0_2 a0_3 a0_4 a0_5 a0_6 l0_7)))))) else (supercargolaw19_OrderMore.j0 k l1 l2 a3 a4 true a0_0 a0_1 a0_2 a0_3 a0_4 a0_5 a0_6 l0_7))) else (some false)) = some r := H
 have A6 := Aside0.mk A60
 clear A60
 by_cases c7 : t140 = true
 ·subst c7
  have H1 : ((sr19_Few.f k a0_0 a0_1 a0_2 a0_3 a0_4 a0_5 a0_6 l0_7 ([] : List (S42))).bind fun t141 => (if t141 = true then (if (l1.length : Int) > 70 then (supercargolaw19_OrderMore.j0 k l1 l2 a3 a4 true a0_0 a0_1 a0_2 a0_3 a0_4 a0_5 a0_6 l0_7) else (if (l2.length : Int) > 70 then (supercargolaw19_OrderMore.j0 k l1 l2 a3 a4 true a0_0 a0_1 a0_2 a0_3 a0_4 a0_5 a0_6 l0_7) else (if a3 < 0 then (supercargolaw19_OrderMore.j0 k l1 l2 a3 a4 true a0_0 a0_1 a0_2 a0_3 a0_4 a0_5 a0_6 l0_7) else (if a3 ≥ (l2.length : Int) then (supercargolaw19_OrderMore.j0 k l1 l2 a3 a4 true a0_0 a0_1 a0_2 a0_3 a0_4 a0_5 a0_6 l0_7) else (if a4 < 0 then (supercargolaw19_OrderMore.j0 k l1 l2 a3 a4 true a0_0 a0_1 a0_2 a0_3 a0_4 a0_5 a0_6 l0_7) else (supercargolaw19_OrderMore.j0 k l1 l2 a3 a4 (decide (a4 ≥ (l0_7.length : Int))) a0_0 a0_1 a0_2 a0_3 a0_4 a0_5 a0_6 l0_7)))))) else (supercargolaw19_OrderMore.j0 k l1 l2 a3 a4 true a0_0 a0_1 a0_2 a0_3 a0_4 a0_5 a0_6 l0_7))) = some r := by rw [if_pos rfl] at H; exact H
  clear H
  have H := H1
  clear H1
  have HC8 := Aside0.mk H
  clear H
  go_enter Try.func9, Try.ntmps9
  go_upto_region 3 with (first | ((with_reducible refine gate_dst (N := 5) rfl ?_); (try (refine gate_guard (by rfl) ?_; dsimp only)); refine box_event ?hg (N := 5) ?hd (cs := #[.string a0_0, .string a0_1, .string a0_2, .string a0_3, .string a0_4, .string a0_5, .int .i64 a0_6, .slice A0_7 l0_7.length c0_7]) (t := 24) ?hr ?_; (case hd => rfl); (case hg => rfl); (case hr => first | (go_simp; done) | (go_simp; rfl)); intro gb139 hg w9 hbox hb; have n0_ := Aside0.mk (below_step (by repeat (first | (with_reducible first | exact HB.out | apply below_alloc | apply pw_below_drewN | apply below_drew1) | exact HB.out)) hb); have n1_ := Aside0.mk (hbox); have n2_ := Aside0.mk ((by rw [hg]; exact (below_size (by repeat (first | (with_reducible first | exact HB.out | apply below_alloc | apply pw_below_drewN | apply below_drew1) | exact HB.out))) : w.heap.size ≤ gb139)); have n3_ := Aside0.mk ((by rw [hg]; exact (below_size (by repeat (first | (with_reducible first | exact HB.out | apply below_alloc | apply pw_below_drewN | apply below_drew1) | exact HB.out))) : w.heap.size ≤ gb139)); clear HB; have HB := n0_; have BK139 := n1_; have GW139 := n2_; have GE139 := n3_; clear n0_ n1_ n2_ n3_; clear hb hbox hg) | ((with_reducible refine gate_callee (f := 11) rfl ?_); refine goesL_ (some 25) rfl rfl Try.func11 (by kernel_rfl) rfl #[] rfl (by (try simp only [List.map_toArray, List.map_cons, List.map_nil]); first | done | rfl | (simp only [List.length_drop, List.length_take]; rfl)) ?_; (with_reducible refine (supercargolaw19_awake.calls k  true _ A6.out).mono ?_); rintro e w10 ⟨rfl, hb⟩; refine ⟨_, rfl, ?_⟩; have n0_ := Aside0.mk (blk_below (g := gb139) (o := .cells #[.string a0_0, .string a0_1, .string a0_2, .string a0_3, .string a0_4, .string a0_5, .int .i64 a0_6, .slice A0_7 l0_7.length c0_7] 24 (0, 0)) (by (with_reducible repeat (first | refine blk_drewN ?_ _ | refine blk_drew ?_ | refine blk_alloc ?_ _)); exact BK139.out) hb); have n1_ := Aside0.mk (below_step (by repeat (first | (with_reducible first | exact HB.out | apply below_alloc | apply pw_below_drewN | apply below_drew1 | refine below_set ?_ GE139.out) | exact HB.out)) hb); clear BK139; clear HB; have BK139 := n0_; have HB := n1_; clear n0_ n1_; (try clear hb); (try clear hb2); (try clear hk); (try clear hi)))
  (try simp only [Act.put, List.setIfInBounds_toArray, List.set_cons_zero, List.set_cons_succ])
  go_cut [60] (fun v60 wc => ∃ (kq : Nat) (x60_7 : Bool), v60 = .bool x60_7 ∧ Aside0 (supercargolaw19_OrderMore.j0 kq l1 l2 a3 a4 x60_7 a0_0 a0_1 a0_2 a0_3 a0_4 a0_5 a0_6 l0_7 = some r) ∧ Aside0 (kq ≤ k) ∧ Aside0 (wc.heap[gb139]? = some (.cells #[.string a0_0, .string a0_1, .string a0_2, .string a0_3, .string a0_4, .string a0_5, .int .i64 a0_6, (.slice A0_7 l0_7.length c0_7)] 24 (0, 0))) ∧ Aside0 (Below w.heap.size w wc))
  case first =>
   have H := HC8.out
   clear HC8
   replace H := Option.bind_eq_some_iff.mp H
   obtain ⟨t141, A110, H⟩ := H
   replace H : (if t141 = true then (if (l1.length : Int) > 70 then (supercargolaw19_OrderMore.j0 k l1 l2 a3 a4 true a0_0 a0_1 a0_2 a0_3 a0_4 a0_5 a0_6 l0_7) else (if (l2.length : Int) > 70 then (supercargolaw19_OrderMore.j0 k l1 l2 a3 a4 true a0_0 a0_1 a0_2 a0_3 a0_4 a0_5 a0_6 l0_7) else (if a3 < 0 then (supercargolaw19_OrderMore.j0 k l1 l2 a3 a4 true a0_0 a0_1 a0_2 a0_3 a0_4 a0_5 a0_6 l0_7) else (if a3 ≥ (l2.length : Int) then (supercargolaw19_OrderMore.j0 k l1 l2 a3 a4 true a0_0 a0_1 a0_2 a0_3 a0_4 a0_5 a0_6 l0_7) else (if a4 < 0 then (supercargolaw19_OrderMore.j0 k l1 l2 a3 a4 true a0_0 a0_1 a0_2 a0_3 a0_4 a0_5 a0_6 l0_7) else (supercargolaw19_OrderMore.j0 k l1 l2 a3 a4 (decide (a4 ≥ (l0_7.length : Int))) a0_0 a0_1 a0_2 a0_3 a0_4 a0_5 a0_6 l0_7)))))) else (supercargolaw19_OrderMore.j0 k l1 l2 a3 a4 true a0_0 a0_1 a0_2 a0_3 a0_4 a0_5 a0_6 l0_7)) = some r := H
   have A11 := Aside0.mk A110
   clear A110
   by_cases c12 : t141 = true
   ·subst c12
    have H1 : (if (l1.length : Int) > 70 then (supercargolaw19_OrderMore.j0 k l1 l2 a3 a4 true a0_0 a0_1 a0_2 a0_3 a0_4 a0_5 a0_6 l0_7) else (if (l2.length : Int) > 70 then (supercargolaw19_OrderMore.j0 k l1 l2 a3 a4 true a0_0 a0_1 a0_2 a0_3 a0_4 a0_5 a0_6 l0_7) else (if a3 < 0 then (supercargolaw19_OrderMore.j0 k l1 l2 a3 a4 true a0_0 a0_1 a0_2 a0_3 a0_4 a0_5 a0_6 l0_7) else (if a3 ≥ (l2.length : Int) then (supercargolaw19_OrderMore.j0 k l1 l2 a3 a4 true a0_0 a0_1 a0_2 a0_3 a0_4 a0_5 a0_6 l0_7) else (if a4 < 0 then (supercargolaw19_OrderMore.j0 k l1 l2 a3 a4 true a0_0 a0_1 a0_2 a0_3 a0_4 a0_5 a0_6 l0_7) else (supercargolaw19_OrderMore.j0 k l1 l2 a3 a4 (decide (a4 ≥ (l0_7.length : Int))) a0_0 a0_1 a0_2 a0_3 a0_4 a0_5 a0_6 l0_7)))))) = some r := by rw [if_pos rfl] at H; exact H
    clear H
    have H := H1
    clear H1
    by_cases c13 : (l1.length : Int) > 70
    ·rw [if_pos c13] at H
     have c13b0 : decide (70 < (l1.length : Int)) = true := decide_eq_true c13
     have c13b1 : decide (70 < l1.length) = true := decide_eq_true (by omega)
     clear c13
     (first | rw [c13b0] | (simp only [i64_w, i32_w]; rw [c13b0]) | skip)
     have H' := Aside0.mk H
     clear H
     have hcz14_0 : w10.cell? ⟨gb139, 0, none⟩ = some (.string a0_0) := (blk_cell BK139.out 0).trans rfl
     have hcz14_1 : w10.cell? ⟨gb139, 1, none⟩ = some (.string a0_1) := (blk_cell BK139.out 1).trans rfl
     have hcz14_2 : w10.cell? ⟨gb139, 2, none⟩ = some (.string a0_2) := (blk_cell BK139.out 2).trans rfl
     have hcz14_3 : w10.cell? ⟨gb139, 3, none⟩ = some (.string a0_3) := (blk_cell BK139.out 3).trans rfl
     have hcz14_4 : w10.cell? ⟨gb139, 4, none⟩ = some (.string a0_4) := (blk_cell BK139.out 4).trans rfl
     have hcz14_5 : w10.cell? ⟨gb139, 5, none⟩ = some (.string a0_5) := (blk_cell BK139.out 5).trans rfl
     have hcz14_6 : w10.cell? ⟨gb139, 6, none⟩ = some (.int .i64 a0_6) := (blk_cell BK139.out 6).trans rfl
     have hcz14_7 : w10.cell? ⟨gb139, 7, none⟩ = some (.slice A0_7 l0_7.length c0_7) := (blk_cell BK139.out 7).trans rfl
     have hfz14_0 := blk_frozen BK139.out 0
     have hfz14_1 := blk_frozen BK139.out 1
     have hfz14_2 := blk_frozen BK139.out 2
     have hfz14_3 := blk_frozen BK139.out 3
     have hfz14_4 := blk_frozen BK139.out 4
     have hfz14_5 := blk_frozen BK139.out 5
     have hfz14_6 := blk_frozen BK139.out 6
     have hfz14_7 := blk_frozen BK139.out 7
     go_wp2_with (first | ((with_reducible refine gate_callee (f := 12) rfl ?_); refine goesL_ (some 28) rfl rfl Try.func12 (by kernel_rfl) rfl #[.agg #[.string a0_0, .string a0_1, .string a0_2, .string a0_3, .string a0_4, .string a0_5, .int .i64 a0_6, .slice A0_7 l0_7.length c0_7], .slice none 0 0] rfl (by (try simp only [List.map_toArray, List.map_cons, List.map_nil]); first | done | rfl | (simp only [List.length_drop, List.length_take]; rfl)) ?_; (refine (sr19_Few.calls k a0_0 a0_1 a0_2 a0_3 a0_4 a0_5 a0_6 _ _ l0_7 _ _ ([] : List (S42)) true _ ?side1 ?side2 ?side3 ?side4 A11.out).mono ?_); (case side1 => repeat (first | exact (Kd.C_below HR0_7.out HB.out) | (with_reducible refine Kd.C_alloc ?_ _) | (with_reducible refine Kd.C_drewN ?_ _) | (with_reducible refine Kd.C_drew ?_))); (case side2 => exact HC0_7.out); (case side3 => exact Kd.C_nil _ _); (case side4 => exact Nat.le_refl _); rintro e w15 ⟨rfl, hb⟩; refine ⟨_, rfl, ?_⟩; have n0_ := Aside0.mk (blk_below (g := gb139) (o := .cells #[.string a0_0, .string a0_1, .string a0_2, .string a0_3, .string a0_4, .string a0_5, .int .i64 a0_6, .slice A0_7 l0_7.length c0_7] 24 (0, 0)) (by (with_reducible repeat (first | refine blk_drewN ?_ _ | refine blk_drew ?_ | refine blk_alloc ?_ _)); exact BK139.out) hb); have n1_ := Aside0.mk (below_step (by repeat (first | (with_reducible first | exact HB.out | apply below_alloc | apply pw_below_drewN | apply below_drew1 | refine below_set ?_ GE139.out) | exact HB.out)) hb); clear BK139; clear HB; have BK139 := n0_; have HB := n1_; clear n0_ n1_; (try clear hb); (try clear hb2); (try clear hk); (try clear hi)))
     go_meet
     case rel => exact ⟨_, (true), (by first | rfl | (simp; done) | (simp [*]; done)), H', ⟨by first | omega | exact Nat.le_refl _⟩, ⟨by (with_reducible repeat (first | refine blk_drewN ?_ _ | refine blk_drew ?_ | refine blk_alloc ?_ _)); exact BK139.out⟩, ⟨by repeat (first | (with_reducible first | exact HB.out | apply below_alloc | apply pw_below_drewN | apply below_drew1 | refine below_set ?_ GE139.out) | exact HB.out)⟩⟩
    ·rw [if_neg c13] at H
     have c13b0 : decide (70 < (l1.length : Int)) = false := decide_eq_false c13
     have c13b1 : decide (70 < l1.length) = false := decide_eq_false (by omega)
     clear c13
     (first | rw [c13b0] | (simp only [i64_w, i32_w]; rw [c13b0]) | skip)
     by_cases c16 : (l2.length : Int) > 70
     ·rw [if_pos c16] at H
      have c16b0 : decide (70 < (l2.length : Int)) = true := decide_eq_true c16
      have c16b1 : decide (70 < l2.length) = true := decide_eq_true (by omega)
      clear c16
      have H' := Aside0.mk H
      clear H
      have hcz17_0 : w10.cell? ⟨gb139, 0, none⟩ = some (.string a0_0) := (blk_cell BK139.out 0).trans rfl
      have hcz17_1 : w10.cell? ⟨gb139, 1, none⟩ = some (.string a0_1) := (blk_cell BK139.out 1).trans rfl
      have hcz17_2 : w10.cell? ⟨gb139, 2, none⟩ = some (.string a0_2) := (blk_cell BK139.out 2).trans rfl
      have hcz17_3 : w10.cell? ⟨gb139, 3, none⟩ = some (.string a0_3) := (blk_cell BK139.out 3).trans rfl
      have hcz17_4 : w10.cell? ⟨gb139, 4, none⟩ = some (.string a0_4) := (blk_cell BK139.out 4).trans rfl
      have hcz17_5 : w10.cell? ⟨gb139, 5, none⟩ = some (.string a0_5) := (blk_cell BK139.out 5).trans rfl
      have hcz17_6 : w10.cell? ⟨gb139, 6, none⟩ = some (.int .i64 a0_6) := (blk_cell BK139.out 6).trans rfl
      have hcz17_7 : w10.cell? ⟨gb139, 7, none⟩ = some (.slice A0_7 l0_7.length c0_7) := (blk_cell BK139.out 7).trans rfl
      have hfz17_0 := blk_frozen BK139.out 0
      have hfz17_1 := blk_frozen BK139.out 1
      have hfz17_2 := blk_frozen BK139.out 2
      have hfz17_3 := blk_frozen BK139.out 3
      have hfz17_4 := blk_frozen BK139.out 4
      have hfz17_5 := blk_frozen BK139.out 5
      have hfz17_6 := blk_frozen BK139.out 6
      have hfz17_7 := blk_frozen BK139.out 7
      go_wp2_with (first | ((with_reducible refine gate_callee (f := 12) rfl ?_); refine goesL_ (some 28) rfl rfl Try.func12 (by kernel_rfl) rfl #[.agg #[.string a0_0, .string a0_1, .string a0_2, .string a0_3, .string a0_4, .string a0_5, .int .i64 a0_6, .slice A0_7 l0_7.length c0_7], .slice none 0 0] rfl (by (try simp only [List.map_toArray, List.map_cons, List.map_nil]); first | done | rfl | (simp only [List.length_drop, List.length_take]; rfl)) ?_; (refine (sr19_Few.calls k a0_0 a0_1 a0_2 a0_3 a0_4 a0_5 a0_6 _ _ l0_7 _ _ ([] : List (S42)) true _ ?side1 ?side2 ?side3 ?side4 A11.out).mono ?_); (case side1 => repeat (first | exact (Kd.C_below HR0_7.out HB.out) | (with_reducible refine Kd.C_alloc ?_ _) | (with_reducible refine Kd.C_drewN ?_ _) | (with_reducible refine Kd.C_drew ?_))); (case side2 => exact HC0_7.out); (case side3 => exact Kd.C_nil _ _); (case side4 => exact Nat.le_refl _); rintro e w18 ⟨rfl, hb⟩; refine ⟨_, rfl, ?_⟩; have n0_ := Aside0.mk (blk_below (g := gb139) (o := .cells #[.string a0_0, .string a0_1, .string a0_2, .string a0_3, .string a0_4, .string a0_5, .int .i64 a0_6, .slice A0_7 l0_7.length c0_7] 24 (0, 0)) (by (with_reducible repeat (first | refine blk_drewN ?_ _ | refine blk_drew ?_ | refine blk_alloc ?_ _)); exact BK139.out) hb); have n1_ := Aside0.mk (below_step (by repeat (first | (with_reducible first | exact HB.out | apply below_alloc | apply pw_below_drewN | apply below_drew1 | refine below_set ?_ GE139.out) | exact HB.out)) hb); clear BK139; clear HB; have BK139 := n0_; have HB := n1_; clear n0_ n1_; (try clear hb); (try clear hb2); (try clear hk); (try clear hi)))
      go_meet
      case rel => exact ⟨_, (true), (by first | rfl | (simp; done) | (simp [*]; done)), H', ⟨by first | omega | exact Nat.le_refl _⟩, ⟨by (with_reducible repeat (first | refine blk_drewN ?_ _ | refine blk_drew ?_ | refine blk_alloc ?_ _)); exact BK139.out⟩, ⟨by repeat (first | (with_reducible first | exact HB.out | apply below_alloc | apply pw_below_drewN | apply below_drew1 | refine below_set ?_ GE139.out) | exact HB.out)⟩⟩
     ·rw [if_neg c16] at H
      have c16b0 : decide (70 < (l2.length : Int)) = false := decide_eq_false c16
      have c16b1 : decide (70 < l2.length) = false := decide_eq_false (by omega)
      clear c16
      by_cases c19 : a3 < 0
      ·rw [if_pos c19] at H
       have c19b0 : decide (a3 < 0) = true := decide_eq_true c19
       clear c19
       have H' := Aside0.mk H
       clear H
       have hcz20_0 : w10.cell? ⟨gb139, 0, none⟩ = some (.string a0_0) := (blk_cell BK139.out 0).trans rfl
       have hcz20_1 : w10.cell? ⟨gb139, 1, none⟩ = some (.string a0_1) := (blk_cell BK139.out 1).trans rfl
       have hcz20_2 : w10.cell? ⟨gb139, 2, none⟩ = some (.string a0_2) := (blk_cell BK139.out 2).trans rfl
       have hcz20_3 : w10.cell? ⟨gb139, 3, none⟩ = some (.string a0_3) := (blk_cell BK139.out 3).trans rfl
       have hcz20_4 : w10.cell? ⟨gb139, 4, none⟩ = some (.string a0_4) := (blk_cell BK139.out 4).trans rfl
       have hcz20_5 : w10.cell? ⟨gb139, 5, none⟩ = some (.string a0_5) := (blk_cell BK139.out 5).trans rfl
       have hcz20_6 : w10.cell? ⟨gb139, 6, none⟩ = some (.int .i64 a0_6) := (blk_cell BK139.out 6).trans rfl
       have hcz20_7 : w10.cell? ⟨gb139, 7, none⟩ = some (.slice A0_7 l0_7.length c0_7) := (blk_cell BK139.out 7).trans rfl
       have hfz20_0 := blk_frozen BK139.out 0
       have hfz20_1 := blk_frozen BK139.out 1
       have hfz20_2 := blk_frozen BK139.out 2
       have hfz20_3 := blk_frozen BK139.out 3
       have hfz20_4 := blk_frozen BK139.out 4
       have hfz20_5 := blk_frozen BK139.out 5
       have hfz20_6 := blk_frozen BK139.out 6
       have hfz20_7 := blk_frozen BK139.out 7
       go_wp2_with (first | ((with_reducible refine gate_callee (f := 12) rfl ?_); refine goesL_ (some 28) rfl rfl Try.func12 (by kernel_rfl) rfl #[.agg #[.string a0_0, .string a0_1, .string a0_2, .string a0_3, .string a0_4, .string a0_5, .int .i64 a0_6, .slice A0_7 l0_7.length c0_7], .slice none 0 0] rfl (by (try simp only [List.map_toArray, List.map_cons, List.map_nil]); first | done | rfl | (simp only [List.length_drop, List.length_take]; rfl)) ?_; (refine (sr19_Few.calls k a0_0 a0_1 a0_2 a0_3 a0_4 a0_5 a0_6 _ _ l0_7 _ _ ([] : List (S42)) true _ ?side1 ?side2 ?side3 ?side4 A11.out).mono ?_); (case side1 => repeat (first | exact (Kd.C_below HR0_7.out HB.out) | (with_reducible refine Kd.C_alloc ?_ _) | (with_reducible refine Kd.C_drewN ?_ _) | (with_reducible refine Kd.C_drew ?_))); (case side2 => exact HC0_7.out); (case side3 => exact Kd.C_nil _ _); (case side4 => exact Nat.le_refl _); rintro e w21 ⟨rfl, hb⟩; refine ⟨_, rfl, ?_⟩; have n0_ := Aside0.mk (blk_below (g := gb139) (o := .cells #[.string a0_0, .string a0_1, .string a0_2, .string a0_3, .string a0_4, .string a0_5, .int .i64 a0_6, .slice A0_7 l0_7.length c0_7] 24 (0, 0)) (by (with_reducible repeat (first | refine blk_drewN ?_ _ | refine blk_drew ?_ | refine blk_alloc ?_ _)); exact BK139.out) hb); have n1_ := Aside0.mk (below_step (by repeat (first | (with_reducible first | exact HB.out | apply below_alloc | apply pw_below_drewN | apply below_drew1 | refine below_set ?_ GE139.out) | exact HB.out)) hb); clear BK139; clear HB; have BK139 := n0_; have HB := n1_; clear n0_ n1_; (try clear hb); (try clear hb2); (try clear hk); (try clear hi)))
       go_meet
       case rel => exact ⟨_, (true), (by first | rfl | (simp; done) | (simp [*]; done)), H', ⟨by first | omega | exact Nat.le_refl _⟩, ⟨by (with_reducible repeat (first | refine blk_drewN ?_ _ | refine blk_drew ?_ | refine blk_alloc ?_ _)); exact BK139.out⟩, ⟨by repeat (first | (with_reducible first | exact HB.out | apply below_alloc | apply pw_below_drewN | apply below_drew1 | refine below_set ?_ GE139.out) | exact HB.out)⟩⟩
      ·rw [if_neg c19] at H
       have c19b0 : decide (a3 < 0) = false := decide_eq_false c19
       clear c19
       by_cases c22 : a3 ≥ (l2.length : Int)
       ·rw [if_pos c22] at H
        have c22b0 : decide ((l2.length : Int) ≤ a3) = true := decide_eq_true c22
        clear c22
        have H' := Aside0.mk H
        clear H
        have hcz23_0 : w10.cell? ⟨gb139, 0, none⟩ = some (.string a0_0) := (blk_cell BK139.out 0).trans rfl
        have hcz23_1 : w10.cell? ⟨gb139, 1, none⟩ = some (.string a0_1) := (blk_cell BK139.out 1).trans rfl
        have hcz23_2 : w10.cell? ⟨gb139, 2, none⟩ = some (.string a0_2) := (blk_cell BK139.out 2).trans rfl
        have hcz23_3 : w10.cell? ⟨gb139, 3, none⟩ = some (.string a0_3) := (blk_cell BK139.out 3).trans rfl
        have hcz23_4 : w10.cell? ⟨gb139, 4, none⟩ = some (.string a0_4) := (blk_cell BK139.out 4).trans rfl
        have hcz23_5 : w10.cell? ⟨gb139, 5, none⟩ = some (.string a0_5) := (blk_cell BK139.out 5).trans rfl
        have hcz23_6 : w10.cell? ⟨gb139, 6, none⟩ = some (.int .i64 a0_6) := (blk_cell BK139.out 6).trans rfl
        have hcz23_7 : w10.cell? ⟨gb139, 7, none⟩ = some (.slice A0_7 l0_7.length c0_7) := (blk_cell BK139.out 7).trans rfl
        have hfz23_0 := blk_frozen BK139.out 0
        have hfz23_1 := blk_frozen BK139.out 1
        have hfz23_2 := blk_frozen BK139.out 2
        have hfz23_3 := blk_frozen BK139.out 3
        have hfz23_4 := blk_frozen BK139.out 4
        have hfz23_5 := blk_frozen BK139.out 5
        have hfz23_6 := blk_frozen BK139.out 6
        have hfz23_7 := blk_frozen BK139.out 7
        go_wp2_with (first | ((with_reducible refine gate_callee (f := 12) rfl ?_); refine goesL_ (some 28) rfl rfl Try.func12 (by kernel_rfl) rfl #[.agg #[.string a0_0, .string a0_1, .string a0_2, .string a0_3, .string a0_4, .string a0_5, .int .i64 a0_6, .slice A0_7 l0_7.length c0_7], .slice none 0 0] rfl (by (try simp only [List.map_toArray, List.map_cons, List.map_nil]); first | done | rfl | (simp only [List.length_drop, List.length_take]; rfl)) ?_; (refine (sr19_Few.calls k a0_0 a0_1 a0_2 a0_3 a0_4 a0_5 a0_6 _ _ l0_7 _ _ ([] : List (S42)) true _ ?side1 ?side2 ?side3 ?side4 A11.out).mono ?_); (case side1 => repeat (first | exact (Kd.C_below HR0_7.out HB.out) | (with_reducible refine Kd.C_alloc ?_ _) | (with_reducible refine Kd.C_drewN ?_ _) | (with_reducible refine Kd.C_drew ?_))); (case side2 => exact HC0_7.out); (case side3 => exact Kd.C_nil _ _); (case side4 => exact Nat.le_refl _); rintro e w24 ⟨rfl, hb⟩; refine ⟨_, rfl, ?_⟩; have n0_ := Aside0.mk (blk_below (g := gb139) (o := .cells #[.string a0_0, .string a0_1, .string a0_2, .string a0_3, .string a0_4, .string a0_5, .int .i64 a0_6, .slice A0_7 l0_7.length c0_7] 24 (0, 0)) (by (with_reducible repeat (first | refine blk_drewN ?_ _ | refine blk_drew ?_ | refine blk_alloc ?_ _)); exact BK139.out) hb); have n1_ := Aside0.mk (below_step (by repeat (first | (with_reducible first | exact HB.out | apply below_alloc | apply pw_below_drewN | apply below_drew1 | refine below_set ?_ GE139.out) | exact HB.out)) hb); clear BK139; clear HB; have BK139 := n0_; have HB := n1_; clear n0_ n1_; (try clear hb); (try clear hb2); (try clear hk); (try clear hi)))
        go_meet
        case rel => exact ⟨_, (true), (by first | rfl | (simp; done) | (simp [*]; done)), H', ⟨by first | omega | exact Nat.le_refl _⟩, ⟨by (with_reducible repeat (first | refine blk_drewN ?_ _ | refine blk_drew ?_ | refine blk_alloc ?_ _)); exact BK139.out⟩, ⟨by repeat (first | (with_reducible first | exact HB.out | apply below_alloc | apply pw_below_drewN | apply below_drew1 | refine below_set ?_ GE139.out) | exact HB.out)⟩⟩
       ·rw [if_neg c22] at H
        have c22b0 : decide ((l2.length : Int) ≤ a3) = false := decide_eq_false c22
        clear c22
        by_cases c25 : a4 < 0
        ·rw [if_pos c25] at H
         have c25b0 : decide (a4 < 0) = true := decide_eq_true c25
         clear c25
         have H' := Aside0.mk H
         clear H
         have hcz26_0 : w10.cell? ⟨gb139, 0, none⟩ = some (.string a0_0) := (blk_cell BK139.out 0).trans rfl
         have hcz26_1 : w10.cell? ⟨gb139, 1, none⟩ = some (.string a0_1) := (blk_cell BK139.out 1).trans rfl
         have hcz26_2 : w10.cell? ⟨gb139, 2, none⟩ = some (.string a0_2) := (blk_cell BK139.out 2).trans rfl
         have hcz26_3 : w10.cell? ⟨gb139, 3, none⟩ = some (.string a0_3) := (blk_cell BK139.out 3).trans rfl
         have hcz26_4 : w10.cell? ⟨gb139, 4, none⟩ = some (.string a0_4) := (blk_cell BK139.out 4).trans rfl
         have hcz26_5 : w10.cell? ⟨gb139, 5, none⟩ = some (.string a0_5) := (blk_cell BK139.out 5).trans rfl
         have hcz26_6 : w10.cell? ⟨gb139, 6, none⟩ = some (.int .i64 a0_6) := (blk_cell BK139.out 6).trans rfl
         have hcz26_7 : w10.cell? ⟨gb139, 7, none⟩ = some (.slice A0_7 l0_7.length c0_7) := (blk_cell BK139.out 7).trans rfl
         have hfz26_0 := blk_frozen BK139.out 0
         have hfz26_1 := blk_frozen BK139.out 1
         have hfz26_2 := blk_frozen BK139.out 2
         have hfz26_3 := blk_frozen BK139.out 3
         have hfz26_4 := blk_frozen BK139.out 4
         have hfz26_5 := blk_frozen BK139.out 5
         have hfz26_6 := blk_frozen BK139.out 6
         have hfz26_7 := blk_frozen BK139.out 7
         go_wp2_with (first | ((with_reducible refine gate_callee (f := 12) rfl ?_); refine goesL_ (some 28) rfl rfl Try.func12 (by kernel_rfl) rfl #[.agg #[.string a0_0, .string a0_1, .string a0_2, .string a0_3, .string a0_4, .string a0_5, .int .i64 a0_6, .slice A0_7 l0_7.length c0_7], .slice none 0 0] rfl (by (try simp only [List.map_toArray, List.map_cons, List.map_nil]); first | done | rfl | (simp only [List.length_drop, List.length_take]; rfl)) ?_; (refine (sr19_Few.calls k a0_0 a0_1 a0_2 a0_3 a0_4 a0_5 a0_6 _ _ l0_7 _ _ ([] : List (S42)) true _ ?side1 ?side2 ?side3 ?side4 A11.out).mono ?_); (case side1 => repeat (first | exact (Kd.C_below HR0_7.out HB.out) | (with_reducible refine Kd.C_alloc ?_ _) | (with_reducible refine Kd.C_drewN ?_ _) | (with_reducible refine Kd.C_drew ?_))); (case side2 => exact HC0_7.out); (case side3 => exact Kd.C_nil _ _); (case side4 => exact Nat.le_refl _); rintro e w27 ⟨rfl, hb⟩; refine ⟨_, rfl, ?_⟩; have n0_ := Aside0.mk (blk_below (g := gb139) (o := .cells #[.string a0_0, .string a0_1, .string a0_2, .string a0_3, .string a0_4, .string a0_5, .int .i64 a0_6, .slice A0_7 l0_7.length c0_7] 24 (0, 0)) (by (with_reducible repeat (first | refine blk_drewN ?_ _ | refine blk_drew ?_ | refine blk_alloc ?_ _)); exact BK139.out) hb); have n1_ := Aside0.mk (below_step (by repeat (first | (with_reducible first | exact HB.out | apply below_alloc | apply pw_below_drewN | apply below_drew1 | refine below_set ?_ GE139.out) | exact HB.out)) hb); clear BK139; clear HB; have BK139 := n0_; have HB := n1_; clear n0_ n1_; (try clear hb); (try clear hb2); (try clear hk); (try clear hi)))
         go_meet
         case rel => exact ⟨_, (true), (by first | rfl | (simp; done) | (simp [*]; done)), H', ⟨by first | omega | exact Nat.le_refl _⟩, ⟨by (with_reducible repeat (first | refine blk_drewN ?_ _ | refine blk_drew ?_ | refine blk_alloc ?_ _)); exact BK139.out⟩, ⟨by repeat (first | (with_reducible first | exact HB.out | apply below_alloc | apply pw_below_drewN | apply below_drew1 | refine below_set ?_ GE139.out) | exact HB.out)⟩⟩
        ·rw [if_neg c25] at H
         have c25b0 : decide (a4 < 0) = false := decide_eq_false c25
         clear c25
         have H' := Aside0.mk H
         clear H
         have hcz28_0 : w10.cell? ⟨gb139, 0, none⟩ = some (.string a0_0) := (blk_cell BK139.out 0).trans rfl
         have hcz28_1 : w10.cell? ⟨gb139, 1, none⟩ = some (.string a0_1) := (blk_cell BK139.out 1).trans rfl
         have hcz28_2 : w10.cell? ⟨gb139, 2, none⟩ = some (.string a0_2) := (blk_cell BK139.out 2).trans rfl
         have hcz28_3 : w10.cell? ⟨gb139, 3, none⟩ = some (.string a0_3) := (blk_cell BK139.out 3).trans rfl
         have hcz28_4 : w10.cell? ⟨gb139, 4, none⟩ = some (.string a0_4) := (blk_cell BK139.out 4).trans rfl
         have hcz28_5 : w10.cell? ⟨gb139, 5, none⟩ = some (.string a0_5) := (blk_cell BK139.out 5).trans rfl
         have hcz28_6 : w10.cell? ⟨gb139, 6, none⟩ = some (.int .i64 a0_6) := (blk_cell BK139.out 6).trans rfl
         have hcz28_7 : w10.cell? ⟨gb139, 7, none⟩ = some (.slice A0_7 l0_7.length c0_7) := (blk_cell BK139.out 7).trans rfl
         have hfz28_0 := blk_frozen BK139.out 0
         have hfz28_1 := blk_frozen BK139.out 1
         have hfz28_2 := blk_frozen BK139.out 2
         have hfz28_3 := blk_frozen BK139.out 3
         have hfz28_4 := blk_frozen BK139.out 4
         have hfz28_5 := blk_frozen BK139.out 5
         have hfz28_6 := blk_frozen BK139.out 6
         have hfz28_7 := blk_frozen BK139.out 7
         go_wp2_with (first | ((with_reducible refine gate_callee (f := 12) rfl ?_); refine goesL_ (some 28) rfl rfl Try.func12 (by kernel_rfl) rfl #[.agg #[.string a0_0, .string a0_1, .string a0_2, .string a0_3, .string a0_4, .string a0_5, .int .i64 a0_6, .slice A0_7 l0_7.length c0_7], .slice none 0 0] rfl (by (try simp only [List.map_toArray, List.map_cons, List.map_nil]); first | done | rfl | (simp only [List.length_drop, List.length_take]; rfl)) ?_; (refine (sr19_Few.calls k a0_0 a0_1 a0_2 a0_3 a0_4 a0_5 a0_6 _ _ l0_7 _ _ ([] : List (S42)) true _ ?side1 ?side2 ?side3 ?side4 A11.out).mono ?_); (case side1 => repeat (first | exact (Kd.C_below HR0_7.out HB.out) | (with_reducible refine Kd.C_alloc ?_ _) | (with_reducible refine Kd.C_drewN ?_ _) | (with_reducible refine Kd.C_drew ?_))); (case side2 => exact HC0_7.out); (case side3 => exact Kd.C_nil _ _); (case side4 => exact Nat.le_refl _); rintro e w29 ⟨rfl, hb⟩; refine ⟨_, rfl, ?_⟩; have n0_ := Aside0.mk (blk_below (g := gb139) (o := .cells #[.string a0_0, .string a0_1, .string a0_2, .string a0_3, .string a0_4, .string a0_5, .int .i64 a0_6, .slice A0_7 l0_7.length c0_7] 24 (0, 0)) (by (with_reducible repeat (first | refine blk_drewN ?_ _ | refine blk_drew ?_ | refine blk_alloc ?_ _)); exact BK139.out) hb); have n1_ := Aside0.mk (below_step (by repeat (first | (with_reducible first | exact HB.out | apply below_alloc | apply pw_below_drewN | apply below_drew1 | refine below_set ?_ GE139.out) | exact HB.out)) hb); clear BK139; clear HB; have BK139 := n0_; have HB := n1_; clear n0_ n1_; (try clear hb); (try clear hb2); (try clear hk); (try clear hi); have hcz30_0 : w29.cell? ⟨gb139, 0, none⟩ = some (.string a0_0) := (blk_cell BK139.out 0).trans rfl; have hcz30_1 : w29.cell? ⟨gb139, 1, none⟩ = some (.string a0_1) := (blk_cell BK139.out 1).trans rfl; have hcz30_2 : w29.cell? ⟨gb139, 2, none⟩ = some (.string a0_2) := (blk_cell BK139.out 2).trans rfl; have hcz30_3 : w29.cell? ⟨gb139, 3, none⟩ = some (.string a0_3) := (blk_cell BK139.out 3).trans rfl; have hcz30_4 : w29.cell? ⟨gb139, 4, none⟩ = some (.string a0_4) := (blk_cell BK139.out 4).trans rfl; have hcz30_5 : w29.cell? ⟨gb139, 5, none⟩ = some (.string a0_5) := (blk_cell BK139.out 5).trans rfl; have hcz30_6 : w29.cell? ⟨gb139, 6, none⟩ = some (.int .i64 a0_6) := (blk_cell BK139.out 6).trans rfl; have hcz30_7 : w29.cell? ⟨gb139, 7, none⟩ = some (.slice A0_7 l0_7.length c0_7) := (blk_cell BK139.out 7).trans rfl; have hfz30_0 := blk_frozen BK139.out 0; have hfz30_1 := blk_frozen BK139.out 1; have hfz30_2 := blk_frozen BK139.out 2; have hfz30_3 := blk_frozen BK139.out 3; have hfz30_4 := blk_frozen BK139.out 4; have hfz30_5 := blk_frozen BK139.out 5; have hfz30_6 := blk_frozen BK139.out 6; have hfz30_7 := blk_frozen BK139.out 7))
         go_meet
         case rel => exact ⟨_, (decide (a4 ≥ (l0_7.length : Int))), (by first | rfl | (simp; done) | (simp [*]; done)), H', ⟨by first | omega | exact Nat.le_refl _⟩, ⟨by (with_reducible repeat (first | refine blk_drewN ?_ _ | refine blk_drew ?_ | refine blk_alloc ?_ _)); exact BK139.out⟩, ⟨by repeat (first | (with_reducible first | exact HB.out | apply below_alloc | apply pw_below_drewN | apply below_drew1 | refine below_set ?_ GE139.out) | exact HB.out)⟩⟩
   ·replace c12 := Bool.eq_false_iff.mpr c12
    subst c12
    have H1 : (supercargolaw19_OrderMore.j0 k l1 l2 a3 a4 true a0_0 a0_1 a0_2 a0_3 a0_4 a0_5 a0_6 l0_7) = some r := by rw [if_neg (show ¬ (false = true) by decide)] at H; exact H
    clear H
    have H := H1
    clear H1
    have H' := Aside0.mk H
    clear H
    have hcz31_0 : w10.cell? ⟨gb139, 0, none⟩ = some (.string a0_0) := (blk_cell BK139.out 0).trans rfl
    have hcz31_1 : w10.cell? ⟨gb139, 1, none⟩ = some (.string a0_1) := (blk_cell BK139.out 1).trans rfl
    have hcz31_2 : w10.cell? ⟨gb139, 2, none⟩ = some (.string a0_2) := (blk_cell BK139.out 2).trans rfl
    have hcz31_3 : w10.cell? ⟨gb139, 3, none⟩ = some (.string a0_3) := (blk_cell BK139.out 3).trans rfl
    have hcz31_4 : w10.cell? ⟨gb139, 4, none⟩ = some (.string a0_4) := (blk_cell BK139.out 4).trans rfl
    have hcz31_5 : w10.cell? ⟨gb139, 5, none⟩ = some (.string a0_5) := (blk_cell BK139.out 5).trans rfl
    have hcz31_6 : w10.cell? ⟨gb139, 6, none⟩ = some (.int .i64 a0_6) := (blk_cell BK139.out 6).trans rfl
    have hcz31_7 : w10.cell? ⟨gb139, 7, none⟩ = some (.slice A0_7 l0_7.length c0_7) := (blk_cell BK139.out 7).trans rfl
    have hfz31_0 := blk_frozen BK139.out 0
    have hfz31_1 := blk_frozen BK139.out 1
    have hfz31_2 := blk_frozen BK139.out 2
    have hfz31_3 := blk_frozen BK139.out 3
    have hfz31_4 := blk_frozen BK139.out 4
    have hfz31_5 := blk_frozen BK139.out 5
    have hfz31_6 := blk_frozen BK139.out 6
    have hfz31_7 := blk_frozen BK139.out 7
    go_wp2_with (first | ((with_reducible refine gate_callee (f := 12) rfl ?_); refine goesL_ (some 28) rfl rfl Try.func12 (by kernel_rfl) rfl #[.agg #[.string a0_0, .string a0_1, .string a0_2, .string a0_3, .string a0_4, .string a0_5, .int .i64 a0_6, .slice A0_7 l0_7.length c0_7], .slice none 0 0] rfl (by (try simp only [List.map_toArray, List.map_cons, List.map_nil]); first | done | rfl | (simp only [List.length_drop, List.length_take]; rfl)) ?_; (refine (sr19_Few.calls k a0_0 a0_1 a0_2 a0_3 a0_4 a0_5 a0_6 _ _ l0_7 _ _ ([] : List (S42)) false _ ?side1 ?side2 ?side3 ?side4 A11.out).mono ?_); (case side1 => repeat (first | exact (Kd.C_below HR0_7.out HB.out) | (with_reducible refine Kd.C_alloc ?_ _) | (with_reducible refine Kd.C_drewN ?_ _) | (with_reducible refine Kd.C_drew ?_))); (case side2 => exact HC0_7.out); (case side3 => exact Kd.C_nil _ _); (case side4 => exact Nat.le_refl _); rintro e w32 ⟨rfl, hb⟩; refine ⟨_, rfl, ?_⟩; have n0_ := Aside0.mk (blk_below (g := gb139) (o := .cells #[.string a0_0, .string a0_1, .string a0_2, .string a0_3, .string a0_4, .string a0_5, .int .i64 a0_6, .slice A0_7 l0_7.length c0_7] 24 (0, 0)) (by (with_reducible repeat (first | refine blk_drewN ?_ _ | refine blk_drew ?_ | refine blk_alloc ?_ _)); exact BK139.out) hb); have n1_ := Aside0.mk (below_step (by repeat (first | (with_reducible first | exact HB.out | apply below_alloc | apply pw_below_drewN | apply below_drew1 | refine below_set ?_ GE139.out) | exact HB.out)) hb); clear BK139; clear HB; have BK139 := n0_; have HB := n1_; clear n0_ n1_; (try clear hb); (try clear hb2); (try clear hk); (try clear hi)))
    go_meet
    case rel => exact ⟨_, (true), (by first | rfl | (simp; done) | (simp [*]; done)), H', ⟨by first | omega | exact Nat.le_refl _⟩, ⟨by (with_reducible repeat (first | refine blk_drewN ?_ _ | refine blk_drew ?_ | refine blk_alloc ?_ _)); exact BK139.out⟩, ⟨by repeat (first | (with_reducible first | exact HB.out | apply below_alloc | apply pw_below_drewN | apply below_drew1 | refine below_set ?_ GE139.out) | exact HB.out)⟩⟩
  case rest =>
   clear HC8
   try clear c1
   try clear c2
   try clear p2
   try clear c7
   try clear c9
   try clear c11
   try clear c12
   try clear c13
   try clear c13b0
   try clear c13b1
   try clear c16
   try clear c16b0
   try clear c16b1
   try clear c19
   try clear c19b0
   try clear c22
   try clear c22b0
   try clear c25
   try clear c25b0
   try clear hcz14_0
   try clear hcz14_1
   try clear hcz14_2
   try clear hcz14_3
   try clear hcz14_4
   try clear hcz14_5
   try clear hcz14_6
   try clear hcz14_7
   try clear hcz17_0
   try clear hcz17_1
   try clear hcz17_2
   try clear hcz17_3
   try clear hcz17_4
   try clear hcz17_5
   try clear hcz17_6
   try clear hcz17_7
   try clear hcz20_0
   try clear hcz20_1
   try clear hcz20_2
   try clear hcz20_3
   try clear hcz20_4
   try clear hcz20_5
   try clear hcz20_6
   try clear hcz20_7
   try clear hcz23_0
   try clear hcz23_1
   try clear hcz23_2
   try clear hcz23_3
   try clear hcz23_4
   try clear hcz23_5
   try clear hcz23_6
   try clear hcz23_7
   try clear hcz26_0
   try clear hcz26_1
   try clear hcz26_2
   try clear hcz26_3
   try clear hcz26_4
   try clear hcz26_5
   try clear hcz26_6
   try clear hcz26_7
   try clear hcz28_0
   try clear hcz28_1
   try clear hcz28_2
   try clear hcz28_3
   try clear hcz28_4
   try clear hcz28_5
   try clear hcz28_6
   try clear hcz28_7
   try clear hcz30_0
   try clear hcz30_1
   try clear hcz30_2
   try clear hcz30_3
   try clear hcz30_4
   try clear hcz30_5
   try clear hcz30_6
   try clear hcz30_7
   try clear hcz31_0
   try clear hcz31_1
   try clear hcz31_2
   try clear hcz31_3
   try clear hcz31_4
   try clear hcz31_5
   try clear hcz31_6
   try clear hcz31_7
   try clear hfz14_0
   try clear hfz14_1
   try clear hfz14_2
   try clear hfz14_3
   try clear hfz14_4
   try clear hfz14_5
   try clear hfz14_6
   try clear hfz14_7
   try clear hfz17_0
   try clear hfz17_1
   try clear hfz17_2
   try clear hfz17_3
   try clear hfz17_4
   try clear hfz17_5
   try clear hfz17_6
   try clear hfz17_7
   try clear hfz20_0
   try clear hfz20_1
   try clear hfz20_2
   try clear hfz20_3
   try clear hfz20_4
   try clear hfz20_5
   try clear hfz20_6
   try clear hfz20_7
   try clear hfz23_0
   try clear hfz23_1
   try clear hfz23_2
   try clear hfz23_3
   try clear hfz23_4
   try clear hfz23_5
   try clear hfz23_6
   try clear hfz23_7
   try clear hfz26_0
   try clear hfz26_1
   try clear hfz26_2
   try clear hfz26_3
   try clear hfz26_4
   try clear hfz26_5
   try clear hfz26_6
   try clear hfz26_7
   try clear hfz28_0
   try clear hfz28_1
   try clear hfz28_2
   try clear hfz28_3
   try clear hfz28_4
   try clear hfz28_5
   try clear hfz28_6
   try clear hfz28_7
   try clear hfz30_0
   try clear hfz30_1
   try clear hfz30_2
   try clear hfz30_3
   try clear hfz30_4
   try clear hfz30_5
   try clear hfz30_6
   try clear hfz30_7
   try clear hfz31_0
   try clear hfz31_1
   try clear hfz31_2
   try clear hfz31_3
   try clear hfz31_4
   try clear hfz31_5
   try clear hfz31_6
   try clear hfz31_7
   obtain ⟨kq, x60_7, rfl, HA, HJ7, BK139, HB⟩ := hcut
   cases kq with
   | zero => exact absurd HA.out (by simp [supercargolaw19_OrderMore.j0])
   | succ kj7 =>
    have H := HA.out
    clear HA
    simp only [supercargolaw19_OrderMore.j0] at H
    by_cases c33 : x60_7 = true
    ·subst c33
     have H1 : (some true) = some r := by rw [if_pos rfl] at H; exact H
     clear H
     have H := H1
     clear H1
     clear hT; obtain rfl := Option.some.inj H
     go_wp2
     go_ret
     exact ⟨by first | rfl | (simp [errW_none, errW_some] <;> rfl) | (simp [*, errW_none, errW_some] <;> rfl), by repeat (first | (with_reducible first | exact HB.out | apply below_alloc | apply pw_below_drewN | apply below_drew1 | refine below_set ?_ GE139.out) | exact HB.out)⟩
    ·replace c33 := Bool.eq_false_iff.mpr c33
     subst c33
     have H1 : ((order_Cut.f kj7 a0_0 a0_1 a0_2 a0_3 a0_4 a0_5 a0_6 l0_7 l1 l2).bind fun bt142 => (if bt142.2 = 0 then (if 0 ≤ a3 then (if a3 < (l2.length : Int) then (if ((rd_L5 l2 a3).length : Int) = (l0_7.length : Int) then (supercargolaw19_OrderMore.j1 kj7 l1 l2 a3 a4 bt142.1 bt142.2 (decide (a3 ≥ (bt142.1.length : Int))) a0_0 a0_1 a0_2 a0_3 a0_4 a0_5 a0_6 l0_7) else (supercargolaw19_OrderMore.j1 kj7 l1 l2 a3 a4 bt142.1 bt142.2 true a0_0 a0_1 a0_2 a0_3 a0_4 a0_5 a0_6 l0_7)) else (none)) else (none)) else (supercargolaw19_OrderMore.j1 kj7 l1 l2 a3 a4 bt142.1 bt142.2 true a0_0 a0_1 a0_2 a0_3 a0_4 a0_5 a0_6 l0_7))) = some r := by rw [if_neg (show ¬ (false = true) by decide)] at H; exact H
     clear H
     have H := H1
     clear H1
     replace H := Option.bind_eq_some_iff.mp H
     obtain ⟨⟨t142, t145⟩, A340, H⟩ := H
     replace H : (if t145 = 0 then (if 0 ≤ a3 then (if a3 < (l2.length : Int) then (if ((rd_L5 l2 a3).length : Int) = (l0_7.length : Int) then (supercargolaw19_OrderMore.j1 kj7 l1 l2 a3 a4 t142 t145 (decide (a3 ≥ (t142.length : Int))) a0_0 a0_1 a0_2 a0_3 a0_4 a0_5 a0_6 l0_7) else (supercargolaw19_OrderMore.j1 kj7 l1 l2 a3 a4 t142 t145 true a0_0 a0_1 a0_2 a0_3 a0_4 a0_5 a0_6 l0_7)) else (none)) else (none)) else (supercargolaw19_OrderMore.j1 kj7 l1 l2 a3 a4 t142 t145 true a0_0 a0_1 a0_2 a0_3 a0_4 a0_5 a0_6 l0_7)) = some r := H
     have A34 := Aside0.mk A340
     clear A340
     have HC35 := Aside0.mk H
     clear H
     have hcz36_0 : wc.cell? ⟨gb139, 0, none⟩ = some (.string a0_0) := (blk_cell BK139.out 0).trans rfl
     have hcz36_1 : wc.cell? ⟨gb139, 1, none⟩ = some (.string a0_1) := (blk_cell BK139.out 1).trans rfl
     have hcz36_2 : wc.cell? ⟨gb139, 2, none⟩ = some (.string a0_2) := (blk_cell BK139.out 2).trans rfl
     have hcz36_3 : wc.cell? ⟨gb139, 3, none⟩ = some (.string a0_3) := (blk_cell BK139.out 3).trans rfl
     have hcz36_4 : wc.cell? ⟨gb139, 4, none⟩ = some (.string a0_4) := (blk_cell BK139.out 4).trans rfl
     have hcz36_5 : wc.cell? ⟨gb139, 5, none⟩ = some (.string a0_5) := (blk_cell BK139.out 5).trans rfl
     have hcz36_6 : wc.cell? ⟨gb139, 6, none⟩ = some (.int .i64 a0_6) := (blk_cell BK139.out 6).trans rfl
     have hcz36_7 : wc.cell? ⟨gb139, 7, none⟩ = some (.slice A0_7 l0_7.length c0_7) := (blk_cell BK139.out 7).trans rfl
     have hfz36_0 := blk_frozen BK139.out 0
     have hfz36_1 := blk_frozen BK139.out 1
     have hfz36_2 := blk_frozen BK139.out 2
     have hfz36_3 := blk_frozen BK139.out 3
     have hfz36_4 := blk_frozen BK139.out 4
     have hfz36_5 := blk_frozen BK139.out 5
     have hfz36_6 := blk_frozen BK139.out 6
     have hfz36_7 := blk_frozen BK139.out 7
     go_upto_region 6 with (first | ((with_reducible refine gate_callee (f := 19) rfl ?_); refine goesL_ (some 65) rfl rfl Try.func19 (by kernel_rfl) rfl #[.agg #[.string a0_0, .string a0_1, .string a0_2, .string a0_3, .string a0_4, .string a0_5, .int .i64 a0_6, .slice A0_7 l0_7.length c0_7], .slice A1 l1.length c1, .slice A2 l2.length c2] rfl (by (try simp only [List.map_toArray, List.map_cons, List.map_nil]); first | done | rfl | (simp only [List.length_drop, List.length_take]; rfl)) ?_; (with_reducible refine (order_Cut.calls kj7 a0_0 a0_1 a0_2 a0_3 a0_4 a0_5 a0_6 _ _ l0_7 _ _ l1 _ _ l2 t142 t145 _ ?side1 ?side2 ?side3 ?side4 ?side5 ?side6 A34.out).mono ?_); (case side1 => repeat (first | exact (Kd.C_below HR0_7.out HB.out) | (with_reducible refine Kd.C_alloc ?_ _) | (with_reducible refine Kd.C_drewN ?_ _) | (with_reducible refine Kd.C_drew ?_))); (case side2 => exact HC0_7.out); (case side3 => repeat (first | exact (Kd.C_below HR1.out HB.out) | (with_reducible refine Kd.C_alloc ?_ _) | (with_reducible refine Kd.C_drewN ?_ _) | (with_reducible refine Kd.C_drew ?_))); (case side4 => exact HC1.out); (case side5 => repeat (first | exact (Kd.C_below HR2.out HB.out) | (with_reducible refine Kd.C_alloc ?_ _) | (with_reducible refine Kd.C_drewN ?_ _) | (with_reducible refine Kd.C_drew ?_))); (case side6 => exact HC2.out); rintro e w37 ⟨v143, rfl, ho0, hb⟩; refine ⟨_, rfl, ?_⟩; have n0_ := Aside0.mk (Kd.S_lower ho0 (below_size (by repeat (first | (with_reducible first | exact HB.out | apply below_alloc | apply pw_below_drewN | apply below_drew1 | refine below_set ?_ GE139.out) | exact HB.out)))); have n1_ := Aside0.mk (blk_below (g := gb139) (o := .cells #[.string a0_0, .string a0_1, .string a0_2, .string a0_3, .string a0_4, .string a0_5, .int .i64 a0_6, .slice A0_7 l0_7.length c0_7] 24 (0, 0)) (by (with_reducible repeat (first | refine blk_drewN ?_ _ | refine blk_drew ?_ | refine blk_alloc ?_ _)); exact BK139.out) hb); have n2_ := Aside0.mk (below_step (by repeat (first | (with_reducible first | exact HB.out | apply below_alloc | apply pw_below_drewN | apply below_drew1 | refine below_set ?_ GE139.out) | exact HB.out)) hb); clear BK139; clear HB; have HO144 := n0_; have BK139 := n1_; have HB := n2_; clear n0_ n1_ n2_; (try clear hb); (try clear hb2); (try clear hk); (try clear hi); (try clear ho0)))
     (try simp only [Act.put, List.setIfInBounds_toArray, List.set_cons_zero, List.set_cons_succ])
     go_cut [86] (fun v86 wc => ∃ (kq : Nat) (x86_34 : Bool), v86 = .bool x86_34 ∧ Aside0 (supercargolaw19_OrderMore.j1 kq l1 l2 a3 a4 t142 t145 x86_34 a0_0 a0_1 a0_2 a0_3 a0_4 a0_5 a0_6 l0_7 = some r) ∧ Aside0 (kq ≤ kj7) ∧ Aside0 (Kd.S k42 42 wc w.heap.size (fun _ => True) v143 t142) ∧ Aside0 (wc.heap[gb139]? = some (.cells #[.string a0_0, .string a0_1, .string a0_2, .string a0_3, .string a0_4, .string a0_5, .int .i64 a0_6, (.slice A0_7 l0_7.length c0_7)] 24 (0, 0))) ∧ Aside0 (Below w.heap.size w wc))
     case first =>
      have H := HC35.out
      clear HC35
      by_cases c38 : t145 = 0
      ·rw [if_pos c38] at H
       have c38b0 : (t145 == 0) = true := beq_iff_eq.mpr c38
       have c38b1 : (t145 != 0) = false := bne_eq_false_iff_eq.mpr c38
       clear c38
       (first | rw [c38b0] | (simp only [i64_w, i32_w]; rw [c38b0]) | skip)
       by_cases c39 : 0 ≤ a3
       ·rw [if_pos c39] at H
        have c39b0 : decide (0 ≤ a3) = true := decide_eq_true c39
        clear c39
        by_cases c40 : a3 < (l2.length : Int)
        ·rw [if_pos c40] at H
         have c40b0 : decide (a3 < (l2.length : Int)) = true := decide_eq_true c40
         clear c40
         by_cases c41 : ((rd_L5 l2 a3).length : Int) = (l0_7.length : Int)
         ·rw [if_pos c41] at H
          have c41b0 : (((rd_L5 l2 a3).length : Int) == (l0_7.length : Int)) = true := beq_iff_eq.mpr c41
          have c41b1 : (((rd_L5 l2 a3).length : Int) != (l0_7.length : Int)) = false := bne_eq_false_iff_eq.mpr c41
          have c41b2 : ((rd_L5 l2 a3).length == l0_7.length) = true := by first | simpa using c41 | (simp at c41 ⊢; omega)
          clear c41
          have H' := Aside0.mk H
          clear H
          try go_wp2
          have n0_ := Aside0.mk (Kd.S_drew HO144.out)
          have n1_ := Aside0.mk (blk_drew BK139.out)
          have n2_ := Aside0.mk (below_drew1 HB.out)
          clear HO144
          clear BK139
          clear HB
          have HO144 := n0_
          have BK139 := n1_
          have HB := n2_
          clear n0_ n1_ n2_
          have p146 : 0 ≤ (a3 : Int) := of_decide_eq_true (by first | (with_reducible assumption) | assumption)
          have q146 : a3 < (l2.length : Int) := of_decide_eq_true (by first | (with_reducible assumption) | assumption)
          obtain ⟨ad146, A146_0, c146_0, e146, hx146_0, hl146_0, hi146_0⟩ := at_L5 HR2.out a3 p146 q146
          have hw146_0 := hx146_0
          cases e146
          replace hx146_0 := (HB.out.cell (World.block_lt_of_cell? w _ hx146_0)).trans hx146_0
          have HR146_0 := Aside0.mk hi146_0
          have HC146_0 := Aside0.mk hl146_0
          clear hi146_0 hl146_0
          replace p146 := eq_true p146
          replace q146 := eq_true q146
          obtain ⟨Ao43, co43, eo43⟩ := Kd.S_slice HO144.out
          (first | subst eo43 | (injection eo43 with f1_ f2_ f3_; have f4_ := f1_.symm; have f5_ := f3_.symm; clear f1_ f2_ f3_; subst f4_; subst f5_))
          refine start_ (n := 19) (S := fun w' => w'.cell? ⟨gb139, 0, none⟩ = some (.string a0_0) ∧ w'.cell? ⟨gb139, 1, none⟩ = some (.string a0_1) ∧ w'.cell? ⟨gb139, 2, none⟩ = some (.string a0_2) ∧ w'.cell? ⟨gb139, 3, none⟩ = some (.string a0_3) ∧ w'.cell? ⟨gb139, 4, none⟩ = some (.string a0_4) ∧ w'.cell? ⟨gb139, 5, none⟩ = some (.string a0_5) ∧ w'.cell? ⟨gb139, 6, none⟩ = some (.int .i64 a0_6) ∧ w'.cell? ⟨gb139, 7, none⟩ = some (.slice A0_7 l0_7.length c0_7) ∧ w'.cell? (ad146.add (a3).toNat) = some (.slice A146_0 (rd_L5 l2 a3).length c146_0)) (ds := []) #[F,F,F,F,F,F,F,F,F,F,F,F,F,F,F,F,F,F,F] (by kernel_rfl) rfl rfl ⟨(blk_cell BK139.out 0).trans rfl, (blk_cell BK139.out 1).trans rfl, (blk_cell BK139.out 2).trans rfl, (blk_cell BK139.out 3).trans rfl, (blk_cell BK139.out 4).trans rfl, (blk_cell BK139.out 5).trans rfl, (blk_cell BK139.out 6).trans rfl, (blk_cell BK139.out 7).trans rfl, ((HB.out.cell (World.block_lt_of_cell? w _ hw146_0)).trans hw146_0)⟩ (fun hHeld => ?_); refine with_tabW supercargolaw19_OrderMore.tab6 supercargolaw19_OrderMore.bits6 (fun HT_ HW_ => ?_)
          generalize w37.drew = w42 at HO144 BK139 HB HR146_0 hx146_0 hHeld ⊢
          refine pure_ (i := 0) (N := some 68) (v := ?_) (a' := ?_) #[T,F,F,F,F,F,F,F,F,F,F,F,F,F,F,F,F,F,F] rfl rfl (any_of HT_.out (by kernel_rfl)) (fun _ _ _ h => h) (Or.inl ⟨by rfl, ?_⟩) ?_ ?_
          rotate_left
          ·intro w'
           go_simp
           with_reducible rfl
          rotate_left
          ·simp only [Act.put, List.setIfInBounds_toArray, List.set_cons_zero, List.set_cons_succ, i64_w, i32_w]
           rfl
          refine pure_ (i := 1) (N := some 69) (v := ?_) (a' := ?_) #[T,T,F,F,F,F,F,F,F,F,F,F,F,F,F,F,F,F,F] rfl rfl (any_of HT_.out (by kernel_rfl)) (fun _ _ _ h => h) (Or.inl ⟨by rfl, ?_⟩) ?_ ?_
          rotate_left
          ·intro w'
           go_simp
           with_reducible rfl
          rotate_left
          ·simp only [Act.put, List.setIfInBounds_toArray, List.set_cons_zero, List.set_cons_succ, i64_w, i32_w]
           rfl
          refine pure_ (i := 2) (N := some 70) (v := ?_) (a' := ?_) #[T,T,T,F,F,F,F,F,F,F,F,F,F,F,F,F,F,F,F] rfl rfl (any_of HT_.out (by kernel_rfl)) (fun _ _ _ h => h) (Or.inl ⟨by rfl, ?_⟩) ?_ ?_
          rotate_left
          ·intro w'
           go_simp
           with_reducible rfl
          rotate_left
          ·simp only [Act.put, List.setIfInBounds_toArray, List.set_cons_zero, List.set_cons_succ, i64_w, i32_w]
           rfl
          refine pure_ (i := 3) (N := some 71) (v := ?_) (a' := ?_) #[T,T,T,T,F,F,F,F,F,F,F,F,F,F,F,F,F,F,F] rfl rfl (any_of HT_.out (by kernel_rfl)) (fun _ _ _ h => h) (Or.inl ⟨by rfl, ?_⟩) ?_ ?_
          rotate_left
          ·intro w'
           go_simp
           with_reducible rfl
          rotate_left
          ·simp only [Act.put, List.setIfInBounds_toArray, List.set_cons_zero, List.set_cons_succ, i64_w, i32_w]
           rfl
          refine pure_ (i := 4) (N := some 72) (v := ?_) (a' := ?_) #[T,T,T,T,T,F,F,F,F,F,F,F,F,F,F,F,F,F,F] rfl rfl (any_of HT_.out (by kernel_rfl)) (fun _ _ _ h => h) (Or.inl ⟨by rfl, ?_⟩) ?_ ?_
          rotate_left
          ·intro w'
           go_simp
           with_reducible rfl
          rotate_left
          ·simp only [Act.put, List.setIfInBounds_toArray, List.set_cons_zero, List.set_cons_succ, i64_w, i32_w]
           rfl
          refine pure_ (i := 5) (N := some 73) (v := ?_) (a' := ?_) #[T,T,T,T,T,T,F,F,F,F,F,F,F,F,F,F,F,F,F] rfl rfl (any_of HT_.out (by kernel_rfl)) (fun _ _ _ h => h) (Or.inl ⟨by rfl, ?_⟩) ?_ ?_
          rotate_left
          ·intro w'
           go_simp
           with_reducible rfl
          rotate_left
          ·simp only [Act.put, List.setIfInBounds_toArray, List.set_cons_zero, List.set_cons_succ, i64_w, i32_w]
           rfl
          refine pure_ (i := 8) (N := some 76) (v := ?_) (a' := ?_) #[T,T,T,T,T,T,F,F,T,F,F,F,F,F,F,F,F,F,F] rfl rfl (any_of HT_.out (by kernel_rfl)) (fun _ _ _ h => h) (Or.inl ⟨by rfl, ?_⟩) ?_ ?_
          rotate_left
          ·intro w'
           go_simp
           with_reducible rfl
          rotate_left
          ·simp only [Act.put, List.setIfInBounds_toArray, List.set_cons_zero, List.set_cons_succ, i64_w, i32_w]
           rfl
          refine take_ (i := 6) (N := some 74) (v := ?_) (a' := ?_) #[T,T,T,T,T,T,T,F,T,F,F,F,F,F,F,F,F,F,F] rfl rfl (take_ofW HT_.out HW_.out (by kernel_rfl)) (fun _ _ _ h => h) (Or.inl ⟨by rfl, ?_⟩) hHeld ?_ ?_
          rotate_left
          ·rintro w' ⟨s0, s1, s2, s3, s4, s5, s6, s7, s8⟩
           go_simp
           with_reducible rfl
          rotate_left
          ·simp only [Act.put, List.setIfInBounds_toArray, List.set_cons_zero, List.set_cons_succ, i64_w, i32_w]
           rfl
          refine pure_ (i := 7) (N := some 75) (v := ?_) (a' := ?_) #[T,T,T,T,T,T,T,T,T,F,F,F,F,F,F,F,F,F,F] rfl rfl (any_of HT_.out (by kernel_rfl)) (fun _ _ _ h => h) (Or.inl ⟨by rfl, ?_⟩) ?_ ?_
          rotate_left
          ·intro w'
           go_simp
           with_reducible rfl
          rotate_left
          ·simp only [Act.put, List.setIfInBounds_toArray, List.set_cons_zero, List.set_cons_succ, i64_w, i32_w]
           rfl
          refine take_ (i := 9) (N := some 77) (v := ?_) (a' := ?_) #[T,T,T,T,T,T,T,T,T,T,F,F,F,F,F,F,F,F,F] rfl rfl (take_ofW HT_.out HW_.out (by kernel_rfl)) (fun _ _ _ h => h) (Or.inl ⟨by rfl, ?_⟩) hHeld ?_ ?_
          rotate_left
          ·rintro w' ⟨s0, s1, s2, s3, s4, s5, s6, s7, s8⟩
           go_simp
           with_reducible rfl
          rotate_left
          ·simp only [Act.put, List.setIfInBounds_toArray, List.set_cons_zero, List.set_cons_succ, i64_w, i32_w]
           rfl
          refine pure_ (i := 10) (N := some 78) (v := ?_) (a' := ?_) #[T,T,T,T,T,T,T,T,T,T,T,F,F,F,F,F,F,F,F] rfl rfl (any_of HT_.out (by kernel_rfl)) (fun _ _ _ h => h) (Or.inl ⟨by rfl, ?_⟩) ?_ ?_
          rotate_left
          ·intro w'
           go_simp
           with_reducible rfl
          rotate_left
          ·simp only [Act.put, List.setIfInBounds_toArray, List.set_cons_zero, List.set_cons_succ, i64_w, i32_w]
           rfl
          refine pure_ (i := 11) (N := some 79) (v := ?_) (a' := ?_) #[T,T,T,T,T,T,T,T,T,T,T,T,F,F,F,F,F,F,F] rfl rfl (any_of HT_.out (by kernel_rfl)) (fun _ _ _ h => h) (Or.inl ⟨by rfl, ?_⟩) ?_ ?_
          rotate_left
          ·intro w'
           go_simp
           with_reducible rfl
          rotate_left
          ·simp only [Act.put, List.setIfInBounds_toArray, List.set_cons_zero, List.set_cons_succ, i64_w, i32_w]
           rfl
          refine pure_ (i := 12) (N := some 80) (v := ?_) (a' := ?_) #[T,T,T,T,T,T,T,T,T,T,T,T,T,F,F,F,F,F,F] rfl rfl (any_of HT_.out (by kernel_rfl)) (fun _ _ _ h => h) (Or.inl ⟨by rfl, ?_⟩) ?_ ?_
          rotate_left
          ·intro w'
           go_simp
           with_reducible rfl
          rotate_left
          ·simp only [Act.put, List.setIfInBounds_toArray, List.set_cons_zero, List.set_cons_succ, i64_w, i32_w]
           rfl
          refine pure_ (i := 13) (N := some 81) (v := ?_) (a' := ?_) #[T,T,T,T,T,T,T,T,T,T,T,T,T,T,F,F,F,F,F] rfl rfl (any_of HT_.out (by kernel_rfl)) (fun _ _ _ h => h) (Or.inl ⟨by rfl, ?_⟩) ?_ ?_
          rotate_left
          ·intro w'
           go_simp
           with_reducible rfl
          rotate_left
          ·simp only [Act.put, List.setIfInBounds_toArray, List.set_cons_zero, List.set_cons_succ, i64_w, i32_w]
           rfl
          refine pure_ (i := 14) (N := some 82) (v := ?_) (a' := ?_) #[T,T,T,T,T,T,T,T,T,T,T,T,T,T,T,F,F,F,F] rfl rfl (any_of HT_.out (by kernel_rfl)) (fun _ _ _ h => h) (Or.inl ⟨by rfl, ?_⟩) ?_ ?_
          rotate_left
          ·intro w'
           go_simp
           with_reducible rfl
          rotate_left
          ·simp only [Act.put, List.setIfInBounds_toArray, List.set_cons_zero, List.set_cons_succ, i64_w, i32_w]
           rfl
          refine pure_ (i := 15) (N := some 83) (v := ?_) (a' := ?_) #[T,T,T,T,T,T,T,T,T,T,T,T,T,T,T,T,F,F,F] rfl rfl (any_of HT_.out (by kernel_rfl)) (fun _ _ _ h => h) (Or.inl ⟨by rfl, ?_⟩) ?_ ?_
          rotate_left
          ·intro w'
           go_simp
           with_reducible rfl
          rotate_left
          ·simp only [Act.put, List.setIfInBounds_toArray, List.set_cons_zero, List.set_cons_succ, i64_w, i32_w]
           rfl
          refine pure_ (i := 16) (N := some 84) (v := ?_) (a' := ?_) #[T,T,T,T,T,T,T,T,T,T,T,T,T,T,T,T,T,F,F] rfl rfl (any_of HT_.out (by kernel_rfl)) (fun _ _ _ h => h) (Or.inl ⟨by rfl, ?_⟩) ?_ ?_
          rotate_left
          ·intro w'
           go_simp
           with_reducible rfl
          rotate_left
          ·simp only [Act.put, List.setIfInBounds_toArray, List.set_cons_zero, List.set_cons_succ, i64_w, i32_w]
           rfl
          refine pure_ (i := 17) (N := some 85) (v := ?_) (a' := ?_) #[T,T,T,T,T,T,T,T,T,T,T,T,T,T,T,T,T,T,F] rfl rfl (any_of HT_.out (by kernel_rfl)) (fun _ _ _ h => h) (Or.inl ⟨by rfl, ?_⟩) ?_ ?_
          rotate_left
          ·intro w'
           go_simp
           with_reducible rfl
          rotate_left
          ·simp only [Act.put, List.setIfInBounds_toArray, List.set_cons_zero, List.set_cons_succ, i64_w, i32_w]
           rfl
          refine pure_ (i := 18) (N := some 86) (v := ?_) (a' := ?_) #[T,T,T,T,T,T,T,T,T,T,T,T,T,T,T,T,T,T,T] rfl rfl (any_of HT_.out (by kernel_rfl)) (fun _ _ _ h => h) (Or.inl ⟨by rfl, ?_⟩) ?_ ?_
          rotate_left
          ·intro w'
           go_simp
           with_reducible rfl
          rotate_left
          ·simp only [Act.put, List.setIfInBounds_toArray, List.set_cons_zero, List.set_cons_succ, i64_w, i32_w]
           rfl
          refine done_ (done_of HT_.out (by kernel_rfl)) ?_
          try go_wp2
          go_meet
          case rel => exact ⟨_, (decide (a3 ≥ (t142.length : Int))), (by first | rfl | (simp; done) | (simp [*]; done)), H', ⟨by have := HJ7.out; first | omega | exact Nat.le_refl _⟩, ⟨by (with_reducible repeat (first | apply Kd.S_alloc | apply Kd.S_drewN | apply Kd.S_drew)); exact HO144.out⟩, ⟨by (with_reducible repeat (first | refine blk_drewN ?_ _ | refine blk_drew ?_ | refine blk_alloc ?_ _)); exact BK139.out⟩, ⟨by repeat (first | (with_reducible first | exact HB.out | apply below_alloc | apply pw_below_drewN | apply below_drew1 | refine below_set ?_ GE139.out) | exact HB.out)⟩⟩
         ·rw [if_neg c41] at H
          have c41b0 : (((rd_L5 l2 a3).length : Int) == (l0_7.length : Int)) = false := beq_eq_false_iff_ne.mpr c41
          have c41b1 : (((rd_L5 l2 a3).length : Int) != (l0_7.length : Int)) = true := bne_iff_ne.mpr c41
          have c41b2 : ((rd_L5 l2 a3).length == l0_7.length) = false := by first | simpa using c41 | (simp at c41 ⊢; omega)
          have H' := Aside0.mk H
          clear H
          try go_wp2
          have n0_ := Aside0.mk (Kd.S_drew HO144.out)
          have n1_ := Aside0.mk (blk_drew BK139.out)
          have n2_ := Aside0.mk (below_drew1 HB.out)
          clear HO144
          clear BK139
          clear HB
          have HO144 := n0_
          have BK139 := n1_
          have HB := n2_
          clear n0_ n1_ n2_
          have p146 : 0 ≤ (a3 : Int) := of_decide_eq_true (by first | (with_reducible assumption) | assumption)
          have q146 : a3 < (l2.length : Int) := of_decide_eq_true (by first | (with_reducible assumption) | assumption)
          obtain ⟨ad146, A146_0, c146_0, e146, hx146_0, hl146_0, hi146_0⟩ := at_L5 HR2.out a3 p146 q146
          have hw146_0 := hx146_0
          cases e146
          replace hx146_0 := (HB.out.cell (World.block_lt_of_cell? w _ hx146_0)).trans hx146_0
          have HR146_0 := Aside0.mk hi146_0
          have HC146_0 := Aside0.mk hl146_0
          clear hi146_0 hl146_0
          replace p146 := eq_true p146
          replace q146 := eq_true q146
          refine start_ (n := 19) (S := fun w' => w'.cell? ⟨gb139, 0, none⟩ = some (.string a0_0) ∧ w'.cell? ⟨gb139, 1, none⟩ = some (.string a0_1) ∧ w'.cell? ⟨gb139, 2, none⟩ = some (.string a0_2) ∧ w'.cell? ⟨gb139, 3, none⟩ = some (.string a0_3) ∧ w'.cell? ⟨gb139, 4, none⟩ = some (.string a0_4) ∧ w'.cell? ⟨gb139, 5, none⟩ = some (.string a0_5) ∧ w'.cell? ⟨gb139, 6, none⟩ = some (.int .i64 a0_6) ∧ w'.cell? ⟨gb139, 7, none⟩ = some (.slice A0_7 l0_7.length c0_7) ∧ w'.cell? (ad146.add (a3).toNat) = some (.slice A146_0 (rd_L5 l2 a3).length c146_0)) (ds := []) #[F,F,F,F,F,F,F,F,F,F,F,F,F,F,F,F,F,F,F] (by kernel_rfl) rfl rfl ⟨(blk_cell BK139.out 0).trans rfl, (blk_cell BK139.out 1).trans rfl, (blk_cell BK139.out 2).trans rfl, (blk_cell BK139.out 3).trans rfl, (blk_cell BK139.out 4).trans rfl, (blk_cell BK139.out 5).trans rfl, (blk_cell BK139.out 6).trans rfl, (blk_cell BK139.out 7).trans rfl, ((HB.out.cell (World.block_lt_of_cell? w _ hw146_0)).trans hw146_0)⟩ (fun hHeld => ?_); refine with_tabW supercargolaw19_OrderMore.tab6 supercargolaw19_OrderMore.bits6 (fun HT_ HW_ => ?_)
          generalize w37.drew = w44 at HO144 BK139 HB HR146_0 hx146_0 hHeld ⊢
          refine pure_ (i := 0) (N := some 68) (v := ?_) (a' := ?_) #[T,F,F,F,F,F,F,F,F,F,F,F,F,F,F,F,F,F,F] rfl rfl (any_of HT_.out (by kernel_rfl)) (fun _ _ _ h => h) (Or.inl ⟨by rfl, ?_⟩) ?_ ?_
          rotate_left
          ·intro w'
           go_simp
           with_reducible rfl
          rotate_left
          ·simp only [Act.put, List.setIfInBounds_toArray, List.set_cons_zero, List.set_cons_succ, i64_w, i32_w]
           rfl
          refine pure_ (i := 1) (N := some 69) (v := ?_) (a' := ?_) #[T,T,F,F,F,F,F,F,F,F,F,F,F,F,F,F,F,F,F] rfl rfl (any_of HT_.out (by kernel_rfl)) (fun _ _ _ h => h) (Or.inl ⟨by rfl, ?_⟩) ?_ ?_
          rotate_left
          ·intro w'
           go_simp
           with_reducible rfl
          rotate_left
          ·simp only [Act.put, List.setIfInBounds_toArray, List.set_cons_zero, List.set_cons_succ, i64_w, i32_w]
           rfl
          refine pure_ (i := 2) (N := some 70) (v := ?_) (a' := ?_) #[T,T,T,F,F,F,F,F,F,F,F,F,F,F,F,F,F,F,F] rfl rfl (any_of HT_.out (by kernel_rfl)) (fun _ _ _ h => h) (Or.inl ⟨by rfl, ?_⟩) ?_ ?_
          rotate_left
          ·intro w'
           go_simp
           with_reducible rfl
          rotate_left
          ·simp only [Act.put, List.setIfInBounds_toArray, List.set_cons_zero, List.set_cons_succ, i64_w, i32_w]
           rfl
          refine pure_ (i := 3) (N := some 71) (v := ?_) (a' := ?_) #[T,T,T,T,F,F,F,F,F,F,F,F,F,F,F,F,F,F,F] rfl rfl (any_of HT_.out (by kernel_rfl)) (fun _ _ _ h => h) (Or.inl ⟨by rfl, ?_⟩) ?_ ?_
          rotate_left
          ·intro w'
           go_simp
           with_reducible rfl
          rotate_left
          ·simp only [Act.put, List.setIfInBounds_toArray, List.set_cons_zero, List.set_cons_succ, i64_w, i32_w]
           rfl
          refine pure_ (i := 4) (N := some 72) (v := ?_) (a' := ?_) #[T,T,T,T,T,F,F,F,F,F,F,F,F,F,F,F,F,F,F] rfl rfl (any_of HT_.out (by kernel_rfl)) (fun _ _ _ h => h) (Or.inl ⟨by rfl, ?_⟩) ?_ ?_
          rotate_left
          ·intro w'
           go_simp
           with_reducible rfl
          rotate_left
          ·simp only [Act.put, List.setIfInBounds_toArray, List.set_cons_zero, List.set_cons_succ, i64_w, i32_w]
           rfl
          refine pure_ (i := 5) (N := some 73) (v := ?_) (a' := ?_) #[T,T,T,T,T,T,F,F,F,F,F,F,F,F,F,F,F,F,F] rfl rfl (any_of HT_.out (by kernel_rfl)) (fun _ _ _ h => h) (Or.inl ⟨by rfl, ?_⟩) ?_ ?_
          rotate_left
          ·intro w'
           go_simp
           with_reducible rfl
          rotate_left
          ·simp only [Act.put, List.setIfInBounds_toArray, List.set_cons_zero, List.set_cons_succ, i64_w, i32_w]
           rfl
          refine pure_ (i := 8) (N := some 76) (v := ?_) (a' := ?_) #[T,T,T,T,T,T,F,F,T,F,F,F,F,F,F,F,F,F,F] rfl rfl (any_of HT_.out (by kernel_rfl)) (fun _ _ _ h => h) (Or.inl ⟨by rfl, ?_⟩) ?_ ?_
          rotate_left
          ·intro w'
           go_simp
           with_reducible rfl
          rotate_left
          ·simp only [Act.put, List.setIfInBounds_toArray, List.set_cons_zero, List.set_cons_succ, i64_w, i32_w]
           rfl
          refine take_ (i := 6) (N := some 74) (v := ?_) (a' := ?_) #[T,T,T,T,T,T,T,F,T,F,F,F,F,F,F,F,F,F,F] rfl rfl (take_ofW HT_.out HW_.out (by kernel_rfl)) (fun _ _ _ h => h) (Or.inl ⟨by rfl, ?_⟩) hHeld ?_ ?_
          rotate_left
          ·rintro w' ⟨s0, s1, s2, s3, s4, s5, s6, s7, s8⟩
           go_simp
           with_reducible rfl
          rotate_left
          ·simp only [Act.put, List.setIfInBounds_toArray, List.set_cons_zero, List.set_cons_succ, i64_w, i32_w]
           rfl
          refine pure_ (i := 7) (N := some 75) (v := ?_) (a' := ?_) #[T,T,T,T,T,T,T,T,T,F,F,F,F,F,F,F,F,F,F] rfl rfl (any_of HT_.out (by kernel_rfl)) (fun _ _ _ h => h) (Or.inl ⟨by rfl, ?_⟩) ?_ ?_
          rotate_left
          ·intro w'
           go_simp
           with_reducible rfl
          rotate_left
          ·simp only [Act.put, List.setIfInBounds_toArray, List.set_cons_zero, List.set_cons_succ, i64_w, i32_w]
           rfl
          refine take_ (i := 9) (N := some 77) (v := ?_) (a' := ?_) #[T,T,T,T,T,T,T,T,T,T,F,F,F,F,F,F,F,F,F] rfl rfl (take_ofW HT_.out HW_.out (by kernel_rfl)) (fun _ _ _ h => h) (Or.inl ⟨by rfl, ?_⟩) hHeld ?_ ?_
          rotate_left
          ·rintro w' ⟨s0, s1, s2, s3, s4, s5, s6, s7, s8⟩
           go_simp
           with_reducible rfl
          rotate_left
          ·simp only [Act.put, List.setIfInBounds_toArray, List.set_cons_zero, List.set_cons_succ, i64_w, i32_w]
           rfl
          refine pure_ (i := 10) (N := some 78) (v := ?_) (a' := ?_) #[T,T,T,T,T,T,T,T,T,T,T,F,F,F,F,F,F,F,F] rfl rfl (any_of HT_.out (by kernel_rfl)) (fun _ _ _ h => h) (Or.inl ⟨by rfl, ?_⟩) ?_ ?_
          rotate_left
          ·intro w'
           go_simp
           with_reducible rfl
          rotate_left
          ·simp only [Act.put, List.setIfInBounds_toArray, List.set_cons_zero, List.set_cons_succ, i64_w, i32_w]
           rfl
          refine pure_ (i := 11) (N := some 79) (v := ?_) (a' := ?_) #[T,T,T,T,T,T,T,T,T,T,T,T,F,F,F,F,F,F,F] rfl rfl (any_of HT_.out (by kernel_rfl)) (fun _ _ _ h => h) (Or.inl ⟨by rfl, ?_⟩) ?_ ?_
          rotate_left
          ·intro w'
           go_simp
           with_reducible rfl
          rotate_left
          ·simp only [Act.put, List.setIfInBounds_toArray, List.set_cons_zero, List.set_cons_succ, i64_w, i32_w]
           rfl
          refine pure_ (i := 12) (N := some 80) (v := ?_) (a' := ?_) #[T,T,T,T,T,T,T,T,T,T,T,T,T,F,F,F,F,F,F] rfl rfl (any_of HT_.out (by kernel_rfl)) (fun _ _ _ h => h) (Or.inl ⟨by rfl, ?_⟩) ?_ ?_
          rotate_left
          ·intro w'
           go_simp
           with_reducible rfl
          rotate_left
          ·simp only [Act.put, List.setIfInBounds_toArray, List.set_cons_zero, List.set_cons_succ, i64_w, i32_w]
           rfl
          refine pure_ (i := 13) (N := some 81) (v := ?_) (a' := ?_) #[T,T,T,T,T,T,T,T,T,T,T,T,T,T,F,F,F,F,F] rfl rfl (any_of HT_.out (by kernel_rfl)) (fun _ _ _ h => h) (Or.inl ⟨by rfl, ?_⟩) ?_ ?_
          rotate_left
          ·intro w'
           go_simp
           with_reducible rfl
          rotate_left
          ·simp only [Act.put, List.setIfInBounds_toArray, List.set_cons_zero, List.set_cons_succ, i64_w, i32_w]
           rfl
          refine pure_ (i := 14) (N := some 82) (v := undef) (a' := ?_) #[T,T,T,T,T,T,T,T,T,T,T,T,T,T,T,F,F,F,F] rfl rfl (any_of HT_.out (by kernel_rfl)) (fun _ _ _ h => h) (Or.inr ⟨by rfl, rfl⟩) ?_ ?_
          rotate_left
          ·simp only [Act.put, List.setIfInBounds_toArray, List.set_cons_zero, List.set_cons_succ, i64_w, i32_w]
           rfl
          refine pure_ (i := 15) (N := some 83) (v := undef) (a' := ?_) #[T,T,T,T,T,T,T,T,T,T,T,T,T,T,T,T,F,F,F] rfl rfl (any_of HT_.out (by kernel_rfl)) (fun _ _ _ h => h) (Or.inr ⟨by rfl, rfl⟩) ?_ ?_
          rotate_left
          ·simp only [Act.put, List.setIfInBounds_toArray, List.set_cons_zero, List.set_cons_succ, i64_w, i32_w]
           rfl
          refine pure_ (i := 16) (N := some 84) (v := undef) (a' := ?_) #[T,T,T,T,T,T,T,T,T,T,T,T,T,T,T,T,T,F,F] rfl rfl (any_of HT_.out (by kernel_rfl)) (fun _ _ _ h => h) (Or.inr ⟨by rfl, rfl⟩) ?_ ?_
          rotate_left
          ·simp only [Act.put, List.setIfInBounds_toArray, List.set_cons_zero, List.set_cons_succ, i64_w, i32_w]
           rfl
          refine pure_ (i := 17) (N := some 85) (v := undef) (a' := ?_) #[T,T,T,T,T,T,T,T,T,T,T,T,T,T,T,T,T,T,F] rfl rfl (any_of HT_.out (by kernel_rfl)) (fun _ _ _ h => h) (Or.inr ⟨by rfl, rfl⟩) ?_ ?_
          rotate_left
          ·simp only [Act.put, List.setIfInBounds_toArray, List.set_cons_zero, List.set_cons_succ, i64_w, i32_w]
           rfl
          refine pure_ (i := 18) (N := some 86) (v := ?_) (a' := ?_) #[T,T,T,T,T,T,T,T,T,T,T,T,T,T,T,T,T,T,T] rfl rfl (any_of HT_.out (by kernel_rfl)) (fun _ _ _ h => h) (Or.inl ⟨by rfl, ?_⟩) ?_ ?_
          rotate_left
          ·intro w'
           go_simp
           with_reducible rfl
          rotate_left
          ·simp only [Act.put, List.setIfInBounds_toArray, List.set_cons_zero, List.set_cons_succ, i64_w, i32_w]
           rfl
          refine done_ (done_of HT_.out (by kernel_rfl)) ?_
          try go_wp2
          go_meet
          case rel => exact ⟨_, (true), (by first | rfl | (simp; done) | (simp [*]; done)), H', ⟨by have := HJ7.out; first | omega | exact Nat.le_refl _⟩, ⟨by (with_reducible repeat (first | apply Kd.S_alloc | apply Kd.S_drewN | apply Kd.S_drew)); exact HO144.out⟩, ⟨by (with_reducible repeat (first | refine blk_drewN ?_ _ | refine blk_drew ?_ | refine blk_alloc ?_ _)); exact BK139.out⟩, ⟨by repeat (first | (with_reducible first | exact HB.out | apply below_alloc | apply pw_below_drewN | apply below_drew1 | refine below_set ?_ GE139.out) | exact HB.out)⟩⟩
        ·rw [if_neg c40] at H
         exact absurd H (by simp)
       ·rw [if_neg c39] at H
        exact absurd H (by simp)
      ·rw [if_neg c38] at H
       have c38b0 : (t145 == 0) = false := beq_eq_false_iff_ne.mpr c38
       have c38b1 : (t145 != 0) = true := bne_iff_ne.mpr c38
       (first | rw [c38b0] | (simp only [i64_w, i32_w]; rw [c38b0]) | skip)
       have H' := Aside0.mk H
       clear H
       try go_wp2
       have n0_ := Aside0.mk (Kd.S_drew HO144.out)
       have n1_ := Aside0.mk (blk_drew BK139.out)
       have n2_ := Aside0.mk (below_drew1 HB.out)
       clear HO144
       clear BK139
       clear HB
       have HO144 := n0_
       have BK139 := n1_
       have HB := n2_
       clear n0_ n1_ n2_
       refine start_ (n := 19) (S := fun w' => True) (ds := []) #[F,F,F,F,F,F,F,F,F,F,F,F,F,F,F,F,F,F,F] (by kernel_rfl) rfl rfl trivial (fun hHeld => ?_); refine with_tabW supercargolaw19_OrderMore.tab6 supercargolaw19_OrderMore.bits6 (fun HT_ HW_ => ?_)
       generalize w37.drew = w45 at HO144 BK139 HB hHeld ⊢
       refine pure_ (i := 0) (N := some 68) (v := ?_) (a' := ?_) #[T,F,F,F,F,F,F,F,F,F,F,F,F,F,F,F,F,F,F] rfl rfl (any_of HT_.out (by kernel_rfl)) (fun _ _ _ h => h) (Or.inl ⟨by rfl, ?_⟩) ?_ ?_
       rotate_left
       ·intro w'
        go_simp
        with_reducible rfl
       rotate_left
       ·simp only [Act.put, List.setIfInBounds_toArray, List.set_cons_zero, List.set_cons_succ, i64_w, i32_w]
        rfl
       refine pure_ (i := 1) (N := some 69) (v := ?_) (a' := ?_) #[T,T,F,F,F,F,F,F,F,F,F,F,F,F,F,F,F,F,F] rfl rfl (any_of HT_.out (by kernel_rfl)) (fun _ _ _ h => h) (Or.inl ⟨by rfl, ?_⟩) ?_ ?_
       rotate_left
       ·intro w'
        go_simp
        with_reducible rfl
       rotate_left
       ·simp only [Act.put, List.setIfInBounds_toArray, List.set_cons_zero, List.set_cons_succ, i64_w, i32_w]
        rfl
       refine pure_ (i := 2) (N := some 70) (v := ?_) (a' := ?_) #[T,T,T,F,F,F,F,F,F,F,F,F,F,F,F,F,F,F,F] rfl rfl (any_of HT_.out (by kernel_rfl)) (fun _ _ _ h => h) (Or.inl ⟨by rfl, ?_⟩) ?_ ?_
       rotate_left
       ·intro w'
        go_simp
        with_reducible rfl
       rotate_left
       ·simp only [Act.put, List.setIfInBounds_toArray, List.set_cons_zero, List.set_cons_succ, i64_w, i32_w]
        rfl
       refine pure_ (i := 3) (N := some 71) (v := undef) (a' := ?_) #[T,T,T,T,F,F,F,F,F,F,F,F,F,F,F,F,F,F,F] rfl rfl (any_of HT_.out (by kernel_rfl)) (fun _ _ _ h => h) (Or.inr ⟨by rfl, rfl⟩) ?_ ?_
       rotate_left
       ·simp only [Act.put, List.setIfInBounds_toArray, List.set_cons_zero, List.set_cons_succ, i64_w, i32_w]
        rfl
       refine pure_ (i := 4) (N := some 72) (v := undef) (a' := ?_) #[T,T,T,T,T,F,F,F,F,F,F,F,F,F,F,F,F,F,F] rfl rfl (any_of HT_.out (by kernel_rfl)) (fun _ _ _ h => h) (Or.inr ⟨by rfl, rfl⟩) ?_ ?_
       rotate_left
       ·simp only [Act.put, List.setIfInBounds_toArray, List.set_cons_zero, List.set_cons_succ, i64_w, i32_w]
        rfl
       refine pure_ (i := 5) (N := some 73) (v := undef) (a' := ?_) #[T,T,T,T,T,T,F,F,F,F,F,F,F,F,F,F,F,F,F] rfl rfl (any_of HT_.out (by kernel_rfl)) (fun _ _ _ h => h) (Or.inr ⟨by rfl, rfl⟩) ?_ ?_
       rotate_left
       ·simp only [Act.put, List.setIfInBounds_toArray, List.set_cons_zero, List.set_cons_succ, i64_w, i32_w]
        rfl
       refine pure_ (i := 6) (N := some 74) (v := undef) (a' := ?_) #[T,T,T,T,T,T,T,F,F,F,F,F,F,F,F,F,F,F,F] rfl rfl (any_of HT_.out (by kernel_rfl)) (fun _ _ _ h => h) (Or.inr ⟨by rfl, rfl⟩) ?_ ?_
       rotate_left
       ·simp only [Act.put, List.setIfInBounds_toArray, List.set_cons_zero, List.set_cons_succ, i64_w, i32_w]
        rfl
       refine pure_ (i := 7) (N := some 75) (v := undef) (a' := ?_) #[T,T,T,T,T,T,T,T,F,F,F,F,F,F,F,F,F,F,F] rfl rfl (any_of HT_.out (by kernel_rfl)) (fun _ _ _ h => h) (Or.inr ⟨by rfl, rfl⟩) ?_ ?_
       rotate_left
       ·simp only [Act.put, List.setIfInBounds_toArray, List.set_cons_zero, List.set_cons_succ, i64_w, i32_w]
        rfl
       refine pure_ (i := 8) (N := some 76) (v := undef) (a' := ?_) #[T,T,T,T,T,T,T,T,T,F,F,F,F,F,F,F,F,F,F] rfl rfl (any_of HT_.out (by kernel_rfl)) (fun _ _ _ h => h) (Or.inr ⟨by rfl, rfl⟩) ?_ ?_
       rotate_left
       ·simp only [Act.put, List.setIfInBounds_toArray, List.set_cons_zero, List.set_cons_succ, i64_w, i32_w]
        rfl
       refine pure_ (i := 9) (N := some 77) (v := undef) (a' := ?_) #[T,T,T,T,T,T,T,T,T,T,F,F,F,F,F,F,F,F,F] rfl rfl (any_of HT_.out (by kernel_rfl)) (fun _ _ _ h => h) (Or.inr ⟨by rfl, rfl⟩) ?_ ?_
       rotate_left
       ·simp only [Act.put, List.setIfInBounds_toArray, List.set_cons_zero, List.set_cons_succ, i64_w, i32_w]
        rfl
       refine pure_ (i := 10) (N := some 78) (v := undef) (a' := ?_) #[T,T,T,T,T,T,T,T,T,T,T,F,F,F,F,F,F,F,F] rfl rfl (any_of HT_.out (by kernel_rfl)) (fun _ _ _ h => h) (Or.inr ⟨by rfl, rfl⟩) ?_ ?_
       rotate_left
       ·simp only [Act.put, List.setIfInBounds_toArray, List.set_cons_zero, List.set_cons_succ, i64_w, i32_w]
        rfl
       refine pure_ (i := 11) (N := some 79) (v := undef) (a' := ?_) #[T,T,T,T,T,T,T,T,T,T,T,T,F,F,F,F,F,F,F] rfl rfl (any_of HT_.out (by kernel_rfl)) (fun _ _ _ h => h) (Or.inr ⟨by rfl, rfl⟩) ?_ ?_
       rotate_left
       ·simp only [Act.put, List.setIfInBounds_toArray, List.set_cons_zero, List.set_cons_succ, i64_w, i32_w]
        rfl
       refine pure_ (i := 12) (N := some 80) (v := ?_) (a' := ?_) #[T,T,T,T,T,T,T,T,T,T,T,T,T,F,F,F,F,F,F] rfl rfl (any_of HT_.out (by kernel_rfl)) (fun _ _ _ h => h) (Or.inl ⟨by rfl, ?_⟩) ?_ ?_
       rotate_left
       ·intro w'
        go_simp
        with_reducible rfl
       rotate_left
       ·simp only [Act.put, List.setIfInBounds_toArray, List.set_cons_zero, List.set_cons_succ, i64_w, i32_w]
        rfl
       refine pure_ (i := 13) (N := some 81) (v := ?_) (a' := ?_) #[T,T,T,T,T,T,T,T,T,T,T,T,T,T,F,F,F,F,F] rfl rfl (any_of HT_.out (by kernel_rfl)) (fun _ _ _ h => h) (Or.inl ⟨by rfl, ?_⟩) ?_ ?_
       rotate_left
       ·intro w'
        go_simp
        with_reducible rfl
       rotate_left
       ·simp only [Act.put, List.setIfInBounds_toArray, List.set_cons_zero, List.set_cons_succ, i64_w, i32_w]
        rfl
       refine pure_ (i := 14) (N := some 82) (v := undef) (a' := ?_) #[T,T,T,T,T,T,T,T,T,T,T,T,T,T,T,F,F,F,F] rfl rfl (any_of HT_.out (by kernel_rfl)) (fun _ _ _ h => h) (Or.inr ⟨by rfl, rfl⟩) ?_ ?_
       rotate_left
       ·simp only [Act.put, List.setIfInBounds_toArray, List.set_cons_zero, List.set_cons_succ, i64_w, i32_w]
        rfl
       refine pure_ (i := 15) (N := some 83) (v := undef) (a' := ?_) #[T,T,T,T,T,T,T,T,T,T,T,T,T,T,T,T,F,F,F] rfl rfl (any_of HT_.out (by kernel_rfl)) (fun _ _ _ h => h) (Or.inr ⟨by rfl, rfl⟩) ?_ ?_
       rotate_left
       ·simp only [Act.put, List.setIfInBounds_toArray, List.set_cons_zero, List.set_cons_succ, i64_w, i32_w]
        rfl
       refine pure_ (i := 16) (N := some 84) (v := undef) (a' := ?_) #[T,T,T,T,T,T,T,T,T,T,T,T,T,T,T,T,T,F,F] rfl rfl (any_of HT_.out (by kernel_rfl)) (fun _ _ _ h => h) (Or.inr ⟨by rfl, rfl⟩) ?_ ?_
       rotate_left
       ·simp only [Act.put, List.setIfInBounds_toArray, List.set_cons_zero, List.set_cons_succ, i64_w, i32_w]
        rfl
       refine pure_ (i := 17) (N := some 85) (v := undef) (a' := ?_) #[T,T,T,T,T,T,T,T,T,T,T,T,T,T,T,T,T,T,F] rfl rfl (any_of HT_.out (by kernel_rfl)) (fun _ _ _ h => h) (Or.inr ⟨by rfl, rfl⟩) ?_ ?_
       rotate_left
       ·simp only [Act.put, List.setIfInBounds_toArray, List.set_cons_zero, List.set_cons_succ, i64_w, i32_w]
        rfl
       refine pure_ (i := 18) (N := some 86) (v := ?_) (a' := ?_) #[T,T,T,T,T,T,T,T,T,T,T,T,T,T,T,T,T,T,T] rfl rfl (any_of HT_.out (by kernel_rfl)) (fun _ _ _ h => h) (Or.inl ⟨by rfl, ?_⟩) ?_ ?_
       rotate_left
       ·intro w'
        go_simp
        with_reducible rfl
       rotate_left
       ·simp only [Act.put, List.setIfInBounds_toArray, List.set_cons_zero, List.set_cons_succ, i64_w, i32_w]
        rfl
       refine done_ (done_of HT_.out (by kernel_rfl)) ?_
       try go_wp2
       go_meet
       case rel => exact ⟨_, (true), (by first | rfl | (simp; done) | (simp [*]; done)), H', ⟨by have := HJ7.out; first | omega | exact Nat.le_refl _⟩, ⟨by (with_reducible repeat (first | apply Kd.S_alloc | apply Kd.S_drewN | apply Kd.S_drew)); exact HO144.out⟩, ⟨by (with_reducible repeat (first | refine blk_drewN ?_ _ | refine blk_drew ?_ | refine blk_alloc ?_ _)); exact BK139.out⟩, ⟨by repeat (first | (with_reducible first | exact HB.out | apply below_alloc | apply pw_below_drewN | apply below_drew1 | refine below_set ?_ GE139.out) | exact HB.out)⟩⟩
     case rest =>
      clear HC35
      try clear c1
      try clear p1
      try clear q1
      try clear hx1
      try clear c2
      try clear p2
      try clear c3
      try clear c4
      try clear c14
      try clear p14
      try clear q14
      try clear hx14
      try clear c19
      try clear c33
      try clear c38
      try clear c38b0
      try clear c38b1
      try clear c39
      try clear c39b0
      try clear c40
      try clear c40b0
      try clear c41
      try clear c41b0
      try clear c41b1
      try clear c41b2
      try clear hcz36_0
      try clear hcz36_1
      try clear hcz36_2
      try clear hcz36_3
      try clear hcz36_4
      try clear hcz36_5
      try clear hcz36_6
      try clear hcz36_7
      try clear hfz20_3
      try clear hfz20_4
      try clear hfz20_5
      try clear hfz20_6
      try clear hfz20_7
      try clear hfz23_0
      try clear hfz23_1
      try clear hfz23_2
      try clear hfz23_3
      try clear hfz23_4
      try clear hfz23_5
      try clear hfz23_6
      try clear hfz23_7
      try clear hfz26_0
      try clear hfz26_1
      try clear hfz26_2
      try clear hfz26_3
      try clear hfz26_4
      try clear hfz26_5
      try clear hfz26_6
      try clear hfz26_7
      try clear hfz28_0
      try clear hfz28_1
      try clear hfz28_2
      try clear hfz28_3
      try clear hfz28_4
      try clear hfz28_5
      try clear hfz28_6
      try clear hfz28_7
      try clear hfz30_0
      try clear hfz30_1
      try clear hfz30_2
      try clear hfz30_3
      try clear hfz30_4
      try clear hfz30_5
      try clear hfz30_6
      try clear hfz30_7
      try clear hfz31_0
      try clear hfz31_1
      try clear hfz31_2
      try clear hfz31_3
      try clear hfz31_4
      try clear hfz31_5
      try clear hfz31_6
      try clear hfz31_7
      try clear hfz36_0
      try clear hfz36_1
      try clear hfz36_2
      try clear hfz36_3
      try clear hfz36_4
      try clear hfz36_5
      try clear hfz36_6
      try clear hfz36_7
      try clear hx146_0
      try clear p146
      try clear q146
      obtain ⟨kq, x86_34, rfl, HA, HJ34, HO_11, BK139, HB⟩ := hcut
      cases kq with
      | zero => exact absurd HA.out (by simp [supercargolaw19_OrderMore.j1])
      | succ kj34 =>
       have H := HA.out
       clear HA
       simp only [supercargolaw19_OrderMore.j1] at H
       by_cases c46 : x86_34 = true
       ·subst c46
        have H1 : (some (t145 != 0)) = some r := by rw [if_pos rfl] at H; exact H
        clear H
        have H := H1
        clear H1
        clear hT; obtain rfl := Option.some.inj H
        go_wp2
        go_ret
        exact ⟨by first | rfl | (simp [errW_none, errW_some] <;> rfl) | (simp [*, errW_none, errW_some] <;> rfl), by repeat (first | (with_reducible first | exact HB.out | apply below_alloc | apply pw_below_drewN | apply below_drew1 | refine below_set ?_ GE139.out) | exact HB.out)⟩
       ·replace c46 := Bool.eq_false_iff.mpr c46
        subst c46
        have H1 : (supercargolaw19_OrderMore.l0 kj34 l1 l2 a3 a4 t142 ([] : List (List Int)) 0 a0_0 a0_1 a0_2 a0_3 a0_4 a0_5 a0_6 l0_7) = some r := by rw [if_neg (show ¬ (false = true) by decide)] at H; exact H
        clear H
        have H := H1
        clear H1
        have H' := Aside0.mk H
        clear H
        go_wp2
        go_loopg [13, 14] kj34 (fun kq v13 v14 w' => ∃ (x13_3 : List (List Int)) (x14_3 : Int), v14 = .int .i64 x14_3 ∧ Aside0 (supercargolaw19_OrderMore.l0 kq l1 l2 a3 a4 t142 x13_3 x14_3 a0_0 a0_1 a0_2 a0_3 a0_4 a0_5 a0_6 l0_7 = some r) ∧ Aside0 (kq ≤ kj34) ∧ Aside0 (Kd.S k42 42 w' w.heap.size (fun _ => True) v143 t142) ∧ Aside0 (Kd.S (Kd.slice 3 (Kd.int .i64)) 32 w' w.heap.size (fun _ => True) v13 x13_3) ∧ Aside0 (w'.heap[gb139]? = some (.cells #[.string a0_0, .string a0_1, .string a0_2, .string a0_3, .string a0_4, .string a0_5, .int .i64 a0_6, (.slice A0_7 l0_7.length c0_7)] 24 (0, 0))) ∧ Aside0 (Below w.heap.size w w'))
        case atStart => exact ⟨(([] : List (List Int))), (0), (by first | rfl | (simp; done) | (simp [*]; done)), H', ⟨Nat.le_refl _⟩, ⟨by (with_reducible repeat (first | apply Kd.S_alloc | apply Kd.S_drewN | apply Kd.S_drew)); exact HO_11.out⟩, ⟨by first | exact Kd.S_nil _ _ _ _ _ | exact Kd.N_nil _ _ _ _ _ | exact Kd.V_nil _ _ _ _ _ | exact Kd.Q_nil _ _ _ _ _ | exact Kd.R_nil _ _ _ _ _⟩, ⟨by (with_reducible repeat (first | refine blk_drewN ?_ _ | refine blk_drew ?_ | refine blk_alloc ?_ _)); exact BK139.out⟩, ⟨by repeat (first | (with_reducible first | exact HB.out | apply below_alloc | apply pw_below_drewN | apply below_drew1 | refine below_set ?_ GE139.out) | exact HB.out)⟩⟩
        case round =>
         clear H'
         try clear c1
         try clear p1
         try clear q1
         try clear hx1
         try clear c2
         try clear p2
         try clear c3
         try clear c4
         try clear c14
         try clear p14
         try clear q14
         try clear hx14
         try clear c19
         try clear c33
         try clear c38
         try clear c38b0
         try clear c38b1
         try clear c39
         try clear c39b0
         try clear c40
         try clear c40b0
         try clear c41
         try clear c41b0
         try clear c41b1
         try clear c41b2
         try clear c46
         try clear hcz36_0
         try clear hcz36_1
         try clear hcz36_2
         try clear hcz36_3
         try clear hcz36_4
         try clear hcz36_5
         try clear hcz36_6
         try clear hcz36_7
         try clear hfz20_3
         try clear hfz20_4
         try clear hfz20_5
         try clear hfz20_6
         try clear hfz20_7
         try clear hfz23_0
         try clear hfz23_1
         try clear hfz23_2
         try clear hfz23_3
         try clear hfz23_4
         try clear hfz23_5
         try clear hfz23_6
         try clear hfz23_7
         try clear hfz26_0
         try clear hfz26_1
         try clear hfz26_2
         try clear hfz26_3
         try clear hfz26_4
         try clear hfz26_5
         try clear hfz26_6
         try clear hfz26_7
         try clear hfz28_0
         try clear hfz28_1
         try clear hfz28_2
         try clear hfz28_3
         try clear hfz28_4
         try clear hfz28_5
         try clear hfz28_6
         try clear hfz28_7
         try clear hfz30_0
         try clear hfz30_1
         try clear hfz30_2
         try clear hfz30_3
         try clear hfz30_4
         try clear hfz30_5
         try clear hfz30_6
         try clear hfz30_7
         try clear hfz31_0
         try clear hfz31_1
         try clear hfz31_2
         try clear hfz31_3
         try clear hfz31_4
         try clear hfz31_5
         try clear hfz31_6
         try clear hfz31_7
         try clear hfz36_0
         try clear hfz36_1
         try clear hfz36_2
         try clear hfz36_3
         try clear hfz36_4
         try clear hfz36_5
         try clear hfz36_6
         try clear hfz36_7
         try clear hx146_0
         try clear p1
         try clear p14
         try clear p146
         try clear p2
         try clear q1
         try clear q14
         try clear q146
         obtain ⟨x13_3, x14_3, rfl, HA, HK3, HO_11, HO_13, BK139, HB⟩ := hrel
         cases gk with
         | zero => exact absurd HA.out (by simp [supercargolaw19_OrderMore.l0])
         | succ k3 =>
          have H := HA.out
          clear HA
          simp only [supercargolaw19_OrderMore.l0] at H
          by_cases c47 : x14_3 < (l2.length : Int)
          ·rw [if_pos c47] at H
           have c47b0 : decide (x14_3 < (l2.length : Int)) = true := decide_eq_true c47
           clear c47
           obtain ⟨y147, hy147⟩ : ∃ y_ : List Int, y_ = (([] : List Int)) := ⟨_, rfl⟩
           replace H : (if 0 ≤ x14_3 then (if y147.length + (rd_L5 l2 x14_3).length < 17592186044416 then (if x13_3.length < 5864062014805 then (supercargolaw19_OrderMore.l0 k3 l1 l2 a3 a4 t142 (x13_3 ++ [(y147 ++ (rd_L5 l2 x14_3))]) (wrap64 (x14_3 + 1)) a0_0 a0_1 a0_2 a0_3 a0_4 a0_5 a0_6 l0_7) else (none)) else (none)) else (none)) = some r := by first | (rw [hy147]; with_reducible exact H) | (have H2_ := (Option.bind_some _ _).symm.trans H; rw [hy147]; with_reducible exact H2_) | (have H2_ := (Option.bind_some _ _).symm.trans H; with_reducible exact H2_) | with_reducible exact H | (rw [hy147]; exact H) | exact H
           have Ny147 := Aside0.mk hy147
           clear hy147
           by_cases c48 : 0 ≤ x14_3
           ·rw [if_pos c48] at H
            have c48b0 : decide (0 ≤ x14_3) = true := decide_eq_true c48
            clear c48
            by_cases c49 : y147.length + (rd_L5 l2 x14_3).length < 17592186044416
            ·rw [if_pos c49] at H
             have LMc49 := Aside0.mk c49
             clear c49
             obtain ⟨y151, hy151⟩ : ∃ y_ : List Int, y_ = (y147 ++ (rd_L5 l2 x14_3)) := ⟨_, rfl⟩
             replace H : (if x13_3.length < 5864062014805 then (supercargolaw19_OrderMore.l0 k3 l1 l2 a3 a4 t142 (x13_3 ++ [y151]) (wrap64 (x14_3 + 1)) a0_0 a0_1 a0_2 a0_3 a0_4 a0_5 a0_6 l0_7) else (none)) = some r := by first | (rw [hy151]; with_reducible exact H) | (have H2_ := (Option.bind_some _ _).symm.trans H; rw [hy151]; with_reducible exact H2_) | (have H2_ := (Option.bind_some _ _).symm.trans H; with_reducible exact H2_) | with_reducible exact H | (rw [hy151]; exact H) | exact H
             have Ny151 := Aside0.mk hy151
             clear hy151
             by_cases c50 : x13_3.length < 5864062014805
             ·rw [if_pos c50] at H
              have LMc50 := Aside0.mk c50
              clear c50
              obtain ⟨y154, hy154⟩ : ∃ y_ : List (List Int), y_ = (x13_3 ++ [y151]) := ⟨_, rfl⟩
              replace H : (supercargolaw19_OrderMore.l0 k3 l1 l2 a3 a4 t142 y154 (wrap64 (x14_3 + 1)) a0_0 a0_1 a0_2 a0_3 a0_4 a0_5 a0_6 l0_7) = some r := by first | (rw [hy154]; with_reducible exact H) | (have H2_ := (Option.bind_some _ _).symm.trans H; rw [hy154]; with_reducible exact H2_) | (have H2_ := (Option.bind_some _ _).symm.trans H; with_reducible exact H2_) | with_reducible exact H | (rw [hy154]; exact H) | exact H
              have Ny154 := Aside0.mk hy154
              clear hy154
              have H' := Aside0.mk H
              clear H
              go_wp2_with (first | ((with_reducible refine gate_dst (N := 96) rfl ?_); (try (refine gate_guard (by rfl) ?_; dsimp only)); refine Kd.R_lit (Kd.int .i64) _ 3 ?hg (N := 96) ?hd (xs := ([] : List Int)) (inner := []) (ok := fun _ => True) (okp := fun _ => True) ?hr ?hp (fun _ hk => hk) trivial (Below.refl _ _) (Nat.le_refl _) (by simp) ?_; (case hd => rfl); (case hg => rfl); (case hr => first | (go_simp; done) | (go_simp; rfl)); (case hp => exact (Reps.none _ _)); intro v148 w51 ho52 hb hg_ hnew_; clear hg_ hnew_; (first | rw [← Ny147.out] at ho52 | (simp only [Int.reduceToNat] at ho52; rw [← Ny147.out] at ho52)); have n0_ := Aside0.mk (Kd.S_below (by (with_reducible repeat (first | apply Kd.S_alloc | apply Kd.S_drewN | apply Kd.S_drew)); exact HO_11.out) hb); have n1_ := Aside0.mk (Kd.S_elder' (by (with_reducible repeat (first | apply Kd.S_alloc | apply Kd.S_drewN | apply Kd.S_drew)); exact HO_13.out) (Kd.R_base ho52) hb); have n2_ := Aside0.mk (Kd.R_lower ho52 (below_size (by repeat (first | (with_reducible first | exact HB.out | apply below_alloc | apply pw_below_drewN | apply below_drew1 | refine below_set ?_ GE139.out) | exact HB.out)))); have n3_ := Aside0.mk (blk_below (g := gb139) (o := .cells #[.string a0_0, .string a0_1, .string a0_2, .string a0_3, .string a0_4, .string a0_5, .int .i64 a0_6, .slice A0_7 l0_7.length c0_7] 24 (0, 0)) (by (with_reducible repeat (first | refine blk_drewN ?_ _ | refine blk_drew ?_ | refine blk_alloc ?_ _)); exact BK139.out) hb); have n4_ := Aside0.mk (below_step (by repeat (first | (with_reducible first | exact HB.out | apply below_alloc | apply pw_below_drewN | apply below_drew1 | refine below_set ?_ GE139.out) | exact HB.out)) hb); clear HO_11; clear HO_13; clear BK139; clear HB; have HO_11 := n0_; have HO_13 := n1_; have HO149 := n2_; have BK139 := n3_; have HB := n4_; clear n0_ n1_ n2_ n3_ n4_; clear hb ho52; have p150 : 0 ≤ (x14_3 : Int) := of_decide_eq_true (by first | (with_reducible assumption) | assumption); have q150 : x14_3 < (l2.length : Int) := of_decide_eq_true (by first | (with_reducible assumption) | assumption); obtain ⟨ad150, A150_0, c150_0, e150, hx150_0, hl150_0, hi150_0⟩ := at_L5 HR2.out x14_3 p150 q150; cases e150; replace hx150_0 := (HB.out.cell (World.block_lt_of_cell? w _ hx150_0)).trans hx150_0; have HR150_0 := Aside0.mk hi150_0; have HC150_0 := Aside0.mk hl150_0; clear hi150_0 hl150_0; replace p150 := eq_true p150; replace q150 := eq_true q150) | ((with_reducible refine gate_builtin (b := .append) (xs := #[.tmp 96, .tmp 100]) rfl ?_); (try (refine gate_guard (by rfl) ?_; dsimp only)); at_builtin; refine Kd.R_append_rows (Kd.int .i64) (w0 := w) w.heap.size rfl (.tmp 96) (.tmp 100) 32 3 (.int .i64 0) 8 rfl Try.underlying32 info3 rfl (by decide) (by omega) v148 y147 (rd_L5 l2 x14_3) _ _ _ (fun _ => True) (fun _ => False) rfl rfl ?aO ?aR (fun _ _ h => h) (fun _ h => h.elim) ?aF ?aB ?aS ?aL ?_; (case aR => repeat (first | exact (Kd.C_below HR150_0.out HB.out) | (with_reducible refine Kd.C_alloc ?_ _) | (with_reducible refine Kd.C_drewN ?_ _) | (with_reducible refine Kd.C_drew ?_))); (case aB => exact (by repeat (first | (with_reducible first | exact HB.out | apply below_alloc | apply pw_below_drewN | apply below_drew1 | refine below_set ?_ GE139.out) | exact HB.out))); (case aF => exact (fun _ _ => trivial)); (case aO => exact (by (with_reducible repeat (first | apply Kd.R_alloc | apply Kd.R_drewN | apply Kd.R_drew)); exact HO149.out)); (case aS => exact (below_size (by repeat (first | (with_reducible first | exact HB.out | apply below_alloc | apply pw_below_drewN | apply below_drew1 | refine below_set ?_ GE139.out) | exact HB.out)))); (case aL => have := LMc49.out; omega); intro v152 w53 ho hb hg hat; rw [← Ny151.out] at ho; have n0_ := Aside0.mk (Kd.S_over' (by (with_reducible repeat (first | apply Kd.S_alloc | apply Kd.S_drewN | apply Kd.S_drew)); exact HO_11.out) (Kd.R_typed (by (with_reducible repeat (first | apply Kd.R_alloc | apply Kd.R_drewN | apply Kd.R_drew)); exact HO149.out)) (by decide) hg); have n1_ := Aside0.mk (Kd.S_after (ok := (fun _ => True)) (by (with_reducible repeat (first | apply Kd.S_alloc | apply Kd.S_drewN | apply Kd.S_drew)); exact HO_13.out) hg hat); have n2_ := Aside0.mk (blk_grown (g := gb139) (o := .cells #[.string a0_0, .string a0_1, .string a0_2, .string a0_3, .string a0_4, .string a0_5, .int .i64 a0_6, .slice A0_7 l0_7.length c0_7] 24 (0, 0)) (by (with_reducible repeat (first | refine blk_drewN ?_ _ | refine blk_drew ?_ | refine blk_alloc ?_ _)); exact BK139.out) hg (Kd.R_ne HO149.out BK139.out (by decide))); have n3_ := Aside0.mk (hb); have n4_ := Aside0.mk (ho); clear HO_11; clear HO_13; clear BK139; clear HB; clear HO149; have HO_11 := n0_; have HO_13 := n1_; have BK139 := n2_; have HB := n3_; have HO153 := n4_; clear n0_ n1_ n2_ n3_ n4_; clear ho hb hg hat; obtain ⟨Ao55, co55, eo55⟩ := Kd.R_slice HO153.out; subst eo55) | ((with_reducible refine gate_builtin (b := .append) (xs := #[.tmp 95, .tmp 102]) rfl ?_); (try (refine gate_guard (by rfl) ?_; dsimp only)); at_builtin; refine Kd.S_append (Kd.slice 3 (Kd.int .i64)) (w0 := w) w.heap.size rfl (.tmp 95) (.tmp 102) 33 32 (.slice none 0 0) 24 rfl Try.underlying33 info32 rfl (by decide) (by omega) u13 x13_3 y151 [.slice Ao55 y151.length co55] (fun _ => True) (fun k_ => some k_ = (.slice Ao55 y151.length co55 : Value).ownBlock) rfl rfl ?aP (fun k_ hk_ => ((Kd.R_mono (ok' := fun k_ => ((fun _ => True)) k_ ∧ some k_ ≠ (u13 : Value).ownBlock) (Kd.R_apart' (HO153.out) (Kd.S_typed HO_13.out) (by decide)) (fun k_ hk => ⟨trivial, hk.2⟩))).1 k_ hk_.symm) ?aF ?aO ?aB ?aS ?aL ?_; (case aP => exact Kd.M_row (Kd.R_mono (Kd.R_tight rfl (Kd.R_mono (ok' := fun k_ => ((fun _ => True)) k_ ∧ some k_ ≠ (u13 : Value).ownBlock) (Kd.R_apart' (HO153.out) (Kd.S_typed HO_13.out) (by decide)) (fun k_ hk => ⟨trivial, hk.2⟩))) (fun _ h_ => h_))); (case aB => exact (by repeat (first | (with_reducible first | exact HB.out | apply below_alloc | apply pw_below_drewN | apply below_drew1 | refine below_set ?_ GE139.out) | exact HB.out))); (case aF => exact (fun _ _ => trivial)); (case aO => exact (by (with_reducible repeat (first | apply Kd.S_alloc | apply Kd.S_drewN | apply Kd.S_drew)); exact Kd.S_mono HO_13.out (fun k_ hk => ⟨trivial, fun e_ => hk.2 e_⟩))); (case aS => exact (below_size (by repeat (first | (with_reducible first | exact HB.out | apply below_alloc | apply pw_below_drewN | apply below_drew1 | refine below_set ?_ GE139.out) | exact HB.out)))); (case aL => have := LMc50.out; omega); intro v155 w54 ho hb hg hat; rw [← Ny154.out] at ho; have n0_ := Aside0.mk (Kd.S_over' (by (with_reducible repeat (first | apply Kd.S_alloc | apply Kd.S_drewN | apply Kd.S_drew)); exact HO_11.out) (Kd.S_typed (by (with_reducible repeat (first | apply Kd.S_alloc | apply Kd.S_drewN | apply Kd.S_drew)); exact HO_13.out)) (by decide) hg); have n1_ := Aside0.mk (blk_grown (g := gb139) (o := .cells #[.string a0_0, .string a0_1, .string a0_2, .string a0_3, .string a0_4, .string a0_5, .int .i64 a0_6, .slice A0_7 l0_7.length c0_7] 24 (0, 0)) (by (with_reducible repeat (first | refine blk_drewN ?_ _ | refine blk_drew ?_ | refine blk_alloc ?_ _)); exact BK139.out) hg (Kd.S_ne HO_13.out BK139.out (by decide))); have n2_ := Aside0.mk (hb); have n3_ := Aside0.mk (ho); clear HO_11; clear BK139; clear HB; clear HO_13; clear HO153; have HO_11 := n0_; have BK139 := n1_; have HB := n2_; have HO156 := n3_; clear n0_ n1_ n2_ n3_; clear ho hb hg hat))
              go_roundg k3
              case measure => have := HJ7.out; have := HJ34.out; have := HK3.out; omega
              case rel => exact ⟨(y154), (wrap64 (x14_3 + 1)), (by first | rfl | (simp; done) | (simp [*]; done)), H', ⟨by have := HJ7.out; have := HJ34.out; have := HK3.out; omega⟩, ⟨by (with_reducible repeat (first | apply Kd.S_alloc | apply Kd.S_drewN | apply Kd.S_drew)); exact HO_11.out⟩, ⟨by (with_reducible repeat (first | apply Kd.S_alloc | apply Kd.S_drewN | apply Kd.S_drew)); exact HO156.out⟩, ⟨by (with_reducible repeat (first | refine blk_drewN ?_ _ | refine blk_drew ?_ | refine blk_alloc ?_ _)); exact BK139.out⟩, ⟨by repeat (first | (with_reducible first | exact HB.out | apply below_alloc | apply pw_below_drewN | apply below_drew1 | refine below_set ?_ GE139.out) | exact HB.out)⟩⟩
             ·rw [if_neg c50] at H
              exact absurd H (by simp)
            ·rw [if_neg c49] at H
             exact absurd H (by simp)
           ·rw [if_neg c48] at H
            exact absurd H (by simp)
          ·rw [if_neg c47] at H
           have c47b0 : decide (x14_3 < (l2.length : Int)) = false := decide_eq_false c47
           clear c47
           by_cases c56 : 0 ≤ a3
           ·rw [if_pos c56] at H
            have c56b0 : decide (0 ≤ a3) = true := decide_eq_true c56
            clear c56
            by_cases c57 : a3 < (x13_3.length : Int)
            ·rw [if_pos c57] at H
             have c57b0 : decide (a3 < (x13_3.length : Int)) = true := decide_eq_true c57
             clear c57
             by_cases c58 : 0 ≤ a4
             ·rw [if_pos c58] at H
              have c58b0 : decide (0 ≤ a4) = true := decide_eq_true c58
              clear c58
              by_cases c59 : a4 < ((rd_L5 x13_3 a3).length : Int)
              ·rw [if_pos c59] at H
               have c59b0 : decide (a4 < ((rd_L5 x13_3 a3).length : Int)) = true := decide_eq_true c59
               clear c59
               obtain ⟨y160, hy160⟩ : ∃ y_ : List Int, y_ = ((rd_L5 x13_3 a3).set (a4 : Int).toNat (wrap64 ((rd (rd_L5 x13_3 a3) a4) + 1))) := ⟨_, rfl⟩
               replace H : ((order_Cut.f k3 a0_0 a0_1 a0_2 a0_3 a0_4 a0_5 a0_6 l0_7 l1 (x13_3.set (a3 : Int).toNat y160)).bind fun bt163 => (if a4 < (l0_7.length : Int) then ((some (([(⟨(rd_T65 l0_7 a4).f0, 1⟩ : S67)] : List (S67)) : List (S67))).bind fun y168 => ((consAdd.f t142 a0_0 0 0 y168).bind fun t175 => ((order_Left.f k3 a0_0 a0_1 a0_2 a0_3 a0_4 a0_5 a0_6 l0_7 t175).bind fun bt178 => (if a0_0.size + 1 ≤ 9223372036854775807 then ((consAdd.f ([] : List (S42)) (a0_0 ++ (⟨#[120]⟩ : ByteArray)) 0 0 y168).bind fun t183 => ((order_Left.f k3 a0_0 a0_1 a0_2 a0_3 a0_4 a0_5 a0_6 l0_7 t183).bind fun bt186 => ((order_Value.f k3 a0_0 a0_1 a0_2 a0_3 a0_4 a0_5 a0_6 l0_7 (a0_0 ++ (⟨#[120]⟩ : ByteArray)) 0 0 y168).bind fun bt190 => (if bt163.2 = 3 then (if bt178.2 = 3 then (if bt186.2 = 1 then (some (bt190.2 == 1)) else (some false)) else (some false)) else (some false))))) else (none))))) else (none))) = some r := by first | (rw [hy160]; with_reducible exact H) | (have H2_ := (Option.bind_some _ _).symm.trans H; rw [hy160]; with_reducible exact H2_) | (have H2_ := (Option.bind_some _ _).symm.trans H; with_reducible exact H2_) | with_reducible exact H | (rw [hy160]; exact H) | exact H
               have Ny160 := Aside0.mk hy160
               clear hy160
               obtain ⟨y162, hy162⟩ : ∃ y_ : List (List Int), y_ = (x13_3.set (a3 : Int).toNat y160) := ⟨_, rfl⟩
               replace H : ((order_Cut.f k3 a0_0 a0_1 a0_2 a0_3 a0_4 a0_5 a0_6 l0_7 l1 y162).bind fun bt163 => (if a4 < (l0_7.length : Int) then ((some (([(⟨(rd_T65 l0_7 a4).f0, 1⟩ : S67)] : List (S67)) : List (S67))).bind fun y168 => ((consAdd.f t142 a0_0 0 0 y168).bind fun t175 => ((order_Left.f k3 a0_0 a0_1 a0_2 a0_3 a0_4 a0_5 a0_6 l0_7 t175).bind fun bt178 => (if a0_0.size + 1 ≤ 9223372036854775807 then ((consAdd.f ([] : List (S42)) (a0_0 ++ (⟨#[120]⟩ : ByteArray)) 0 0 y168).bind fun t183 => ((order_Left.f k3 a0_0 a0_1 a0_2 a0_3 a0_4 a0_5 a0_6 l0_7 t183).bind fun bt186 => ((order_Value.f k3 a0_0 a0_1 a0_2 a0_3 a0_4 a0_5 a0_6 l0_7 (a0_0 ++ (⟨#[120]⟩ : ByteArray)) 0 0 y168).bind fun bt190 => (if bt163.2 = 3 then (if bt178.2 = 3 then (if bt186.2 = 1 then (some (bt190.2 == 1)) else (some false)) else (some false)) else (some false))))) else (none))))) else (none))) = some r := by first | (rw [hy162]; with_reducible exact H) | (have H2_ := (Option.bind_some _ _).symm.trans H; rw [hy162]; with_reducible exact H2_) | (have H2_ := (Option.bind_some _ _).symm.trans H; with_reducible exact H2_) | with_reducible exact H | (rw [hy162]; exact H) | exact H
               have Ny162 := Aside0.mk hy162
               clear hy162
               replace H := Option.bind_eq_some_iff.mp H
               obtain ⟨⟨t163, t166⟩, A610, H⟩ := H
               replace H : (if a4 < (l0_7.length : Int) then ((some (([(⟨(rd_T65 l0_7 a4).f0, 1⟩ : S67)] : List (S67)) : List (S67))).bind fun y168 => ((consAdd.f t142 a0_0 0 0 y168).bind fun t175 => ((order_Left.f k3 a0_0 a0_1 a0_2 a0_3 a0_4 a0_5 a0_6 l0_7 t175).bind fun bt178 => (if a0_0.size + 1 ≤ 9223372036854775807 then ((consAdd.f ([] : List (S42)) (a0_0 ++ (⟨#[120]⟩ : ByteArray)) 0 0 y168).bind fun t183 => ((order_Left.f k3 a0_0 a0_1 a0_2 a0_3 a0_4 a0_5 a0_6 l0_7 t183).bind fun bt186 => ((order_Value.f k3 a0_0 a0_1 a0_2 a0_3 a0_4 a0_5 a0_6 l0_7 (a0_0 ++ (⟨#[120]⟩ : ByteArray)) 0 0 y168).bind fun bt190 => (if t166 = 3 then (if bt178.2 = 3 then (if bt186.2 = 1 then (some (bt190.2 == 1)) else (some false)) else (some false)) else (some false))))) else (none))))) else (none)) = some r := H
               have A61 := Aside0.mk A610
               clear A610
               by_cases c62 : a4 < (l0_7.length : Int)
               ·rw [if_pos c62] at H
                have c62b0 : decide (a4 < (l0_7.length : Int)) = true := decide_eq_true c62
                clear c62
                obtain ⟨y168, hy168⟩ : ∃ y_ : List (S67), y_ = (([(⟨(rd_T65 l0_7 a4).f0, 1⟩ : S67)] : List (S67))) := ⟨_, rfl⟩
                replace H : ((consAdd.f t142 a0_0 0 0 y168).bind fun t175 => ((order_Left.f k3 a0_0 a0_1 a0_2 a0_3 a0_4 a0_5 a0_6 l0_7 t175).bind fun bt178 => (if a0_0.size + 1 ≤ 9223372036854775807 then ((consAdd.f ([] : List (S42)) (a0_0 ++ (⟨#[120]⟩ : ByteArray)) 0 0 y168).bind fun t183 => ((order_Left.f k3 a0_0 a0_1 a0_2 a0_3 a0_4 a0_5 a0_6 l0_7 t183).bind fun bt186 => ((order_Value.f k3 a0_0 a0_1 a0_2 a0_3 a0_4 a0_5 a0_6 l0_7 (a0_0 ++ (⟨#[120]⟩ : ByteArray)) 0 0 y168).bind fun bt190 => (if t166 = 3 then (if bt178.2 = 3 then (if bt186.2 = 1 then (some (bt190.2 == 1)) else (some false)) else (some false)) else (some false))))) else (none)))) = some r := by first | (rw [hy168]; with_reducible exact H) | (have H2_ := (Option.bind_some _ _).symm.trans H; rw [hy168]; with_reducible exact H2_) | (have H2_ := (Option.bind_some _ _).symm.trans H; with_reducible exact H2_) | with_reducible exact H | (rw [hy168]; exact H) | exact H
                have Ny168 := Aside0.mk hy168
                clear hy168
                obtain ⟨y172, hy172⟩ : ∃ y_ : List (S42), y_ = (([] : List (S42))) := ⟨_, rfl⟩
                replace H : ((consAdd.f t142 a0_0 0 0 y168).bind fun t175 => ((order_Left.f k3 a0_0 a0_1 a0_2 a0_3 a0_4 a0_5 a0_6 l0_7 t175).bind fun bt178 => (if a0_0.size + 1 ≤ 9223372036854775807 then ((consAdd.f ([] : List (S42)) (a0_0 ++ (⟨#[120]⟩ : ByteArray)) 0 0 y168).bind fun t183 => ((order_Left.f k3 a0_0 a0_1 a0_2 a0_3 a0_4 a0_5 a0_6 l0_7 t183).bind fun bt186 => ((order_Value.f k3 a0_0 a0_1 a0_2 a0_3 a0_4 a0_5 a0_6 l0_7 (a0_0 ++ (⟨#[120]⟩ : ByteArray)) 0 0 y168).bind fun bt190 => (if t166 = 3 then (if bt178.2 = 3 then (if bt186.2 = 1 then (some (bt190.2 == 1)) else (some false)) else (some false)) else (some false))))) else (none)))) = some r := by first | (rw [hy172]; with_reducible exact H) | (have H2_ := (Option.bind_some _ _).symm.trans H; rw [hy172]; with_reducible exact H2_) | (have H2_ := (Option.bind_some _ _).symm.trans H; with_reducible exact H2_) | with_reducible exact H | (rw [hy172]; exact H) | exact H
                have Ny172 := Aside0.mk hy172
                clear hy172
                replace H := Option.bind_eq_some_iff.mp H
                obtain ⟨t175, A630, H⟩ := H
                replace H : ((order_Left.f k3 a0_0 a0_1 a0_2 a0_3 a0_4 a0_5 a0_6 l0_7 t175).bind fun bt178 => (if a0_0.size + 1 ≤ 9223372036854775807 then ((consAdd.f ([] : List (S42)) (a0_0 ++ (⟨#[120]⟩ : ByteArray)) 0 0 y168).bind fun t183 => ((order_Left.f k3 a0_0 a0_1 a0_2 a0_3 a0_4 a0_5 a0_6 l0_7 t183).bind fun bt186 => ((order_Value.f k3 a0_0 a0_1 a0_2 a0_3 a0_4 a0_5 a0_6 l0_7 (a0_0 ++ (⟨#[120]⟩ : ByteArray)) 0 0 y168).bind fun bt190 => (if t166 = 3 then (if bt178.2 = 3 then (if bt186.2 = 1 then (some (bt190.2 == 1)) else (some false)) else (some false)) else (some false))))) else (none))) = some r := H
                have A63 := Aside0.mk A630
                clear A630
                replace H := Option.bind_eq_some_iff.mp H
                obtain ⟨⟨t178, t181⟩, A640, H⟩ := H
                replace H : (if a0_0.size + 1 ≤ 9223372036854775807 then ((consAdd.f ([] : List (S42)) (a0_0 ++ (⟨#[120]⟩ : ByteArray)) 0 0 y168).bind fun t183 => ((order_Left.f k3 a0_0 a0_1 a0_2 a0_3 a0_4 a0_5 a0_6 l0_7 t183).bind fun bt186 => ((order_Value.f k3 a0_0 a0_1 a0_2 a0_3 a0_4 a0_5 a0_6 l0_7 (a0_0 ++ (⟨#[120]⟩ : ByteArray)) 0 0 y168).bind fun bt190 => (if t166 = 3 then (if t181 = 3 then (if bt186.2 = 1 then (some (bt190.2 == 1)) else (some false)) else (some false)) else (some false))))) else (none)) = some r := H
                have A64 := Aside0.mk A640
                clear A640
                by_cases c65 : a0_0.size + 1 ≤ 9223372036854775807
                ·rw [if_pos c65] at H
                 have c65b0 := eq_true c65
                 have c65b1 : decide (a0_0.size + 1 ≤ 9223372036854775807) = true := decide_eq_true c65
                 try have c65b2 : (9223372036854775807 < a0_0.size + 1) = False := eq_false (Nat.not_lt.2 c65)
                 replace H := Option.bind_eq_some_iff.mp H
                 obtain ⟨t183, A660, H⟩ := H
                 replace H : ((order_Left.f k3 a0_0 a0_1 a0_2 a0_3 a0_4 a0_5 a0_6 l0_7 t183).bind fun bt186 => ((order_Value.f k3 a0_0 a0_1 a0_2 a0_3 a0_4 a0_5 a0_6 l0_7 (a0_0 ++ (⟨#[120]⟩ : ByteArray)) 0 0 y168).bind fun bt190 => (if t166 = 3 then (if t181 = 3 then (if bt186.2 = 1 then (some (bt190.2 == 1)) else (some false)) else (some false)) else (some false)))) = some r := H
                 have A66 := Aside0.mk A660
                 clear A660
                 replace H := Option.bind_eq_some_iff.mp H
                 obtain ⟨⟨t186, t189⟩, A670, H⟩ := H
                 replace H : ((order_Value.f k3 a0_0 a0_1 a0_2 a0_3 a0_4 a0_5 a0_6 l0_7 (a0_0 ++ (⟨#[120]⟩ : ByteArray)) 0 0 y168).bind fun bt190 => (if t166 = 3 then (if t181 = 3 then (if t189 = 1 then (some (bt190.2 == 1)) else (some false)) else (some false)) else (some false))) = some r := H
                 have A67 := Aside0.mk A670
                 clear A670
                 replace H := Option.bind_eq_some_iff.mp H
                 obtain ⟨⟨t190, t191⟩, A680, H⟩ := H
                 replace H : (if t166 = 3 then (if t181 = 3 then (if t189 = 1 then (some (t191 == 1)) else (some false)) else (some false)) else (some false)) = some r := H
                 have A68 := Aside0.mk A680
                 clear A680
                 by_cases c69 : t166 = 3
                 ·rw [if_pos c69] at H
                  have c69b0 : (t166 == 3) = true := beq_iff_eq.mpr c69
                  have c69b1 : (t166 != 3) = false := bne_eq_false_iff_eq.mpr c69
                  clear c69
                  by_cases c70 : t181 = 3
                  ·rw [if_pos c70] at H
                   have c70b0 : (t181 == 3) = true := beq_iff_eq.mpr c70
                   have c70b1 : (t181 != 3) = false := bne_eq_false_iff_eq.mpr c70
                   clear c70
                   by_cases c71 : t189 = 1
                   ·rw [if_pos c71] at H
                    have c71b0 : (t189 == 1) = true := beq_iff_eq.mpr c71
                    have c71b1 : (t189 != 1) = false := bne_eq_false_iff_eq.mpr c71
                    clear c71
                    clear hT; obtain rfl := Option.some.inj H
                    try go_wp2
                    have n0_ := Aside0.mk (Kd.S_drew HO_11.out)
                    have n1_ := Aside0.mk (Kd.S_drew HO_13.out)
                    have n2_ := Aside0.mk (blk_drew BK139.out)
                    have n3_ := Aside0.mk (below_drew1 HB.out)
                    clear HO_11
                    clear HO_13
                    clear BK139
                    clear HB
                    have HO_11 := n0_
                    have HO_13 := n1_
                    have BK139 := n2_
                    have HB := n3_
                    clear n0_ n1_ n2_ n3_
                    obtain ⟨Ao73, co73, eo73⟩ := Kd.S_slice HO_13.out
                    (first | subst eo73 | (injection eo73 with f1_ f2_ f3_; have f4_ := f1_.symm; have f5_ := f3_.symm; clear f1_ f2_ f3_; subst f4_; subst f5_))
                    have p157 : 0 ≤ (a3 : Int) := of_decide_eq_true (by first | (with_reducible assumption) | assumption)
                    have q157 : a3 < (x13_3.length : Int) := of_decide_eq_true (by first | (with_reducible assumption) | assumption)
                    obtain ⟨ad157, A157_0, c157_0, e157, hx157_0, hl157_0, hi157_0⟩ := at_L5 (Kd.S_reads' HO_13.out).2.2 a3 p157 q157
                    cases e157
                    obtain ⟨ce157, hce157, hMe157, hcc157⟩ := Kd.S_get HO_13.out [] a3 p157 (by first | exact q157 | exact of_decide_eq_true (by first | (with_reducible assumption) | assumption) | (have e_ := (Kd.S_reads' HO_13.out).1; omega))
                    obtain ⟨ve157_0, rfl, ge157_0⟩ := hMe157
                    have hv157_0 := hcc157 0 _ rfl
                    rw [Nat.add_zero, show ((Kd.slice 3 (Kd.int .i64))).sz = 1 from rfl, Nat.mul_one] at hv157_0
                    replace hv157_0 := Option.some.inj (hv157_0.symm.trans hx157_0)
                    rw [hv157_0] at ge157_0
                    have HL157_0 := Aside0.mk (show Kd.R (Kd.int .i64) 3 _ _ _ _ (rd_L5 x13_3 a3) from ge157_0)
                    clear hv157_0 ge157_0
                    have HX157_0 := Aside0.mk hx157_0
                    clear hcc157 hce157
                    have HR157_0 := Aside0.mk hi157_0
                    have HC157_0 := Aside0.mk hl157_0
                    clear hi157_0 hl157_0
                    replace p157 := eq_true p157
                    replace q157 := eq_true q157
                    have p158 : 0 ≤ (a3 : Int) := of_decide_eq_true (by first | (with_reducible assumption) | assumption)
                    have q158 : a3 < (x13_3.length : Int) := of_decide_eq_true (by first | (with_reducible assumption) | assumption)
                    obtain ⟨ad158, A158_0, c158_0, e158, hx158_0, hl158_0, hi158_0⟩ := at_L5 (Kd.S_reads' HO_13.out).2.2 a3 p158 q158
                    obtain rfl : ad157 = ad158 := (by injection e158)
                    obtain ⟨ce158, hce158, hMe158, hcc158⟩ := Kd.S_get HO_13.out [] a3 p158 (by first | exact q158 | exact of_decide_eq_true (by first | (with_reducible assumption) | assumption) | (have e_ := (Kd.S_reads' HO_13.out).1; omega))
                    obtain ⟨ve158_0, rfl, ge158_0⟩ := hMe158
                    have hv158_0 := hcc158 0 _ rfl
                    rw [Nat.add_zero, show ((Kd.slice 3 (Kd.int .i64))).sz = 1 from rfl, Nat.mul_one] at hv158_0
                    replace hv158_0 := Option.some.inj (hv158_0.symm.trans hx158_0)
                    rw [hv158_0] at ge158_0
                    have HL158_0 := Aside0.mk (show Kd.R (Kd.int .i64) 3 _ _ _ _ (rd_L5 x13_3 a3) from ge158_0)
                    clear hv158_0 ge158_0
                    have HX158_0 := Aside0.mk hx158_0
                    clear hcc158 hce158
                    have HR158_0 := Aside0.mk hi158_0
                    have HC158_0 := Aside0.mk hl158_0
                    clear hi158_0 hl158_0
                    replace p158 := eq_true p158
                    replace q158 := eq_true q158
                    have ea_ := Option.some.inj (hx157_0.symm.trans hx158_0)
                    injection ea_ with ea_ en_ ec_
                    subst ea_
                    subst ec_
                    clear en_
                    have p159 : 0 ≤ (a4 : Int) := of_decide_eq_true (by first | (with_reducible assumption) | assumption)
                    have q159 : a4 < ((rd_L5 x13_3 a3).length : Int) := of_decide_eq_true (by first | (with_reducible assumption) | assumption)
                    obtain ⟨ad159, e159, hx159_0⟩ := Kd.at_int (by repeat (first | (with_reducible exact HR158_0.out) | (with_reducible refine Kd.C_alloc ?_ _) | (with_reducible refine Kd.C_drewN ?_ _) | (with_reducible refine Kd.C_drew ?_) | exact HR158_0.out)) a4 p159 q159
                    cases e159
                    replace p159 := eq_true p159
                    replace q159 := eq_true q159
                    have p60 : 0 ≤ (a4 : Int) := of_decide_eq_true (by first | (with_reducible assumption) | assumption)
                    have q60 : (a4 : Int) < (((rd_L5 x13_3 a3).length : Int) : Int) := of_decide_eq_true (by first | (with_reducible assumption) | assumption)
                    obtain ⟨go60, co60, eo60, gb60, gl60, cl60, HG60⟩ := Kd.R_form HL157_0.out (by omega)
                    (first | cases eo60 | (injection eo60 with ea_ en_ ec_; (first | subst ea_ | (injection ea_ with ea_; subst ea_)); subst ec_; clear en_))
                    have GB60 := Aside0.mk gb60
                    have GG60 := Aside0.mk HG60
                    clear gb60 gl60 HG60
                    (first | simp only [add_plain] at hx159_0 | skip)
                    obtain ⟨hx60_0, hf60_0⟩ := Kd.R_celln 0 HL157_0.out (a4 : Int) p60 q60
                    replace p60 := eq_true p60
                    replace q60 := eq_true q60
                    have hq74 : (a3 : Int) < (x13_3.length : Int) := (by have h_ : (a3 : Int) < ((x13_3.length : Int) : Int) := of_decide_eq_true (by first | (with_reducible assumption) | assumption); first | exact h_ | (have e_ := (Kd.S_reads' HO_13.out).1; omega) | simpa only [List.length_set, List.length_set] using h_)
                    obtain ⟨oki74, ce74, hcl74, hM74, hcc74, hok74, hbk74⟩ := Kd.S_borrow HO_13.out [] (a3 : Int) (of_decide_eq_true (by first | (with_reducible assumption) | assumption)) hq74
                    obtain ⟨ve74_0, rfl, ge74_0⟩ := hM74
                    have hv74 := hcc74 0 _ rfl
                    rw [Nat.add_zero, show ((Kd.slice 3 (Kd.int .i64))).sz = 1 from rfl, Nat.mul_one] at hv74
                    replace hv74 := Option.some.inj (hv74.symm.trans HX157_0.out)
                    subst hv74
                    clear hcc74 hcl74
                    replace ge74_0 := (show Kd.R (Kd.int .i64) 3 _ _ _ _ (rd_L5 x13_3 a3) from ge74_0)
                    have HP74 := Kd.R_putg ge74_0 (a4 : Int) (wrap64 ((rd (rd_L5 x13_3 a3) a4) + 1))
                    rw [← Ny160.out] at HP74
                    have HS74 := hbk74 HP74.2 (fun k_ e_ => by injection e_ with e_; subst e_; exact ge74_0.1 _ rfl) (x' := y160) (Kd.M_row HP74.1)
                    rw [← Ny162.out] at HS74
                    have HQ74 := Aside0.mk HS74
                    clear HP74 HS74 hbk74 hok74
                    refine start_ (n := 15) (S := fun w' => w'.cell? (ad157.add (a3).toNat) = some (.slice (some ⟨go60, 0, none⟩) (rd_L5 x13_3 a3).length c157_0) ∧ w'.cell? (ad157.add (a3).toNat) = some (.slice (some ⟨go60, 0, none⟩) (rd_L5 x13_3 a3).length c157_0) ∧ w'.cell? ⟨go60, (a4).toNat, none⟩ = some (.int .i64 (rd (rd_L5 x13_3 a3) a4))) (ds := [14]) #[F,F,F,F,F,F,F,F,F,F,F,F,F,F,F] (by kernel_rfl) rfl rfl ⟨hx157_0, hx158_0, hx159_0⟩ (fun hHeld => ?_); refine with_tabW supercargolaw19_OrderMore.tab13 supercargolaw19_OrderMore.bits13 (fun HT_ HW_ => ?_)
                    generalize wr.drew = w72 at HO_11 HO_13 BK139 HB GG60 HL157_0 HL158_0 HQ74 HR157_0 HR158_0 HX157_0 HX158_0 hf60_0 hx157_0 hx158_0 hx159_0 hx60_0 hHeld ⊢
                    refine pure_ (i := 0) (N := some 104) (v := ?_) (a' := ?_) #[T,F,F,F,F,F,F,F,F,F,F,F,F,F,F] rfl rfl (any_of HT_.out (by kernel_rfl)) (fun _ _ _ h => h) (Or.inl ⟨by rfl, ?_⟩) ?_ ?_
                    rotate_left
                    ·intro w'
                     go_simp
                     with_reducible rfl
                    rotate_left
                    ·simp only [Act.put, List.setIfInBounds_toArray, List.set_cons_zero, List.set_cons_succ, i64_w, i32_w]
                     rfl
                    refine pure_ (i := 1) (N := some 105) (v := ?_) (a' := ?_) #[T,T,F,F,F,F,F,F,F,F,F,F,F,F,F] rfl rfl (any_of HT_.out (by kernel_rfl)) (fun _ _ _ h => h) (Or.inl ⟨by rfl, ?_⟩) ?_ ?_
                    rotate_left
                    ·intro w'
                     go_simp
                     with_reducible rfl
                    rotate_left
                    ·simp only [Act.put, List.setIfInBounds_toArray, List.set_cons_zero, List.set_cons_succ, i64_w, i32_w]
                     rfl
                    refine pure_ (i := 2) (N := some 106) (v := ?_) (a' := ?_) #[T,T,T,F,F,F,F,F,F,F,F,F,F,F,F] rfl rfl (any_of HT_.out (by kernel_rfl)) (fun _ _ _ h => h) (Or.inl ⟨by rfl, ?_⟩) ?_ ?_
                    rotate_left
                    ·intro w'
                     go_simp
                     with_reducible rfl
                    rotate_left
                    ·simp only [Act.put, List.setIfInBounds_toArray, List.set_cons_zero, List.set_cons_succ, i64_w, i32_w]
                     rfl
                    refine pure_ (i := 4) (N := some 108) (v := ?_) (a' := ?_) #[T,T,T,F,T,F,F,F,F,F,F,F,F,F,F] rfl rfl (any_of HT_.out (by kernel_rfl)) (fun _ _ _ h => h) (Or.inl ⟨by rfl, ?_⟩) ?_ ?_
                    rotate_left
                    ·intro w'
                     go_simp
                     with_reducible rfl
                    rotate_left
                    ·simp only [Act.put, List.setIfInBounds_toArray, List.set_cons_zero, List.set_cons_succ, i64_w, i32_w]
                     rfl
                    refine pure_ (i := 5) (N := some 109) (v := ?_) (a' := ?_) #[T,T,T,F,T,T,F,F,F,F,F,F,F,F,F] rfl rfl (any_of HT_.out (by kernel_rfl)) (fun _ _ _ h => h) (Or.inl ⟨by rfl, ?_⟩) ?_ ?_
                    rotate_left
                    ·intro w'
                     go_simp
                     with_reducible rfl
                    rotate_left
                    ·simp only [Act.put, List.setIfInBounds_toArray, List.set_cons_zero, List.set_cons_succ, i64_w, i32_w]
                     rfl
                    refine pure_ (i := 6) (N := some 110) (v := ?_) (a' := ?_) #[T,T,T,F,T,T,T,F,F,F,F,F,F,F,F] rfl rfl (any_of HT_.out (by kernel_rfl)) (fun _ _ _ h => h) (Or.inl ⟨by rfl, ?_⟩) ?_ ?_
                    rotate_left
                    ·intro w'
                     go_simp
                     with_reducible rfl
                    rotate_left
                    ·simp only [Act.put, List.setIfInBounds_toArray, List.set_cons_zero, List.set_cons_succ, i64_w, i32_w]
                     rfl
                    refine pure_ (i := 7) (N := some 111) (v := ?_) (a' := ?_) #[T,T,T,F,T,T,T,T,F,F,F,F,F,F,F] rfl rfl (any_of HT_.out (by kernel_rfl)) (fun _ _ _ h => h) (Or.inl ⟨by rfl, ?_⟩) ?_ ?_
                    rotate_left
                    ·intro w'
                     go_simp
                     with_reducible rfl
                    rotate_left
                    ·simp only [Act.put, List.setIfInBounds_toArray, List.set_cons_zero, List.set_cons_succ, i64_w, i32_w]
                     rfl
                    refine pure_ (i := 9) (N := some 113) (v := ?_) (a' := ?_) #[T,T,T,F,T,T,T,T,F,T,F,F,F,F,F] rfl rfl (any_of HT_.out (by kernel_rfl)) (fun _ _ _ h => h) (Or.inl ⟨by rfl, ?_⟩) ?_ ?_
                    rotate_left
                    ·intro w'
                     go_simp
                     with_reducible rfl
                    rotate_left
                    ·simp only [Act.put, List.setIfInBounds_toArray, List.set_cons_zero, List.set_cons_succ, i64_w, i32_w]
                     rfl
                    refine take_ (i := 3) (N := some 107) (v := ?_) (a' := ?_) #[T,T,T,T,T,T,T,T,F,T,F,F,F,F,F] rfl rfl (take_ofW HT_.out HW_.out (by kernel_rfl)) (fun _ _ _ h => h) (Or.inl ⟨by rfl, ?_⟩) hHeld ?_ ?_
                    rotate_left
                    ·rintro w' ⟨s0, s1, s2⟩
                     go_simp
                     with_reducible rfl
                    rotate_left
                    ·simp only [Act.put, List.setIfInBounds_toArray, List.set_cons_zero, List.set_cons_succ, i64_w, i32_w]
                     rfl
                    refine take_ (i := 8) (N := some 112) (v := ?_) (a' := ?_) #[T,T,T,T,T,T,T,T,T,T,F,F,F,F,F] rfl rfl (take_ofW HT_.out HW_.out (by kernel_rfl)) (fun _ _ _ h => h) (Or.inl ⟨by rfl, ?_⟩) hHeld ?_ ?_
                    rotate_left
                    ·rintro w' ⟨s0, s1, s2⟩
                     go_simp
                     with_reducible rfl
                    rotate_left
                    ·simp only [Act.put, List.setIfInBounds_toArray, List.set_cons_zero, List.set_cons_succ, i64_w, i32_w]
                     rfl
                    refine pure_ (i := 10) (N := some 114) (v := ?_) (a' := ?_) #[T,T,T,T,T,T,T,T,T,T,T,F,F,F,F] rfl rfl (any_of HT_.out (by kernel_rfl)) (fun _ _ _ h => h) (Or.inl ⟨by rfl, ?_⟩) ?_ ?_
                    rotate_left
                    ·intro w'
                     go_simp
                     with_reducible rfl
                    rotate_left
                    ·simp only [Act.put, List.setIfInBounds_toArray, List.set_cons_zero, List.set_cons_succ, i64_w, i32_w]
                     rfl
                    refine take_ (i := 11) (N := some 115) (v := ?_) (a' := ?_) #[T,T,T,T,T,T,T,T,T,T,T,T,F,F,F] rfl rfl (take_ofW HT_.out HW_.out (by kernel_rfl)) (fun _ _ _ h => h) (Or.inl ⟨by rfl, ?_⟩) hHeld ?_ ?_
                    rotate_left
                    ·rintro w' ⟨s0, s1, s2⟩
                     go_simp
                     with_reducible rfl
                    rotate_left
                    ·simp only [Act.put, List.setIfInBounds_toArray, List.set_cons_zero, List.set_cons_succ, i64_w, i32_w]
                     rfl
                    refine pure_ (i := 12) (N := some 116) (v := ?_) (a' := ?_) #[T,T,T,T,T,T,T,T,T,T,T,T,T,F,F] rfl rfl (any_of HT_.out (by kernel_rfl)) (fun _ _ _ h => h) (Or.inl ⟨by rfl, ?_⟩) ?_ ?_
                    rotate_left
                    ·intro w'
                     go_simp
                     with_reducible rfl
                    rotate_left
                    ·simp only [Act.put, List.setIfInBounds_toArray, List.set_cons_zero, List.set_cons_succ, i64_w, i32_w]
                     rfl
                    refine pure_ (i := 13) (N := some 117) (v := ?_) (a' := ?_) #[T,T,T,T,T,T,T,T,T,T,T,T,T,T,F] rfl rfl (any_of HT_.out (by kernel_rfl)) (fun _ _ _ h => h) (Or.inl ⟨by rfl, ?_⟩) ?_ ?_
                    rotate_left
                    ·intro w'
                     go_simp
                     with_reducible rfl
                    rotate_left
                    ·simp only [Act.put, List.setIfInBounds_toArray, List.set_cons_zero, List.set_cons_succ, i64_w, i32_w]
                     rfl
                    refine last_ (i := 14) (N := none) #[T,T,T,T,T,T,T,T,T,T,T,T,T,T,T] rfl rfl (one_of HT_.out (by kernel_rfl)) (by decide) (fun K hK => ?_)
                    refine skip_ (w1 := ?_) (by rfl) rfl ?_ ?_
                    rotate_left
                    ·go_simp
                     rfl
                    refine hK.out _ _ ?_
                    clear hK K
                    refine done_ (done_of HT_.out (by kernel_rfl)) ?_
                    have n0_ : Aside0 (Kd.S k42 42 (w72.setCell ⟨go60, (a4 : Int).toNat, none⟩ (.int .i64 (wrap64 ((rd (rd_L5 x13_3 a3) a4) + 1)))) w.heap.size (fun _ => True) v143 t142) := ⟨by (with_reducible repeat (first | apply Kd.S_alloc | apply Kd.S_drewN | apply Kd.S_drew)); exact Kd.S_mono (Kd.S_far (p := ⟨go60, (a4 : Int).toNat, none⟩) (Kd.S_types HO_11.out GG60.out (by decide)) (fun _ hk => hk.2) (.int .i64 (wrap64 ((rd (rd_L5 x13_3 a3) a4) + 1)))) (fun _ hk => trivial)⟩
                    have n1_ : Aside0 (Kd.S (Kd.slice 3 (Kd.int .i64)) 32 (w72.setCell ⟨go60, (a4 : Int).toNat, none⟩ (.int .i64 (wrap64 ((rd (rd_L5 x13_3 a3) a4) + 1)))) w.heap.size (fun _ => True) (.slice (some ad157) x13_3.length co73) y162) := ⟨by (with_reducible repeat (first | apply Kd.S_alloc | apply Kd.S_drewN | apply Kd.S_drew)); exact HQ74.out⟩
                    have n2_ : Aside0 ((w72.setCell ⟨go60, (a4 : Int).toNat, none⟩ (.int .i64 (wrap64 ((rd (rd_L5 x13_3 a3) a4) + 1)))).heap[gb139]? = some (.cells #[.string a0_0, .string a0_1, .string a0_2, .string a0_3, .string a0_4, .string a0_5, .int .i64 a0_6, .slice A0_7 l0_7.length c0_7] 24 (0, 0))) := ⟨by (with_reducible repeat (first | refine blk_drewN ?_ _ | refine blk_drew ?_ | refine blk_alloc ?_ _)); refine blk_far ?_ (by have h_ := Kd.R_ne HL157_0.out BK139.out (by decide); intro e_; exact h_ (by rw [e_]; rfl)) _; (with_reducible repeat (first | refine blk_drewN ?_ _ | refine blk_drew ?_ | refine blk_alloc ?_ _)); exact BK139.out⟩
                    have n3_ : Aside0 (Below w.heap.size w (w72.setCell ⟨go60, (a4 : Int).toNat, none⟩ (.int .i64 (wrap64 ((rd (rd_L5 x13_3 a3) a4) + 1))))) := ⟨by repeat (first | (with_reducible first | exact HB.out | apply below_alloc | apply pw_below_drewN | apply below_drew1 | refine below_set ?_ GB60.out | refine below_set ?_ GE139.out) | exact HB.out)⟩
                    (try clear HO_11)
                    (try clear HO_13)
                    (try clear BK139)
                    (try clear HB)
                    generalize (w72.setCell ⟨go60, (a4 : Int).toNat, none⟩ (.int .i64 (wrap64 ((rd (rd_L5 x13_3 a3) a4) + 1)))) = w76 at n0_ n1_ n2_ n3_ ⊢
                    have HO_11 := n0_
                    have HO_13 := n1_
                    have BK139 := n2_
                    have HB := n3_
                    clear n0_ n1_ n2_ n3_
                    have hcz77_0 : w76.cell? ⟨gb139, 0, none⟩ = some (.string a0_0) := (blk_cell BK139.out 0).trans rfl
                    have hcz77_1 : w76.cell? ⟨gb139, 1, none⟩ = some (.string a0_1) := (blk_cell BK139.out 1).trans rfl
                    have hcz77_2 : w76.cell? ⟨gb139, 2, none⟩ = some (.string a0_2) := (blk_cell BK139.out 2).trans rfl
                    have hcz77_3 : w76.cell? ⟨gb139, 3, none⟩ = some (.string a0_3) := (blk_cell BK139.out 3).trans rfl
                    have hcz77_4 : w76.cell? ⟨gb139, 4, none⟩ = some (.string a0_4) := (blk_cell BK139.out 4).trans rfl
                    have hcz77_5 : w76.cell? ⟨gb139, 5, none⟩ = some (.string a0_5) := (blk_cell BK139.out 5).trans rfl
                    have hcz77_6 : w76.cell? ⟨gb139, 6, none⟩ = some (.int .i64 a0_6) := (blk_cell BK139.out 6).trans rfl
                    have hcz77_7 : w76.cell? ⟨gb139, 7, none⟩ = some (.slice A0_7 l0_7.length c0_7) := (blk_cell BK139.out 7).trans rfl
                    have hfz77_0 := blk_frozen BK139.out 0
                    have hfz77_1 := blk_frozen BK139.out 1
                    have hfz77_2 := blk_frozen BK139.out 2
                    have hfz77_3 := blk_frozen BK139.out 3
                    have hfz77_4 := blk_frozen BK139.out 4
                    have hfz77_5 := blk_frozen BK139.out 5
                    have hfz77_6 := blk_frozen BK139.out 6
                    have hfz77_7 := blk_frozen BK139.out 7
                    try go_wp2_with (first | ((with_reducible refine gate_callee (f := 19) rfl ?_); refine goesL_ (some 122) rfl rfl Try.func19 (by kernel_rfl) rfl #[.agg #[.string a0_0, .string a0_1, .string a0_2, .string a0_3, .string a0_4, .string a0_5, .int .i64 a0_6, .slice A0_7 l0_7.length c0_7], .slice A1 l1.length c1, .slice (some ad157) y162.length co73] rfl (by (try simp only [List.map_toArray, List.map_cons, List.map_nil]); first | done | (rw [show y162.length = x13_3.length from (Kd.S_reads' HO_13.out).1.symm] <;> rfl) | rfl | (simp only [List.length_drop, List.length_take]; rfl)) ?_; (with_reducible refine (order_Cut.calls k3 a0_0 a0_1 a0_2 a0_3 a0_4 a0_5 a0_6 _ _ l0_7 _ _ l1 _ _ y162 t163 t166 _ ?side1 ?side2 ?side3 ?side4 ?side5 ?side6 A61.out).mono ?_); (case side1 => repeat (first | exact (Kd.C_below HR0_7.out HB.out) | (with_reducible refine Kd.C_alloc ?_ _) | (with_reducible refine Kd.C_drewN ?_ _) | (with_reducible refine Kd.C_drew ?_))); (case side2 => exact HC0_7.out); (case side3 => repeat (first | exact (Kd.C_below HR1.out HB.out) | (with_reducible refine Kd.C_alloc ?_ _) | (with_reducible refine Kd.C_drewN ?_ _) | (with_reducible refine Kd.C_drew ?_))); (case side4 => exact HC1.out); (case side5 => repeat (first | exact (Kd.S_reads' HO_13.out).2.2 | (with_reducible refine Kd.C_alloc ?_ _) | (with_reducible refine Kd.C_drewN ?_ _) | (with_reducible refine Kd.C_drew ?_))); (case side6 => rw [show y162.length = x13_3.length from (Kd.S_reads' HO_13.out).1.symm]; exact (Kd.S_reads' HO_13.out).2.1); rintro e w78 ⟨v164, rfl, ho0, hb⟩; refine ⟨_, rfl, ?_⟩; have n0_ := Aside0.mk (Kd.S_elder' (by (with_reducible repeat (first | apply Kd.S_alloc | apply Kd.S_drewN | apply Kd.S_drew)); exact HO_11.out) (Kd.S_base ho0) hb); have n1_ := Aside0.mk (Kd.S_below (by (with_reducible repeat (first | apply Kd.S_alloc | apply Kd.S_drewN | apply Kd.S_drew)); exact HO_13.out) hb); have n2_ := Aside0.mk (Kd.S_lower (Kd.S_new' ho0 (Kd.S_lt (by (with_reducible repeat (first | apply Kd.S_alloc | apply Kd.S_drewN | apply Kd.S_drew)); exact HO_11.out))) (below_size (by repeat (first | (with_reducible first | exact HB.out | apply below_alloc | apply pw_below_drewN | apply below_drew1 | refine below_set ?_ GE139.out) | exact HB.out)))); have n3_ := Aside0.mk (blk_below (g := gb139) (o := .cells #[.string a0_0, .string a0_1, .string a0_2, .string a0_3, .string a0_4, .string a0_5, .int .i64 a0_6, .slice A0_7 l0_7.length c0_7] 24 (0, 0)) (by (with_reducible repeat (first | refine blk_drewN ?_ _ | refine blk_drew ?_ | refine blk_alloc ?_ _)); exact BK139.out) hb); have n4_ := Aside0.mk (below_step (by repeat (first | (with_reducible first | exact HB.out | apply below_alloc | apply pw_below_drewN | apply below_drew1 | refine below_set ?_ GE139.out) | exact HB.out)) hb); clear HO_11; clear HO_13; clear BK139; clear HB; have HO_11 := n0_; have HO_13 := n1_; have HO165 := n2_; have BK139 := n3_; have HB := n4_; clear n0_ n1_ n2_ n3_ n4_; (try clear hb); (try clear hb2); (try clear hk); (try clear hi); (try clear ho0)))
                    have n0_ := Aside0.mk (Kd.S_drew HO_11.out)
                    have n1_ := Aside0.mk (Kd.S_drew HO_13.out)
                    have n2_ := Aside0.mk (Kd.S_drew HO165.out)
                    have n3_ := Aside0.mk (blk_drew BK139.out)
                    have n4_ := Aside0.mk (below_drew1 HB.out)
                    clear HO_11
                    clear HO_13
                    clear HO165
                    clear BK139
                    clear HB
                    have HO_11 := n0_
                    have HO_13 := n1_
                    have HO165 := n2_
                    have BK139 := n3_
                    have HB := n4_
                    clear n0_ n1_ n2_ n3_ n4_
                    have p167 : 0 ≤ (a4 : Int) := of_decide_eq_true (by first | (with_reducible assumption) | assumption)
                    have q167 : a4 < (l0_7.length : Int) := of_decide_eq_true (by first | (with_reducible assumption) | assumption)
                    obtain ⟨ad167, e167, hx167_0, hx167_1, hx167_2⟩ := at_T65 HR0_7.out a4 p167 q167
                    have hw167_2 := hx167_2
                    have hw167_1 := hx167_1
                    have hw167_0 := hx167_0
                    cases e167
                    replace hx167_0 := (HB.out.cell (World.block_lt_of_cell? w _ hx167_0)).trans hx167_0
                    replace hx167_1 := (HB.out.cell (World.block_lt_of_cell? w _ hx167_1)).trans hx167_1
                    replace hx167_2 := (HB.out.cell (World.block_lt_of_cell? w _ hx167_2)).trans hx167_2
                    replace p167 := eq_true p167
                    replace q167 := eq_true q167
                    refine start_ (n := 13) (S := fun w' => w'.cell? ⟨gb139, 0, none⟩ = some (.string a0_0) ∧ w'.cell? ⟨gb139, 1, none⟩ = some (.string a0_1) ∧ w'.cell? ⟨gb139, 2, none⟩ = some (.string a0_2) ∧ w'.cell? ⟨gb139, 3, none⟩ = some (.string a0_3) ∧ w'.cell? ⟨gb139, 4, none⟩ = some (.string a0_4) ∧ w'.cell? ⟨gb139, 5, none⟩ = some (.string a0_5) ∧ w'.cell? ⟨gb139, 6, none⟩ = some (.int .i64 a0_6) ∧ w'.cell? ⟨gb139, 7, none⟩ = some (.slice (some ad167) l0_7.length c0_7) ∧ w'.cell? (ad167.add ((a4).toNat * 3)) = some (.string ((rd_T65 l0_7 a4).f0)) ∧ w'.cell? ⟨(ad167.add ((a4).toNat * 3)).block, (ad167.add ((a4).toNat * 3)).off + 1, none⟩ = some (.int .i64 ((rd_T65 l0_7 a4).f1)) ∧ w'.cell? ⟨(ad167.add ((a4).toNat * 3)).block, (ad167.add ((a4).toNat * 3)).off + 2, none⟩ = some (.int .i64 ((rd_T65 l0_7 a4).f2))) (ds := []) #[F,F,F,F,F,F,F,F,F,F,F,F,F] (by kernel_rfl) rfl rfl ⟨(blk_cell BK139.out 0).trans rfl, (blk_cell BK139.out 1).trans rfl, (blk_cell BK139.out 2).trans rfl, (blk_cell BK139.out 3).trans rfl, (blk_cell BK139.out 4).trans rfl, (blk_cell BK139.out 5).trans rfl, (blk_cell BK139.out 6).trans rfl, (blk_cell BK139.out 7).trans rfl, ((HB.out.cell (World.block_lt_of_cell? w _ hw167_0)).trans hw167_0), ((HB.out.cell (World.block_lt_of_cell? w _ hw167_1)).trans hw167_1), ((HB.out.cell (World.block_lt_of_cell? w _ hw167_2)).trans hw167_2)⟩ (fun hHeld => ?_); refine with_tabW supercargolaw19_OrderMore.tab15 supercargolaw19_OrderMore.bits15 (fun HT_ HW_ => ?_)
                    generalize w78.drew = w79 at HO_11 HO_13 HO165 BK139 HB hx167_0 hx167_1 hx167_2 hHeld ⊢
                    refine pure_ (i := 0) (N := some 125) (v := ?_) (a' := ?_) #[T,F,F,F,F,F,F,F,F,F,F,F,F] rfl rfl (any_of HT_.out (by kernel_rfl)) (fun _ _ _ h => h) (Or.inl ⟨by rfl, ?_⟩) ?_ ?_
                    rotate_left
                    ·intro w'
                     go_simp
                     with_reducible rfl
                    rotate_left
                    ·simp only [Act.put, List.setIfInBounds_toArray, List.set_cons_zero, List.set_cons_succ, i64_w, i32_w]
                     rfl
                    refine pure_ (i := 2) (N := some 127) (v := ?_) (a' := ?_) #[T,F,T,F,F,F,F,F,F,F,F,F,F] rfl rfl (any_of HT_.out (by kernel_rfl)) (fun _ _ _ h => h) (Or.inl ⟨by rfl, ?_⟩) ?_ ?_
                    rotate_left
                    ·intro w'
                     go_simp
                     with_reducible rfl
                    rotate_left
                    ·simp only [Act.put, List.setIfInBounds_toArray, List.set_cons_zero, List.set_cons_succ, i64_w, i32_w]
                     rfl
                    refine pure_ (i := 4) (N := some 129) (v := ?_) (a' := ?_) #[T,F,T,F,T,F,F,F,F,F,F,F,F] rfl rfl (any_of HT_.out (by kernel_rfl)) (fun _ _ _ h => h) (Or.inl ⟨by rfl, ?_⟩) ?_ ?_
                    rotate_left
                    ·intro w'
                     go_simp
                     with_reducible rfl
                    rotate_left
                    ·simp only [Act.put, List.setIfInBounds_toArray, List.set_cons_zero, List.set_cons_succ, i64_w, i32_w]
                     rfl
                    refine take_ (i := 1) (N := some 126) (v := ?_) (a' := ?_) #[T,T,T,F,T,F,F,F,F,F,F,F,F] rfl rfl (take_ofW HT_.out HW_.out (by kernel_rfl)) (fun _ _ _ h => h) (Or.inl ⟨by rfl, ?_⟩) hHeld ?_ ?_
                    rotate_left
                    ·rintro w' ⟨s0, s1, s2, s3, s4, s5, s6, s7, s8, s9, s10⟩
                     go_simp
                     with_reducible rfl
                    rotate_left
                    ·simp only [Act.put, List.setIfInBounds_toArray, List.set_cons_zero, List.set_cons_succ, i64_w, i32_w]
                     rfl
                    refine take_ (i := 3) (N := some 128) (v := ?_) (a' := ?_) #[T,T,T,T,T,F,F,F,F,F,F,F,F] rfl rfl (take_ofW HT_.out HW_.out (by kernel_rfl)) (fun _ _ _ h => h) (Or.inl ⟨by rfl, ?_⟩) hHeld ?_ ?_
                    rotate_left
                    ·rintro w' ⟨s0, s1, s2, s3, s4, s5, s6, s7, s8, s9, s10⟩
                     go_simp
                     with_reducible rfl
                    rotate_left
                    ·simp only [Act.put, List.setIfInBounds_toArray, List.set_cons_zero, List.set_cons_succ, i64_w, i32_w]
                     rfl
                    refine pure_ (i := 5) (N := some 130) (v := ?_) (a' := ?_) #[T,T,T,T,T,T,F,F,F,F,F,F,F] rfl rfl (any_of HT_.out (by kernel_rfl)) (fun _ _ _ h => h) (Or.inl ⟨by rfl, ?_⟩) ?_ ?_
                    rotate_left
                    ·intro w'
                     go_simp
                     with_reducible rfl
                    rotate_left
                    ·simp only [Act.put, List.setIfInBounds_toArray, List.set_cons_zero, List.set_cons_succ, i64_w, i32_w]
                     rfl
                    refine pure_ (i := 6) (N := some 131) (v := ?_) (a' := ?_) #[T,T,T,T,T,T,T,F,F,F,F,F,F] rfl rfl (any_of HT_.out (by kernel_rfl)) (fun _ _ _ h => h) (Or.inl ⟨by rfl, ?_⟩) ?_ ?_
                    rotate_left
                    ·intro w'
                     go_simp
                     with_reducible rfl
                    rotate_left
                    ·simp only [Act.put, List.setIfInBounds_toArray, List.set_cons_zero, List.set_cons_succ, i64_w, i32_w]
                     rfl
                    refine take_ (i := 7) (N := some 132) (v := ?_) (a' := ?_) #[T,T,T,T,T,T,T,T,F,F,F,F,F] rfl rfl (take_ofW HT_.out HW_.out (by kernel_rfl)) (fun _ _ _ h => h) (Or.inl ⟨by rfl, ?_⟩) hHeld ?_ ?_
                    rotate_left
                    ·rintro w' ⟨s0, s1, s2, s3, s4, s5, s6, s7, s8, s9, s10⟩
                     go_simp
                     with_reducible rfl
                    rotate_left
                    ·simp only [Act.put, List.setIfInBounds_toArray, List.set_cons_zero, List.set_cons_succ, i64_w, i32_w]
                     rfl
                    refine pure_ (i := 8) (N := some 133) (v := ?_) (a' := ?_) #[T,T,T,T,T,T,T,T,T,F,F,F,F] rfl rfl (any_of HT_.out (by kernel_rfl)) (fun _ _ _ h => h) (Or.inl ⟨by rfl, ?_⟩) ?_ ?_
                    rotate_left
                    ·intro w'
                     go_simp
                     with_reducible rfl
                    rotate_left
                    ·simp only [Act.put, List.setIfInBounds_toArray, List.set_cons_zero, List.set_cons_succ, i64_w, i32_w]
                     rfl
                    refine join_ (σ := Value × Nat) 1 #[T,T,T,T,T,T,T,T,T,T,T,T,F] (fun s_ => [(134, s_.1), (17, .pointer (some ⟨s_.2, 0, none⟩)), (135, .agg #[.string a0_0, .int .i64 0, .int .i64 0, s_.1])]) (fun s_ w' => (w'.cell? ⟨gb139, 0, none⟩ = some (.string a0_0) ∧ w'.cell? ⟨gb139, 1, none⟩ = some (.string a0_1) ∧ w'.cell? ⟨gb139, 2, none⟩ = some (.string a0_2) ∧ w'.cell? ⟨gb139, 3, none⟩ = some (.string a0_3) ∧ w'.cell? ⟨gb139, 4, none⟩ = some (.string a0_4) ∧ w'.cell? ⟨gb139, 5, none⟩ = some (.string a0_5) ∧ w'.cell? ⟨gb139, 6, none⟩ = some (.int .i64 a0_6) ∧ w'.cell? ⟨gb139, 7, none⟩ = some (.slice (some ad167) l0_7.length c0_7) ∧ w'.cell? (ad167.add ((a4).toNat * 3)) = some (.string ((rd_T65 l0_7 a4).f0)) ∧ w'.cell? ⟨(ad167.add ((a4).toNat * 3)).block, (ad167.add ((a4).toNat * 3)).off + 1, none⟩ = some (.int .i64 ((rd_T65 l0_7 a4).f1)) ∧ w'.cell? ⟨(ad167.add ((a4).toNat * 3)).block, (ad167.add ((a4).toNat * 3)).off + 2, none⟩ = some (.int .i64 ((rd_T65 l0_7 a4).f2))) ∧ (Kd.S k42 42 w' w.heap.size (fun k_ => some k_ ≠ (s_.1 : Value).ownBlock ∧ some k_ ≠ (v143 : Value).ownBlock ∧ k_ ≠ s_.2) v164 t163) ∧ (Kd.R k67 67 w' w.heap.size (fun _ => True) s_.1 y168) ∧ (Kd.S k42 42 w' w.heap.size (fun k_ => some k_ ≠ (v164 : Value).ownBlock ∧ some k_ ≠ (s_.1 : Value).ownBlock ∧ k_ ≠ s_.2) v143 t142) ∧ (Kd.S (Kd.slice 3 (Kd.int .i64)) 32 w' w.heap.size (fun _ => True) (.slice (some ad157) x13_3.length co73) y162) ∧ (w'.heap[gb139]? = some (.cells #[.string a0_0, .string a0_1, .string a0_2, .string a0_3, .string a0_4, .string a0_5, .int .i64 a0_6, .slice (some ad167) l0_7.length c0_7] 24 (0, 0))) ∧ (w'.heap[s_.2]? = some (.cells #[.string (⟨#[]⟩ : ByteArray), .int .i64 0, .int .i64 0, .slice none 0 0] 42 (0, 0))) ∧ (w.heap.size ≤ s_.2) ∧ (w.heap.size ≤ s_.2) ∧ (gb139 ≠ s_.2) ∧ (s_.2 ≠ gb139) ∧ (Below w.heap.size w w')) ?_ ?_
                    rotate_left
                    ·intro hCont
                     refine two_ (i := 9) (j := 11) (Ni := some 134) (Nj := some 17) #[T,T,T,T,T,T,T,T,T,T,F,F,F] #[T,T,T,T,T,T,T,T,T,F,F,T,F] rfl rfl rfl rfl (two_of HT_.out (by kernel_rfl)) (by decide) (by decide) (fun K hK => ?_) (fun K hK => ?_)
                     ·skip
                      refine Kd.R_lit_step k67 _ 67 ?hg (N := 134) ?hd (xs := ([(⟨(rd_T65 l0_7 a4).f0, 1⟩ : S67)] : List (S67))) (inner := [.string ((rd_T65 l0_7 a4).f0), .int .i64 1]) (ok := fun _ => True) (okp := fun _ => True) ?hr ?hp (fun _ hk => hk) trivial (Below.refl _ _) (Nat.le_refl _) (by simp) ?_; (case hd => rfl); (case hg => rfl); (case hr => first | (go_simp; done) | (go_simp; rfl)); (case hp => exact (Reps.c2 (show Kd.M k67 _ _ _ (⟨(rd_T65 l0_7 a4).f0, 1⟩ : S67) [.string ((rd_T65 l0_7 a4).f0), .int .i64 1] from (k67_mkM _ _ _ (⟨(rd_T65 l0_7 a4).f0, 1⟩ : S67) )) (Reps.none _ _)))
                      intro v169 w80 ho81 hb hg_ hnew_
                      clear hg_ hnew_
                      (first | rw [← Ny168.out] at ho81 | (simp only [Int.reduceToNat] at ho81; rw [← Ny168.out] at ho81))
                      have n0_ := Aside0.mk (Kd.S_elder' (by (with_reducible repeat (first | apply Kd.S_alloc | apply Kd.S_drewN | apply Kd.S_drew)); exact HO_11.out) (Kd.R_base ho81) hb)
                      have n1_ := Aside0.mk (Kd.S_below (by (with_reducible repeat (first | apply Kd.S_alloc | apply Kd.S_drewN | apply Kd.S_drew)); exact HO_13.out) hb)
                      have n2_ := Aside0.mk (Kd.S_elder' (by (with_reducible repeat (first | apply Kd.S_alloc | apply Kd.S_drewN | apply Kd.S_drew)); exact HO165.out) (Kd.R_base ho81) hb)
                      have n3_ := Aside0.mk (Kd.R_lower ho81 (below_size (by repeat (first | (with_reducible first | exact HB.out | apply below_alloc | apply pw_below_drewN | apply below_drew1 | refine below_set ?_ GE139.out) | exact HB.out))))
                      have n4_ := Aside0.mk (blk_below (g := gb139) (o := .cells #[.string a0_0, .string a0_1, .string a0_2, .string a0_3, .string a0_4, .string a0_5, .int .i64 a0_6, .slice (some ad167) l0_7.length c0_7] 24 (0, 0)) (by (with_reducible repeat (first | refine blk_drewN ?_ _ | refine blk_drew ?_ | refine blk_alloc ?_ _)); exact BK139.out) hb)
                      have n5_ := Aside0.mk (below_step (by repeat (first | (with_reducible first | exact HB.out | apply below_alloc | apply pw_below_drewN | apply below_drew1 | refine below_set ?_ GE139.out) | exact HB.out)) hb)
                      clear HO_11
                      clear HO_13
                      clear HO165
                      clear BK139
                      clear HB
                      have HO_11 := n0_
                      have HO_13 := n1_
                      have HO165 := n2_
                      have HO170 := n3_
                      have BK139 := n4_
                      have HB := n5_
                      clear n0_ n1_ n2_ n3_ n4_ n5_
                      clear hb ho81
                      obtain ⟨Ao82, co82, eo82⟩ := Kd.R_slice HO170.out
                      (first | subst eo82 | (injection eo82 with f1_ f2_ f3_; have f4_ := f1_.symm; have f5_ := f3_.symm; clear f1_ f2_ f3_; subst f4_; subst f5_))
                      refine hK.out _ _ ⟨(blk_cell BK139.out 0).trans rfl, (blk_cell BK139.out 1).trans rfl, (blk_cell BK139.out 2).trans rfl, (blk_cell BK139.out 3).trans rfl, (blk_cell BK139.out 4).trans rfl, (blk_cell BK139.out 5).trans rfl, (blk_cell BK139.out 6).trans rfl, (blk_cell BK139.out 7).trans rfl, ((HB.out.cell (World.block_lt_of_cell? w _ hw167_0)).trans hw167_0), ((HB.out.cell (World.block_lt_of_cell? w _ hw167_1)).trans hw167_1), ((HB.out.cell (World.block_lt_of_cell? w _ hw167_2)).trans hw167_2)⟩ (fun hHeld => ?_)
                      clear hK K
                      refine norm_ (a' := ?_) ?_ ?_
                      rotate_left
                      ·show Act.put _ (some 134) _ = _
                       simp only [Act.put, List.setIfInBounds_toArray, List.set_cons_zero, List.set_cons_succ, i64_w, i32_w]
                       rfl
                      refine pure_ (i := 10) (N := some 135) (v := ?_) (a' := ?_) #[T,T,T,T,T,T,T,T,T,T,T,F,F] rfl rfl (any_of HT_.out (by kernel_rfl)) (fun _ _ _ h => h) (Or.inl ⟨by rfl, ?_⟩) ?_ ?_
                      rotate_left
                      ·intro w'
                       go_simp
                       with_reducible rfl
                      rotate_left
                      ·simp only [Act.put, List.setIfInBounds_toArray, List.set_cons_zero, List.set_cons_succ, i64_w, i32_w]
                       rfl
                      refine one_ (i := 11) (N := some 17) #[T,T,T,T,T,T,T,T,T,T,T,T,F] rfl rfl (one_of HT_.out (by kernel_rfl)) (by decide) (fun K hK => ?_)
                      refine box_step ?hg (N := 17) ?hd (cs := #[.string (⟨#[]⟩ : ByteArray), .int .i64 0, .int .i64 0, .slice none 0 0]) (t := 42) ?hr ?_; (case hd => rfl); (case hg => rfl); (case hr => first | (go_simp; done) | (go_simp; rfl))
                      intro gb171 hg w83 hbox hb
                      have n0_ := Aside0.mk (Kd.S_below (Kd.S_elderB (by (with_reducible repeat (first | apply Kd.S_alloc | apply Kd.S_drewN | apply Kd.S_drew)); exact HO_11.out) gb171 (Nat.le_of_eq hg.symm)) hb)
                      have n1_ := Aside0.mk (Kd.S_below (by (with_reducible repeat (first | apply Kd.S_alloc | apply Kd.S_drewN | apply Kd.S_drew)); exact HO_13.out) hb)
                      have n2_ := Aside0.mk (Kd.S_below (Kd.S_elderB (by (with_reducible repeat (first | apply Kd.S_alloc | apply Kd.S_drewN | apply Kd.S_drew)); exact HO165.out) gb171 (Nat.le_of_eq hg.symm)) hb)
                      have n3_ := Aside0.mk (Kd.R_below (by (with_reducible repeat (first | apply Kd.R_alloc | apply Kd.R_drewN | apply Kd.R_drew)); exact HO170.out) hb)
                      have n4_ := Aside0.mk (blk_below (g := gb139) (o := .cells #[.string a0_0, .string a0_1, .string a0_2, .string a0_3, .string a0_4, .string a0_5, .int .i64 a0_6, .slice (some ad167) l0_7.length c0_7] 24 (0, 0)) (by (with_reducible repeat (first | refine blk_drewN ?_ _ | refine blk_drew ?_ | refine blk_alloc ?_ _)); exact BK139.out) hb)
                      have n5_ := Aside0.mk (below_step (by repeat (first | (with_reducible first | exact HB.out | apply below_alloc | apply pw_below_drewN | apply below_drew1 | refine below_set ?_ GE139.out) | exact HB.out)) hb)
                      have n6_ := Aside0.mk (hbox)
                      have n7_ := Aside0.mk ((by rw [hg]; exact (below_size (by repeat (first | (with_reducible first | exact HB.out | apply below_alloc | apply pw_below_drewN | apply below_drew1 | refine below_set ?_ GE139.out) | exact HB.out))) : w.heap.size ≤ gb171))
                      have n8_ := Aside0.mk ((by rw [hg]; exact (below_size (by repeat (first | (with_reducible first | exact HB.out | apply below_alloc | apply pw_below_drewN | apply below_drew1 | refine below_set ?_ GE139.out) | exact HB.out))) : w.heap.size ≤ gb171))
                      have n9_ := Aside0.mk ((by rw [hg]; exact Nat.ne_of_lt (blk_lt (g := gb139) (o := .cells #[.string a0_0, .string a0_1, .string a0_2, .string a0_3, .string a0_4, .string a0_5, .int .i64 a0_6, .slice (some ad167) l0_7.length c0_7] 24 (0, 0)) (by (with_reducible repeat (first | refine blk_drewN ?_ _ | refine blk_drew ?_ | refine blk_alloc ?_ _)); exact BK139.out)) : gb139 ≠ gb171))
                      have n10_ := Aside0.mk ((by rw [hg]; exact Nat.ne_of_gt (blk_lt (g := gb139) (o := .cells #[.string a0_0, .string a0_1, .string a0_2, .string a0_3, .string a0_4, .string a0_5, .int .i64 a0_6, .slice (some ad167) l0_7.length c0_7] 24 (0, 0)) (by (with_reducible repeat (first | refine blk_drewN ?_ _ | refine blk_drew ?_ | refine blk_alloc ?_ _)); exact BK139.out)) : gb171 ≠ gb139))
                      clear HO_11
                      clear HO_13
                      clear HO165
                      clear HO170
                      clear BK139
                      clear HB
                      have HO_11 := n0_
                      have HO_13 := n1_
                      have HO165 := n2_
                      have HO170 := n3_
                      have BK139 := n4_
                      have HB := n5_
                      have BK171 := n6_
                      have GW171 := n7_
                      have GE171 := n8_
                      have NB139_171 := n9_
                      have NB171_139 := n10_
                      clear n0_ n1_ n2_ n3_ n4_ n5_ n6_ n7_ n8_ n9_ n10_
                      clear hb hbox hg
                      refine hK.out _ _ ⟨(blk_cell BK139.out 0).trans rfl, (blk_cell BK139.out 1).trans rfl, (blk_cell BK139.out 2).trans rfl, (blk_cell BK139.out 3).trans rfl, (blk_cell BK139.out 4).trans rfl, (blk_cell BK139.out 5).trans rfl, (blk_cell BK139.out 6).trans rfl, (blk_cell BK139.out 7).trans rfl, ((HB.out.cell (World.block_lt_of_cell? w _ hw167_0)).trans hw167_0), ((HB.out.cell (World.block_lt_of_cell? w _ hw167_1)).trans hw167_1), ((HB.out.cell (World.block_lt_of_cell? w _ hw167_2)).trans hw167_2)⟩ (fun hHeld => ?_)
                      clear hK K
                      refine norm_ (a' := ?_) ?_ ?_
                      rotate_left
                      ·show Act.put _ (some 17) _ = _
                       simp only [Act.put, List.setIfInBounds_toArray, List.set_cons_zero, List.set_cons_succ, i64_w, i32_w]
                       rfl
                      exact norm_ (by simp only [putAll, Act.put, List.setIfInBounds_toArray, List.set_cons_zero, List.set_cons_succ]) (hCont (.slice Ao82 y168.length co82, gb171) _ ⟨hHeld, (by (with_reducible repeat (first | apply Kd.S_alloc | apply Kd.S_drewN | apply Kd.S_drew)); exact Kd.S_mono HO165.out (fun _ hk => ⟨hk.1.2, ⟨hk.1.1.2, hk.2⟩⟩)), (by (with_reducible repeat (first | apply Kd.R_alloc | apply Kd.R_drewN | apply Kd.R_drew)); exact HO170.out), (by (with_reducible repeat (first | apply Kd.S_alloc | apply Kd.S_drewN | apply Kd.S_drew)); exact Kd.S_mono HO_11.out (fun _ hk => ⟨hk.1.1.2, ⟨hk.1.2, hk.2⟩⟩)), (by (with_reducible repeat (first | apply Kd.S_alloc | apply Kd.S_drewN | apply Kd.S_drew)); exact HO_13.out), (by (with_reducible repeat (first | refine blk_drewN ?_ _ | refine blk_drew ?_ | refine blk_alloc ?_ _)); exact BK139.out), (by (with_reducible repeat (first | refine blk_drewN ?_ _ | refine blk_drew ?_ | refine blk_alloc ?_ _)); exact BK171.out), GW171.out, GE171.out, NB139_171.out, NB171_139.out, (by repeat (first | (with_reducible first | exact HB.out | apply below_alloc | apply pw_below_drewN | apply below_drew1 | refine below_set ?_ GE139.out | refine below_set ?_ GE171.out) | exact HB.out))⟩)
                     ·skip
                      refine box_step ?hg (N := 17) ?hd (cs := #[.string (⟨#[]⟩ : ByteArray), .int .i64 0, .int .i64 0, .slice none 0 0]) (t := 42) ?hr ?_; (case hd => rfl); (case hg => rfl); (case hr => first | (go_simp; done) | (go_simp; rfl))
                      intro gb171 hg w80 hbox hb
                      have n0_ := Aside0.mk (Kd.S_below (Kd.S_elderB (by (with_reducible repeat (first | apply Kd.S_alloc | apply Kd.S_drewN | apply Kd.S_drew)); exact HO_11.out) gb171 (Nat.le_of_eq hg.symm)) hb)
                      have n1_ := Aside0.mk (Kd.S_below (by (with_reducible repeat (first | apply Kd.S_alloc | apply Kd.S_drewN | apply Kd.S_drew)); exact HO_13.out) hb)
                      have n2_ := Aside0.mk (Kd.S_below (Kd.S_elderB (by (with_reducible repeat (first | apply Kd.S_alloc | apply Kd.S_drewN | apply Kd.S_drew)); exact HO165.out) gb171 (Nat.le_of_eq hg.symm)) hb)
                      have n3_ := Aside0.mk (blk_below (g := gb139) (o := .cells #[.string a0_0, .string a0_1, .string a0_2, .string a0_3, .string a0_4, .string a0_5, .int .i64 a0_6, .slice (some ad167) l0_7.length c0_7] 24 (0, 0)) (by (with_reducible repeat (first | refine blk_drewN ?_ _ | refine blk_drew ?_ | refine blk_alloc ?_ _)); exact BK139.out) hb)
                      have n4_ := Aside0.mk (below_step (by repeat (first | (with_reducible first | exact HB.out | apply below_alloc | apply pw_below_drewN | apply below_drew1 | refine below_set ?_ GE139.out) | exact HB.out)) hb)
                      have n5_ := Aside0.mk (hbox)
                      have n6_ := Aside0.mk ((by rw [hg]; exact (below_size (by repeat (first | (with_reducible first | exact HB.out | apply below_alloc | apply pw_below_drewN | apply below_drew1 | refine below_set ?_ GE139.out) | exact HB.out))) : w.heap.size ≤ gb171))
                      have n7_ := Aside0.mk ((by rw [hg]; exact (below_size (by repeat (first | (with_reducible first | exact HB.out | apply below_alloc | apply pw_below_drewN | apply below_drew1 | refine below_set ?_ GE139.out) | exact HB.out))) : w.heap.size ≤ gb171))
                      have n8_ := Aside0.mk ((by rw [hg]; exact Nat.ne_of_lt (blk_lt (g := gb139) (o := .cells #[.string a0_0, .string a0_1, .string a0_2, .string a0_3, .string a0_4, .string a0_5, .int .i64 a0_6, .slice (some ad167) l0_7.length c0_7] 24 (0, 0)) (by (with_reducible repeat (first | refine blk_drewN ?_ _ | refine blk_drew ?_ | refine blk_alloc ?_ _)); exact BK139.out)) : gb139 ≠ gb171))
                      have n9_ := Aside0.mk ((by rw [hg]; exact Nat.ne_of_gt (blk_lt (g := gb139) (o := .cells #[.string a0_0, .string a0_1, .string a0_2, .string a0_3, .string a0_4, .string a0_5, .int .i64 a0_6, .slice (some ad167) l0_7.length c0_7] 24 (0, 0)) (by (with_reducible repeat (first | refine blk_drewN ?_ _ | refine blk_drew ?_ | refine blk_alloc ?_ _)); exact BK139.out)) : gb171 ≠ gb139))
                      clear HO_11
                      clear HO_13
                      clear HO165
                      clear BK139
                      clear HB
                      have HO_11 := n0_
                      have HO_13 := n1_
                      have HO165 := n2_
                      have BK139 := n3_
                      have HB := n4_
                      have BK171 := n5_
                      have GW171 := n6_
                      have GE171 := n7_
                      have NB139_171 := n8_
                      have NB171_139 := n9_
                      clear n0_ n1_ n2_ n3_ n4_ n5_ n6_ n7_ n8_ n9_
                      clear hb hbox hg
                      refine hK.out _ _ ⟨(blk_cell BK139.out 0).trans rfl, (blk_cell BK139.out 1).trans rfl, (blk_cell BK139.out 2).trans rfl, (blk_cell BK139.out 3).trans rfl, (blk_cell BK139.out 4).trans rfl, (blk_cell BK139.out 5).trans rfl, (blk_cell BK139.out 6).trans rfl, (blk_cell BK139.out 7).trans rfl, ((HB.out.cell (World.block_lt_of_cell? w _ hw167_0)).trans hw167_0), ((HB.out.cell (World.block_lt_of_cell? w _ hw167_1)).trans hw167_1), ((HB.out.cell (World.block_lt_of_cell? w _ hw167_2)).trans hw167_2)⟩ (fun hHeld => ?_)
                      clear hK K
                      refine norm_ (a' := ?_) ?_ ?_
                      rotate_left
                      ·show Act.put _ (some 17) _ = _
                       simp only [Act.put, List.setIfInBounds_toArray, List.set_cons_zero, List.set_cons_succ, i64_w, i32_w]
                       rfl
                      refine one_ (i := 9) (N := some 134) #[T,T,T,T,T,T,T,T,T,T,F,T,F] rfl rfl (one_of HT_.out (by kernel_rfl)) (by decide) (fun K hK => ?_)
                      refine Kd.R_lit_step k67 _ 67 ?hg (N := 134) ?hd (xs := ([(⟨(rd_T65 l0_7 a4).f0, 1⟩ : S67)] : List (S67))) (inner := [.string ((rd_T65 l0_7 a4).f0), .int .i64 1]) (ok := fun _ => True) (okp := fun _ => True) ?hr ?hp (fun _ hk => hk) trivial (Below.refl _ _) (Nat.le_refl _) (by simp) ?_; (case hd => rfl); (case hg => rfl); (case hr => first | (go_simp; done) | (go_simp; rfl)); (case hp => exact (Reps.c2 (show Kd.M k67 _ _ _ (⟨(rd_T65 l0_7 a4).f0, 1⟩ : S67) [.string ((rd_T65 l0_7 a4).f0), .int .i64 1] from (k67_mkM _ _ _ (⟨(rd_T65 l0_7 a4).f0, 1⟩ : S67) )) (Reps.none _ _)))
                      intro v169 w81 ho82 hb hg_ hnew_
                      clear hg_ hnew_
                      (first | rw [← Ny168.out] at ho82 | (simp only [Int.reduceToNat] at ho82; rw [← Ny168.out] at ho82))
                      have n0_ := Aside0.mk (Kd.S_elder' (by (with_reducible repeat (first | apply Kd.S_alloc | apply Kd.S_drewN | apply Kd.S_drew)); exact HO_11.out) (Kd.R_base ho82) hb)
                      have n1_ := Aside0.mk (Kd.S_below (by (with_reducible repeat (first | apply Kd.S_alloc | apply Kd.S_drewN | apply Kd.S_drew)); exact HO_13.out) hb)
                      have n2_ := Aside0.mk (Kd.S_elder' (by (with_reducible repeat (first | apply Kd.S_alloc | apply Kd.S_drewN | apply Kd.S_drew)); exact HO165.out) (Kd.R_base ho82) hb)
                      have n3_ := Aside0.mk (Kd.R_lower ho82 (below_size (by repeat (first | (with_reducible first | exact HB.out | apply below_alloc | apply pw_below_drewN | apply below_drew1 | refine below_set ?_ GE139.out | refine below_set ?_ GE171.out) | exact HB.out))))
                      have n4_ := Aside0.mk (blk_below (g := gb139) (o := .cells #[.string a0_0, .string a0_1, .string a0_2, .string a0_3, .string a0_4, .string a0_5, .int .i64 a0_6, .slice (some ad167) l0_7.length c0_7] 24 (0, 0)) (by (with_reducible repeat (first | refine blk_drewN ?_ _ | refine blk_drew ?_ | refine blk_alloc ?_ _)); exact BK139.out) hb)
                      have n5_ := Aside0.mk (blk_below (g := gb171) (o := .cells #[.string (⟨#[]⟩ : ByteArray), .int .i64 0, .int .i64 0, .slice none 0 0] 42 (0, 0)) (by (with_reducible repeat (first | refine blk_drewN ?_ _ | refine blk_drew ?_ | refine blk_alloc ?_ _)); exact BK171.out) hb)
                      have n6_ := Aside0.mk (below_step (by repeat (first | (with_reducible first | exact HB.out | apply below_alloc | apply pw_below_drewN | apply below_drew1 | refine below_set ?_ GE139.out | refine below_set ?_ GE171.out) | exact HB.out)) hb)
                      clear HO_11
                      clear HO_13
                      clear HO165
                      clear BK139
                      clear BK171
                      clear HB
                      have HO_11 := n0_
                      have HO_13 := n1_
                      have HO165 := n2_
                      have HO170 := n3_
                      have BK139 := n4_
                      have BK171 := n5_
                      have HB := n6_
                      clear n0_ n1_ n2_ n3_ n4_ n5_ n6_
                      clear hb ho82
                      obtain ⟨Ao83, co83, eo83⟩ := Kd.R_slice HO170.out
                      (first | subst eo83 | (injection eo83 with f1_ f2_ f3_; have f4_ := f1_.symm; have f5_ := f3_.symm; clear f1_ f2_ f3_; subst f4_; subst f5_))
                      refine hK.out _ _ ⟨(blk_cell BK139.out 0).trans rfl, (blk_cell BK139.out 1).trans rfl, (blk_cell BK139.out 2).trans rfl, (blk_cell BK139.out 3).trans rfl, (blk_cell BK139.out 4).trans rfl, (blk_cell BK139.out 5).trans rfl, (blk_cell BK139.out 6).trans rfl, (blk_cell BK139.out 7).trans rfl, ((HB.out.cell (World.block_lt_of_cell? w _ hw167_0)).trans hw167_0), ((HB.out.cell (World.block_lt_of_cell? w _ hw167_1)).trans hw167_1), ((HB.out.cell (World.block_lt_of_cell? w _ hw167_2)).trans hw167_2)⟩ (fun hHeld => ?_)
                      clear hK K
                      refine norm_ (a' := ?_) ?_ ?_
                      rotate_left
                      ·show Act.put _ (some 134) _ = _
                       simp only [Act.put, List.setIfInBounds_toArray, List.set_cons_zero, List.set_cons_succ, i64_w, i32_w]
                       rfl
                      refine pure_ (i := 10) (N := some 135) (v := ?_) (a' := ?_) #[T,T,T,T,T,T,T,T,T,T,T,T,F] rfl rfl (any_of HT_.out (by kernel_rfl)) (fun _ _ _ h => h) (Or.inl ⟨by rfl, ?_⟩) ?_ ?_
                      rotate_left
                      ·intro w'
                       go_simp
                       with_reducible rfl
                      rotate_left
                      ·simp only [Act.put, List.setIfInBounds_toArray, List.set_cons_zero, List.set_cons_succ, i64_w, i32_w]
                       rfl
                      exact norm_ (by simp only [putAll, Act.put, List.setIfInBounds_toArray, List.set_cons_zero, List.set_cons_succ]) (hCont (.slice Ao83 y168.length co83, gb171) _ ⟨hHeld, (by (with_reducible repeat (first | apply Kd.S_alloc | apply Kd.S_drewN | apply Kd.S_drew)); exact Kd.S_mono HO165.out (fun _ hk => ⟨hk.2, ⟨hk.1.1.2, hk.1.2⟩⟩)), (by (with_reducible repeat (first | apply Kd.R_alloc | apply Kd.R_drewN | apply Kd.R_drew)); exact HO170.out), (by (with_reducible repeat (first | apply Kd.S_alloc | apply Kd.S_drewN | apply Kd.S_drew)); exact Kd.S_mono HO_11.out (fun _ hk => ⟨hk.1.1.2, ⟨hk.2, hk.1.2⟩⟩)), (by (with_reducible repeat (first | apply Kd.S_alloc | apply Kd.S_drewN | apply Kd.S_drew)); exact HO_13.out), (by (with_reducible repeat (first | refine blk_drewN ?_ _ | refine blk_drew ?_ | refine blk_alloc ?_ _)); exact BK139.out), (by (with_reducible repeat (first | refine blk_drewN ?_ _ | refine blk_drew ?_ | refine blk_alloc ?_ _)); exact BK171.out), GW171.out, GE171.out, NB139_171.out, NB171_139.out, (by repeat (first | (with_reducible first | exact HB.out | apply below_alloc | apply pw_below_drewN | apply below_drew1 | refine below_set ?_ GE139.out | refine below_set ?_ GE171.out) | exact HB.out))⟩)
                    rintro ⟨v169, gb171⟩ w84 ⟨hS_, h0_, h1_, h2_, h3_, h4_, h5_, h6_, h7_, h8_, h9_, h10_⟩
                    have n0_ : Aside0 (Kd.S k42 42 w84 w.heap.size (fun k_ => some k_ ≠ (v169 : Value).ownBlock ∧ some k_ ≠ (v143 : Value).ownBlock ∧ k_ ≠ gb171) v164 t163) := ⟨h0_⟩
                    have n1_ : Aside0 (Kd.R k67 67 w84 w.heap.size (fun _ => True) v169 y168) := ⟨h1_⟩
                    have n2_ : Aside0 (Kd.S k42 42 w84 w.heap.size (fun k_ => some k_ ≠ (v164 : Value).ownBlock ∧ some k_ ≠ (v169 : Value).ownBlock ∧ k_ ≠ gb171) v143 t142) := ⟨h2_⟩
                    have n3_ : Aside0 (Kd.S (Kd.slice 3 (Kd.int .i64)) 32 w84 w.heap.size (fun _ => True) (.slice (some ad157) x13_3.length co73) y162) := ⟨h3_⟩
                    have n4_ : Aside0 (w84.heap[gb139]? = some (.cells #[.string a0_0, .string a0_1, .string a0_2, .string a0_3, .string a0_4, .string a0_5, .int .i64 a0_6, .slice (some ad167) l0_7.length c0_7] 24 (0, 0))) := ⟨h4_⟩
                    have n5_ : Aside0 (w84.heap[gb171]? = some (.cells #[.string (⟨#[]⟩ : ByteArray), .int .i64 0, .int .i64 0, .slice none 0 0] 42 (0, 0))) := ⟨h5_⟩
                    have n6_ : Aside0 (w.heap.size ≤ gb171) := ⟨h6_⟩
                    have n7_ : Aside0 (w.heap.size ≤ gb171) := ⟨h7_⟩
                    have n8_ : Aside0 (gb139 ≠ gb171) := ⟨h8_⟩
                    have n9_ : Aside0 (gb171 ≠ gb139) := ⟨h9_⟩
                    have n10_ : Aside0 (Below w.heap.size w w84) := ⟨h10_⟩
                    clear HO_11
                    clear HO_13
                    clear HO165
                    clear BK139
                    clear HB
                    clear h0_ h1_ h2_ h3_ h4_ h5_ h6_ h7_ h8_ h9_ h10_
                    have HO165 := n0_
                    have HO170 := n1_
                    have HO_11 := n2_
                    have HO_13 := n3_
                    have BK139 := n4_
                    have BK171 := n5_
                    have GW171 := n6_
                    have GE171 := n7_
                    have NB139_171 := n8_
                    have NB171_139 := n9_
                    have HB := n10_
                    clear n0_ n1_ n2_ n3_ n4_ n5_ n6_ n7_ n8_ n9_ n10_
                    have hHeld : w84.cell? ⟨gb139, 0, none⟩ = some (.string a0_0) ∧ w84.cell? ⟨gb139, 1, none⟩ = some (.string a0_1) ∧ w84.cell? ⟨gb139, 2, none⟩ = some (.string a0_2) ∧ w84.cell? ⟨gb139, 3, none⟩ = some (.string a0_3) ∧ w84.cell? ⟨gb139, 4, none⟩ = some (.string a0_4) ∧ w84.cell? ⟨gb139, 5, none⟩ = some (.string a0_5) ∧ w84.cell? ⟨gb139, 6, none⟩ = some (.int .i64 a0_6) ∧ w84.cell? ⟨gb139, 7, none⟩ = some (.slice (some ad167) l0_7.length c0_7) ∧ w84.cell? (ad167.add ((a4).toNat * 3)) = some (.string ((rd_T65 l0_7 a4).f0)) ∧ w84.cell? ⟨(ad167.add ((a4).toNat * 3)).block, (ad167.add ((a4).toNat * 3)).off + 1, none⟩ = some (.int .i64 ((rd_T65 l0_7 a4).f1)) ∧ w84.cell? ⟨(ad167.add ((a4).toNat * 3)).block, (ad167.add ((a4).toNat * 3)).off + 2, none⟩ = some (.int .i64 ((rd_T65 l0_7 a4).f2)) := hS_
                    obtain ⟨Ao85, co85, eo85⟩ := Kd.R_slice HO170.out
                    (first | subst eo85 | (injection eo85 with f1_ f2_ f3_; have f4_ := f1_.symm; have f5_ := f3_.symm; clear f1_ f2_ f3_; subst f4_; subst f5_))
                    refine norm_ (a' := ?_) ?_ ?_
                    rotate_left
                    ·simp only [putAll, Act.put, List.setIfInBounds_toArray, List.set_cons_zero, List.set_cons_succ]
                     rfl
                    refine one_ (i := 12) (N := none) #[T,T,T,T,T,T,T,T,T,T,T,T,T] rfl rfl (one_of HT_.out (by kernel_rfl)) (by decide) (fun K hK => ?_)
                    have hs86 : w84.cell? ⟨gb171, 0, none⟩ = some (.string (⟨#[]⟩ : ByteArray)) := (blk_cell BK171.out 0).trans rfl
                    have hfs86 := blk_frozen BK171.out 0
                    have hns86_0 := NB139_171.out
                    have hms86_0 := NB171_139.out
                    have hs87 : w84.cell? ⟨gb171, 1, none⟩ = some (.int .i64 0) := (blk_cell BK171.out 1).trans rfl
                    have hfs87 := blk_frozen BK171.out 1
                    have hns87_0 := NB139_171.out
                    have hms87_0 := NB171_139.out
                    have hs88 : w84.cell? ⟨gb171, 2, none⟩ = some (.int .i64 0) := (blk_cell BK171.out 2).trans rfl
                    have hfs88 := blk_frozen BK171.out 2
                    have hns88_0 := NB139_171.out
                    have hms88_0 := NB171_139.out
                    have hs89 : w84.cell? ⟨gb171, 3, none⟩ = some (.slice none 0 0) := (blk_cell BK171.out 3).trans rfl
                    have hfs89 := blk_frozen BK171.out 3
                    have hns89_0 := NB139_171.out
                    have hms89_0 := NB171_139.out
                    refine skip_ (w1 := ?_) (by rfl) rfl ?_ ?_
                    rotate_left
                    ·go_simp
                     rfl
                    refine hK.out _ _ ⟨((cell_far (p := ⟨gb171, _, none⟩) NB139_171.out _).trans (((cell_far (p := ⟨gb171, _, none⟩) NB139_171.out _).trans (((cell_far (p := ⟨gb171, _, none⟩) NB139_171.out _).trans (((cell_far (p := ⟨gb171, _, none⟩) NB139_171.out _).trans (hHeld.1)))))))), ((cell_far (p := ⟨gb171, _, none⟩) NB139_171.out _).trans (((cell_far (p := ⟨gb171, _, none⟩) NB139_171.out _).trans (((cell_far (p := ⟨gb171, _, none⟩) NB139_171.out _).trans (((cell_far (p := ⟨gb171, _, none⟩) NB139_171.out _).trans (hHeld.2.1)))))))), ((cell_far (p := ⟨gb171, _, none⟩) NB139_171.out _).trans (((cell_far (p := ⟨gb171, _, none⟩) NB139_171.out _).trans (((cell_far (p := ⟨gb171, _, none⟩) NB139_171.out _).trans (((cell_far (p := ⟨gb171, _, none⟩) NB139_171.out _).trans (hHeld.2.2.1)))))))), ((cell_far (p := ⟨gb171, _, none⟩) NB139_171.out _).trans (((cell_far (p := ⟨gb171, _, none⟩) NB139_171.out _).trans (((cell_far (p := ⟨gb171, _, none⟩) NB139_171.out _).trans (((cell_far (p := ⟨gb171, _, none⟩) NB139_171.out _).trans (hHeld.2.2.2.1)))))))), ((cell_far (p := ⟨gb171, _, none⟩) NB139_171.out _).trans (((cell_far (p := ⟨gb171, _, none⟩) NB139_171.out _).trans (((cell_far (p := ⟨gb171, _, none⟩) NB139_171.out _).trans (((cell_far (p := ⟨gb171, _, none⟩) NB139_171.out _).trans (hHeld.2.2.2.2.1)))))))), ((cell_far (p := ⟨gb171, _, none⟩) NB139_171.out _).trans (((cell_far (p := ⟨gb171, _, none⟩) NB139_171.out _).trans (((cell_far (p := ⟨gb171, _, none⟩) NB139_171.out _).trans (((cell_far (p := ⟨gb171, _, none⟩) NB139_171.out _).trans (hHeld.2.2.2.2.2.1)))))))), ((cell_far (p := ⟨gb171, _, none⟩) NB139_171.out _).trans (((cell_far (p := ⟨gb171, _, none⟩) NB139_171.out _).trans (((cell_far (p := ⟨gb171, _, none⟩) NB139_171.out _).trans (((cell_far (p := ⟨gb171, _, none⟩) NB139_171.out _).trans (hHeld.2.2.2.2.2.2.1)))))))), ((cell_far (p := ⟨gb171, _, none⟩) NB139_171.out _).trans (((cell_far (p := ⟨gb171, _, none⟩) NB139_171.out _).trans (((cell_far (p := ⟨gb171, _, none⟩) NB139_171.out _).trans (((cell_far (p := ⟨gb171, _, none⟩) NB139_171.out _).trans (hHeld.2.2.2.2.2.2.2.1)))))))), ((cell_far (p := ⟨gb171, _, none⟩) (by first | exact Nat.ne_of_lt (Nat.lt_of_lt_of_le (by have := World.block_lt_of_cell? _ _ hw167_0; first | rwa [add_block] at this | exact this) GW171.out) | (rw [add_block]; exact Nat.ne_of_lt (Nat.lt_of_lt_of_le (by have := World.block_lt_of_cell? _ _ hw167_0; first | rwa [add_block] at this | exact this) GW171.out)) | (show (Addr.add _ _).block ≠ _; rw [add_block]; exact Nat.ne_of_lt (Nat.lt_of_lt_of_le (by have := World.block_lt_of_cell? _ _ hw167_0; first | rwa [add_block] at this | exact this) GW171.out)) | (dsimp only; exact Nat.ne_of_lt (Nat.lt_of_lt_of_le (by have := World.block_lt_of_cell? _ _ hw167_0; first | rwa [add_block] at this | exact this) GW171.out))) _).trans (((cell_far (p := ⟨gb171, _, none⟩) (by first | exact Nat.ne_of_lt (Nat.lt_of_lt_of_le (by have := World.block_lt_of_cell? _ _ hw167_0; first | rwa [add_block] at this | exact this) GW171.out) | (rw [add_block]; exact Nat.ne_of_lt (Nat.lt_of_lt_of_le (by have := World.block_lt_of_cell? _ _ hw167_0; first | rwa [add_block] at this | exact this) GW171.out)) | (show (Addr.add _ _).block ≠ _; rw [add_block]; exact Nat.ne_of_lt (Nat.lt_of_lt_of_le (by have := World.block_lt_of_cell? _ _ hw167_0; first | rwa [add_block] at this | exact this) GW171.out)) | (dsimp only; exact Nat.ne_of_lt (Nat.lt_of_lt_of_le (by have := World.block_lt_of_cell? _ _ hw167_0; first | rwa [add_block] at this | exact this) GW171.out))) _).trans (((cell_far (p := ⟨gb171, _, none⟩) (by first | exact Nat.ne_of_lt (Nat.lt_of_lt_of_le (by have := World.block_lt_of_cell? _ _ hw167_0; first | rwa [add_block] at this | exact this) GW171.out) | (rw [add_block]; exact Nat.ne_of_lt (Nat.lt_of_lt_of_le (by have := World.block_lt_of_cell? _ _ hw167_0; first | rwa [add_block] at this | exact this) GW171.out)) | (show (Addr.add _ _).block ≠ _; rw [add_block]; exact Nat.ne_of_lt (Nat.lt_of_lt_of_le (by have := World.block_lt_of_cell? _ _ hw167_0; first | rwa [add_block] at this | exact this) GW171.out)) | (dsimp only; exact Nat.ne_of_lt (Nat.lt_of_lt_of_le (by have := World.block_lt_of_cell? _ _ hw167_0; first | rwa [add_block] at this | exact this) GW171.out))) _).trans (((cell_far (p := ⟨gb171, _, none⟩) (by first | exact Nat.ne_of_lt (Nat.lt_of_lt_of_le (by have := World.block_lt_of_cell? _ _ hw167_0; first | rwa [add_block] at this | exact this) GW171.out) | (rw [add_block]; exact Nat.ne_of_lt (Nat.lt_of_lt_of_le (by have := World.block_lt_of_cell? _ _ hw167_0; first | rwa [add_block] at this | exact this) GW171.out)) | (show (Addr.add _ _).block ≠ _; rw [add_block]; exact Nat.ne_of_lt (Nat.lt_of_lt_of_le (by have := World.block_lt_of_cell? _ _ hw167_0; first | rwa [add_block] at this | exact this) GW171.out)) | (dsimp only; exact Nat.ne_of_lt (Nat.lt_of_lt_of_le (by have := World.block_lt_of_cell? _ _ hw167_0; first | rwa [add_block] at this | exact this) GW171.out))) _).trans (hHeld.2.2.2.2.2.2.2.2.1)))))))), ((cell_far (p := ⟨gb171, _, none⟩) (by first | exact Nat.ne_of_lt (Nat.lt_of_lt_of_le (by have := World.block_lt_of_cell? _ _ hw167_1; first | rwa [add_block] at this | exact this) GW171.out) | (rw [add_block]; exact Nat.ne_of_lt (Nat.lt_of_lt_of_le (by have := World.block_lt_of_cell? _ _ hw167_1; first | rwa [add_block] at this | exact this) GW171.out)) | (show (Addr.add _ _).block ≠ _; rw [add_block]; exact Nat.ne_of_lt (Nat.lt_of_lt_of_le (by have := World.block_lt_of_cell? _ _ hw167_1; first | rwa [add_block] at this | exact this) GW171.out)) | (dsimp only; exact Nat.ne_of_lt (Nat.lt_of_lt_of_le (by have := World.block_lt_of_cell? _ _ hw167_1; first | rwa [add_block] at this | exact this) GW171.out))) _).trans (((cell_far (p := ⟨gb171, _, none⟩) (by first | exact Nat.ne_of_lt (Nat.lt_of_lt_of_le (by have := World.block_lt_of_cell? _ _ hw167_1; first | rwa [add_block] at this | exact this) GW171.out) | (rw [add_block]; exact Nat.ne_of_lt (Nat.lt_of_lt_of_le (by have := World.block_lt_of_cell? _ _ hw167_1; first | rwa [add_block] at this | exact this) GW171.out)) | (show (Addr.add _ _).block ≠ _; rw [add_block]; exact Nat.ne_of_lt (Nat.lt_of_lt_of_le (by have := World.block_lt_of_cell? _ _ hw167_1; first | rwa [add_block] at this | exact this) GW171.out)) | (dsimp only; exact Nat.ne_of_lt (Nat.lt_of_lt_of_le (by have := World.block_lt_of_cell? _ _ hw167_1; first | rwa [add_block] at this | exact this) GW171.out))) _).trans (((cell_far (p := ⟨gb171, _, none⟩) (by first | exact Nat.ne_of_lt (Nat.lt_of_lt_of_le (by have := World.block_lt_of_cell? _ _ hw167_1; first | rwa [add_block] at this | exact this) GW171.out) | (rw [add_block]; exact Nat.ne_of_lt (Nat.lt_of_lt_of_le (by have := World.block_lt_of_cell? _ _ hw167_1; first | rwa [add_block] at this | exact this) GW171.out)) | (show (Addr.add _ _).block ≠ _; rw [add_block]; exact Nat.ne_of_lt (Nat.lt_of_lt_of_le (by have := World.block_lt_of_cell? _ _ hw167_1; first | rwa [add_block] at this | exact this) GW171.out)) | (dsimp only; exact Nat.ne_of_lt (Nat.lt_of_lt_of_le (by have := World.block_lt_of_cell? _ _ hw167_1; first | rwa [add_block] at this | exact this) GW171.out))) _).trans (((cell_far (p := ⟨gb171, _, none⟩) (by first | exact Nat.ne_of_lt (Nat.lt_of_lt_of_le (by have := World.block_lt_of_cell? _ _ hw167_1; first | rwa [add_block] at this | exact this) GW171.out) | (rw [add_block]; exact Nat.ne_of_lt (Nat.lt_of_lt_of_le (by have := World.block_lt_of_cell? _ _ hw167_1; first | rwa [add_block] at this | exact this) GW171.out)) | (show (Addr.add _ _).block ≠ _; rw [add_block]; exact Nat.ne_of_lt (Nat.lt_of_lt_of_le (by have := World.block_lt_of_cell? _ _ hw167_1; first | rwa [add_block] at this | exact this) GW171.out)) | (dsimp only; exact Nat.ne_of_lt (Nat.lt_of_lt_of_le (by have := World.block_lt_of_cell? _ _ hw167_1; first | rwa [add_block] at this | exact this) GW171.out))) _).trans (hHeld.2.2.2.2.2.2.2.2.2.1)))))))), ((cell_far (p := ⟨gb171, _, none⟩) (by first | exact Nat.ne_of_lt (Nat.lt_of_lt_of_le (by have := World.block_lt_of_cell? _ _ hw167_2; first | rwa [add_block] at this | exact this) GW171.out) | (rw [add_block]; exact Nat.ne_of_lt (Nat.lt_of_lt_of_le (by have := World.block_lt_of_cell? _ _ hw167_2; first | rwa [add_block] at this | exact this) GW171.out)) | (show (Addr.add _ _).block ≠ _; rw [add_block]; exact Nat.ne_of_lt (Nat.lt_of_lt_of_le (by have := World.block_lt_of_cell? _ _ hw167_2; first | rwa [add_block] at this | exact this) GW171.out)) | (dsimp only; exact Nat.ne_of_lt (Nat.lt_of_lt_of_le (by have := World.block_lt_of_cell? _ _ hw167_2; first | rwa [add_block] at this | exact this) GW171.out))) _).trans (((cell_far (p := ⟨gb171, _, none⟩) (by first | exact Nat.ne_of_lt (Nat.lt_of_lt_of_le (by have := World.block_lt_of_cell? _ _ hw167_2; first | rwa [add_block] at this | exact this) GW171.out) | (rw [add_block]; exact Nat.ne_of_lt (Nat.lt_of_lt_of_le (by have := World.block_lt_of_cell? _ _ hw167_2; first | rwa [add_block] at this | exact this) GW171.out)) | (show (Addr.add _ _).block ≠ _; rw [add_block]; exact Nat.ne_of_lt (Nat.lt_of_lt_of_le (by have := World.block_lt_of_cell? _ _ hw167_2; first | rwa [add_block] at this | exact this) GW171.out)) | (dsimp only; exact Nat.ne_of_lt (Nat.lt_of_lt_of_le (by have := World.block_lt_of_cell? _ _ hw167_2; first | rwa [add_block] at this | exact this) GW171.out))) _).trans (((cell_far (p := ⟨gb171, _, none⟩) (by first | exact Nat.ne_of_lt (Nat.lt_of_lt_of_le (by have := World.block_lt_of_cell? _ _ hw167_2; first | rwa [add_block] at this | exact this) GW171.out) | (rw [add_block]; exact Nat.ne_of_lt (Nat.lt_of_lt_of_le (by have := World.block_lt_of_cell? _ _ hw167_2; first | rwa [add_block] at this | exact this) GW171.out)) | (show (Addr.add _ _).block ≠ _; rw [add_block]; exact Nat.ne_of_lt (Nat.lt_of_lt_of_le (by have := World.block_lt_of_cell? _ _ hw167_2; first | rwa [add_block] at this | exact this) GW171.out)) | (dsimp only; exact Nat.ne_of_lt (Nat.lt_of_lt_of_le (by have := World.block_lt_of_cell? _ _ hw167_2; first | rwa [add_block] at this | exact this) GW171.out))) _).trans (((cell_far (p := ⟨gb171, _, none⟩) (by first | exact Nat.ne_of_lt (Nat.lt_of_lt_of_le (by have := World.block_lt_of_cell? _ _ hw167_2; first | rwa [add_block] at this | exact this) GW171.out) | (rw [add_block]; exact Nat.ne_of_lt (Nat.lt_of_lt_of_le (by have := World.block_lt_of_cell? _ _ hw167_2; first | rwa [add_block] at this | exact this) GW171.out)) | (show (Addr.add _ _).block ≠ _; rw [add_block]; exact Nat.ne_of_lt (Nat.lt_of_lt_of_le (by have := World.block_lt_of_cell? _ _ hw167_2; first | rwa [add_block] at this | exact this) GW171.out)) | (dsimp only; exact Nat.ne_of_lt (Nat.lt_of_lt_of_le (by have := World.block_lt_of_cell? _ _ hw167_2; first | rwa [add_block] at this | exact this) GW171.out))) _).trans (hHeld.2.2.2.2.2.2.2.2.2.2))))))))⟩ (fun hHeld => ?_)
                    clear hK K
                    refine done_ (done_of HT_.out (by kernel_rfl)) ?_
                    try go_wp2
                    have n0_ : Aside0 (Kd.S k42 42 ((((w84.setCell ⟨gb171, 0, none⟩ (.string a0_0)).setCell ⟨gb171, 1, none⟩ (.int .i64 0)).setCell ⟨gb171, 2, none⟩ (.int .i64 0)).setCell ⟨gb171, 3, none⟩ (.slice Ao85 y168.length co85)) w.heap.size (fun k_ => some k_ ≠ (v164 : Value).ownBlock ∧ some k_ ≠ (.slice Ao85 y168.length co85 : Value).ownBlock ∧ k_ ≠ gb171) v143 t142) := ⟨by (with_reducible repeat (first | apply Kd.S_alloc | apply Kd.S_drewN | apply Kd.S_drew)); exact Kd.S_mono (Kd.S_far (p := ⟨gb171, 3, none⟩) (Kd.S_far (p := ⟨gb171, 2, none⟩) (Kd.S_far (p := ⟨gb171, 1, none⟩) (Kd.S_far (p := ⟨gb171, 0, none⟩) (Kd.S_mono HO_11.out (fun k_ hk => (⟨hk, hk.2.2⟩ : _ ∧ k_ ≠ gb171))) (fun _ hk => hk.2) (.string a0_0)) (fun _ hk => hk.2) (.int .i64 0)) (fun _ hk => hk.2) (.int .i64 0)) (fun _ hk => hk.2) (.slice Ao85 y168.length co85)) (fun _ hk => ⟨hk.1.1, ⟨hk.1.2.1, hk.1.2.2⟩⟩)⟩
                    have n1_ : Aside0 (Kd.S (Kd.slice 3 (Kd.int .i64)) 32 ((((w84.setCell ⟨gb171, 0, none⟩ (.string a0_0)).setCell ⟨gb171, 1, none⟩ (.int .i64 0)).setCell ⟨gb171, 2, none⟩ (.int .i64 0)).setCell ⟨gb171, 3, none⟩ (.slice Ao85 y168.length co85)) w.heap.size (fun _ => True) (.slice (some ad157) x13_3.length co73) y162) := ⟨by (with_reducible repeat (first | apply Kd.S_alloc | apply Kd.S_drewN | apply Kd.S_drew)); exact Kd.S_mono (Kd.S_far (p := ⟨gb171, 3, none⟩) (Kd.S_far (p := ⟨gb171, 2, none⟩) (Kd.S_far (p := ⟨gb171, 1, none⟩) (Kd.S_far (p := ⟨gb171, 0, none⟩) (Kd.S_types HO_13.out BK171.out (by decide)) (fun _ hk => hk.2) (.string a0_0)) (fun _ hk => hk.2) (.int .i64 0)) (fun _ hk => hk.2) (.int .i64 0)) (fun _ hk => hk.2) (.slice Ao85 y168.length co85)) (fun _ hk => trivial)⟩
                    have n2_ : Aside0 (Kd.S k42 42 ((((w84.setCell ⟨gb171, 0, none⟩ (.string a0_0)).setCell ⟨gb171, 1, none⟩ (.int .i64 0)).setCell ⟨gb171, 2, none⟩ (.int .i64 0)).setCell ⟨gb171, 3, none⟩ (.slice Ao85 y168.length co85)) w.heap.size (fun k_ => some k_ ≠ (v143 : Value).ownBlock ∧ some k_ ≠ (.slice Ao85 y168.length co85 : Value).ownBlock ∧ k_ ≠ gb171) v164 t163) := ⟨by (with_reducible repeat (first | apply Kd.S_alloc | apply Kd.S_drewN | apply Kd.S_drew)); exact Kd.S_mono (Kd.S_far (p := ⟨gb171, 3, none⟩) (Kd.S_far (p := ⟨gb171, 2, none⟩) (Kd.S_far (p := ⟨gb171, 1, none⟩) (Kd.S_far (p := ⟨gb171, 0, none⟩) (Kd.S_mono HO165.out (fun k_ hk => (⟨hk, hk.2.2⟩ : _ ∧ k_ ≠ gb171))) (fun _ hk => hk.2) (.string a0_0)) (fun _ hk => hk.2) (.int .i64 0)) (fun _ hk => hk.2) (.int .i64 0)) (fun _ hk => hk.2) (.slice Ao85 y168.length co85)) (fun _ hk => ⟨hk.1.2.1, ⟨hk.1.1, hk.1.2.2⟩⟩)⟩
                    have n3_ : Aside0 (Kd.R k67 67 ((((w84.setCell ⟨gb171, 0, none⟩ (.string a0_0)).setCell ⟨gb171, 1, none⟩ (.int .i64 0)).setCell ⟨gb171, 2, none⟩ (.int .i64 0)).setCell ⟨gb171, 3, none⟩ (.slice Ao85 y168.length co85)) w.heap.size (fun _ => True) (.slice Ao85 y168.length co85) y168) := ⟨by (with_reducible repeat (first | apply Kd.R_alloc | apply Kd.R_drewN | apply Kd.R_drew)); exact Kd.R_mono (Kd.R_far (p := ⟨gb171, 3, none⟩) (Kd.R_far (p := ⟨gb171, 2, none⟩) (Kd.R_far (p := ⟨gb171, 1, none⟩) (Kd.R_far (p := ⟨gb171, 0, none⟩) (Kd.R_types HO170.out BK171.out (by decide)) (fun _ hk => hk.2) (.string a0_0)) (fun _ hk => hk.2) (.int .i64 0)) (fun _ hk => hk.2) (.int .i64 0)) (fun _ hk => hk.2) (.slice Ao85 y168.length co85)) (fun _ hk => trivial)⟩
                    have n4_ : Aside0 (((((w84.setCell ⟨gb171, 0, none⟩ (.string a0_0)).setCell ⟨gb171, 1, none⟩ (.int .i64 0)).setCell ⟨gb171, 2, none⟩ (.int .i64 0)).setCell ⟨gb171, 3, none⟩ (.slice Ao85 y168.length co85)).heap[gb139]? = some (.cells #[.string a0_0, .string a0_1, .string a0_2, .string a0_3, .string a0_4, .string a0_5, .int .i64 a0_6, .slice (some ad167) l0_7.length c0_7] 24 (0, 0))) := ⟨by (with_reducible repeat (first | refine blk_drewN ?_ _ | refine blk_drew ?_ | refine blk_alloc ?_ _)); refine blk_far ?_ NB139_171.out _; (with_reducible repeat (first | refine blk_drewN ?_ _ | refine blk_drew ?_ | refine blk_alloc ?_ _)); refine blk_far ?_ NB139_171.out _; (with_reducible repeat (first | refine blk_drewN ?_ _ | refine blk_drew ?_ | refine blk_alloc ?_ _)); refine blk_far ?_ NB139_171.out _; (with_reducible repeat (first | refine blk_drewN ?_ _ | refine blk_drew ?_ | refine blk_alloc ?_ _)); refine blk_far ?_ NB139_171.out _; (with_reducible repeat (first | refine blk_drewN ?_ _ | refine blk_drew ?_ | refine blk_alloc ?_ _)); exact BK139.out⟩
                    have n5_ : Aside0 (((((w84.setCell ⟨gb171, 0, none⟩ (.string a0_0)).setCell ⟨gb171, 1, none⟩ (.int .i64 0)).setCell ⟨gb171, 2, none⟩ (.int .i64 0)).setCell ⟨gb171, 3, none⟩ (.slice Ao85 y168.length co85)).heap[gb171]? = some (.cells #[.string a0_0, .int .i64 0, .int .i64 0, .slice Ao85 y168.length co85] 42 (0, 0))) := ⟨by (with_reducible repeat (first | refine blk_drewN ?_ _ | refine blk_drew ?_ | refine blk_alloc ?_ _)); refine blk_put (cs := #[.string a0_0, .int .i64 0, .int .i64 0, .slice none 0 0]) ?_ 3 _ rfl; (with_reducible repeat (first | refine blk_drewN ?_ _ | refine blk_drew ?_ | refine blk_alloc ?_ _)); refine blk_put (cs := #[.string a0_0, .int .i64 0, .int .i64 0, .slice none 0 0]) ?_ 2 _ rfl; (with_reducible repeat (first | refine blk_drewN ?_ _ | refine blk_drew ?_ | refine blk_alloc ?_ _)); refine blk_put (cs := #[.string a0_0, .int .i64 0, .int .i64 0, .slice none 0 0]) ?_ 1 _ rfl; (with_reducible repeat (first | refine blk_drewN ?_ _ | refine blk_drew ?_ | refine blk_alloc ?_ _)); refine blk_put (cs := #[.string (⟨#[]⟩ : ByteArray), .int .i64 0, .int .i64 0, .slice none 0 0]) ?_ 0 _ rfl; (with_reducible repeat (first | refine blk_drewN ?_ _ | refine blk_drew ?_ | refine blk_alloc ?_ _)); exact BK171.out⟩
                    have n6_ : Aside0 (Below w.heap.size w ((((w84.setCell ⟨gb171, 0, none⟩ (.string a0_0)).setCell ⟨gb171, 1, none⟩ (.int .i64 0)).setCell ⟨gb171, 2, none⟩ (.int .i64 0)).setCell ⟨gb171, 3, none⟩ (.slice Ao85 y168.length co85))) := ⟨by repeat (first | (with_reducible first | exact HB.out | apply below_alloc | apply pw_below_drewN | apply below_drew1 | refine below_set ?_ GE139.out | refine below_set ?_ GE171.out) | exact HB.out)⟩
                    (try clear HO_11)
                    (try clear HO_13)
                    (try clear HO165)
                    (try clear HO170)
                    (try clear BK139)
                    (try clear BK171)
                    (try clear HB)
                    generalize ((((w84.setCell ⟨gb171, 0, none⟩ (.string a0_0)).setCell ⟨gb171, 1, none⟩ (.int .i64 0)).setCell ⟨gb171, 2, none⟩ (.int .i64 0)).setCell ⟨gb171, 3, none⟩ (.slice Ao85 y168.length co85)) = w90 at n0_ n1_ n2_ n3_ n4_ n5_ n6_ ⊢
                    have HO_11 := n0_
                    have HO_13 := n1_
                    have HO165 := n2_
                    have HO170 := n3_
                    have BK139 := n4_
                    have BK171 := n5_
                    have HB := n6_
                    clear n0_ n1_ n2_ n3_ n4_ n5_ n6_
                    have n0_ := Aside0.mk (Kd.S_drew HO_11.out)
                    have n1_ := Aside0.mk (Kd.S_drew HO_13.out)
                    have n2_ := Aside0.mk (Kd.S_drew HO165.out)
                    have n3_ := Aside0.mk (Kd.R_drew HO170.out)
                    have n4_ := Aside0.mk (blk_drew BK139.out)
                    have n5_ := Aside0.mk (blk_drew BK171.out)
                    have n6_ := Aside0.mk (below_drew1 HB.out)
                    clear HO_11
                    clear HO_13
                    clear HO165
                    clear HO170
                    clear BK139
                    clear BK171
                    clear HB
                    have HO_11 := n0_
                    have HO_13 := n1_
                    have HO165 := n2_
                    have HO170 := n3_
                    have BK139 := n4_
                    have BK171 := n5_
                    have HB := n6_
                    clear n0_ n1_ n2_ n3_ n4_ n5_ n6_
                    refine start_ (n := 13) (S := fun w' => w'.cell? ⟨gb139, 0, none⟩ = some (.string a0_0) ∧ w'.cell? ⟨gb139, 1, none⟩ = some (.string a0_1) ∧ w'.cell? ⟨gb139, 2, none⟩ = some (.string a0_2) ∧ w'.cell? ⟨gb139, 3, none⟩ = some (.string a0_3) ∧ w'.cell? ⟨gb139, 4, none⟩ = some (.string a0_4) ∧ w'.cell? ⟨gb139, 5, none⟩ = some (.string a0_5) ∧ w'.cell? ⟨gb139, 6, none⟩ = some (.int .i64 a0_6) ∧ w'.cell? ⟨gb139, 7, none⟩ = some (.slice (some ad167) l0_7.length c0_7) ∧ w'.cell? ⟨gb171, 0, none⟩ = some (.string a0_0) ∧ w'.cell? ⟨gb171, 1, none⟩ = some (.int .i64 0) ∧ w'.cell? ⟨gb171, 2, none⟩ = some (.int .i64 0) ∧ w'.cell? ⟨gb171, 3, none⟩ = some (.slice Ao85 y168.length co85)) (ds := []) #[F,F,F,F,F,F,F,F,F,F,F,F,F] (by kernel_rfl) rfl rfl ⟨(blk_cell BK139.out 0).trans rfl, (blk_cell BK139.out 1).trans rfl, (blk_cell BK139.out 2).trans rfl, (blk_cell BK139.out 3).trans rfl, (blk_cell BK139.out 4).trans rfl, (blk_cell BK139.out 5).trans rfl, (blk_cell BK139.out 6).trans rfl, (blk_cell BK139.out 7).trans rfl, (blk_cell BK171.out 0).trans rfl, (blk_cell BK171.out 1).trans rfl, (blk_cell BK171.out 2).trans rfl, (blk_cell BK171.out 3).trans rfl⟩ (fun hHeld => ?_); refine with_tabW supercargolaw19_OrderMore.tab16 supercargolaw19_OrderMore.bits16 (fun HT_ HW_ => ?_)
                    generalize w90.drew = w91 at HO_11 HO_13 HO165 HO170 BK139 BK171 HB hHeld ⊢
                    refine pure_ (i := 2) (N := some 139) (v := ?_) (a' := ?_) #[F,F,T,F,F,F,F,F,F,F,F,F,F] rfl rfl (any_of HT_.out (by kernel_rfl)) (fun _ _ _ h => h) (Or.inl ⟨by rfl, ?_⟩) ?_ ?_
                    rotate_left
                    ·intro w'
                     go_simp
                     with_reducible rfl
                    rotate_left
                    ·simp only [Act.put, List.setIfInBounds_toArray, List.set_cons_zero, List.set_cons_succ, i64_w, i32_w]
                     rfl
                    refine take_ (i := 0) (N := some 137) (v := ?_) (a' := ?_) #[T,F,T,F,F,F,F,F,F,F,F,F,F] rfl rfl (take_ofW HT_.out HW_.out (by kernel_rfl)) (fun _ _ _ h => h) (Or.inl ⟨by rfl, ?_⟩) hHeld ?_ ?_
                    rotate_left
                    ·rintro w' ⟨s0, s1, s2, s3, s4, s5, s6, s7, s8, s9, s10, s11⟩
                     go_simp
                     with_reducible rfl
                    rotate_left
                    ·simp only [Act.put, List.setIfInBounds_toArray, List.set_cons_zero, List.set_cons_succ, i64_w, i32_w]
                     rfl
                    refine take_ (i := 4) (N := some 141) (v := ?_) (a' := ?_) #[T,F,T,F,T,F,F,F,F,F,F,F,F] rfl rfl (take_ofW HT_.out HW_.out (by kernel_rfl)) (fun _ _ _ h => h) (Or.inl ⟨by rfl, ?_⟩) hHeld ?_ ?_
                    rotate_left
                    ·rintro w' ⟨s0, s1, s2, s3, s4, s5, s6, s7, s8, s9, s10, s11⟩
                     go_simp
                     with_reducible rfl
                    rotate_left
                    ·simp only [Act.put, List.setIfInBounds_toArray, List.set_cons_zero, List.set_cons_succ, i64_w, i32_w]
                     rfl

                    obtain ⟨Ao94, co94, eo94⟩ := Kd.S_slice HO_11.out
                    (first | subst eo94 | (injection eo94 with f1_ f2_ f3_; have f4_ := f1_.symm; have f5_ := f3_.symm; clear f1_ f2_ f3_; subst f4_; subst f5_))
                    obtain ⟨hlenM, eM⟩ := consAdd.some A63.out
                    have HLM := Aside0.mk hlenM
                    have HEM := Aside0.mk eM
                    clear hlenM eM A63
                    have HX_ := Aside0.mk (Kd.S_reads' HO_11.out).2.2
                    have HY_ := Aside0.mk (k42_mk _ (⟨a0_0, 0, 0, y168⟩ : S42) (Kd.R_reads' HO170.out).2.1 (Kd.R_reads' HO170.out).2.2)
                    refine append_orders k42 (i1 := 1) (i3 := 3) (i5 := 5) (N1 := 138) (N2 := 139) (N3 := 140) (N4 := 141) (N5 := 142) (t := 34) (e := 42) (z := .agg #[.string ⟨#[]⟩, .int .i64 0, .int .i64 0, .slice none 0 0]) (bytes := 56) #[T,T,T,F,T,F,F,F,F,F,F,F,F] #[T,F,T,F,T,T,F,F,F,F,F,F,F] #[T,T,T,T,T,F,F,F,F,F,F,F,F] #[T,T,T,F,T,T,F,F,F,F,F,F,F] #[T,T,T,T,T,T,F,F,F,F,F,F,F] rfl rfl rfl rfl rfl rfl (fun _ => rfl) (fun _ => rfl) (fun _ => rfl) rfl (two_of HT_.out (by kernel_rfl)) (two_of HT_.out (by kernel_rfl)) (one_of HT_.out (by kernel_rfl)) (one_of HT_.out (by kernel_rfl)) (one_of HT_.out (by kernel_rfl)) (by decide) (by decide) (by decide) (by exact (by decide : (138 : Nat) < 179)) (by exact (by decide : (140 : Nat) < 179)) (by exact (by decide : (142 : Nat) < 179)) (by decide) (by decide) (by decide) (by decide) (by decide) (by decide) Try.underlying34 info42 rfl (by decide) (by decide) t142 (⟨a0_0, 0, 0, y168⟩ : S42) Ao94 co94 (.agg #[.string a0_0, .int .i64 0, .int .i64 0, .slice Ao85 y168.length co85]) [.string a0_0, .int .i64 0, .int .i64 0, .slice Ao85 y168.length co85] (by rfl) (by rfl) ?xHX HY_.out ?xHL ?xR1 ?xR5 ?xS ?_
                    case xHX => exact (by repeat (first | exact HX_.out | (with_reducible refine Kd.C_alloc ?_ _) | (with_reducible refine Kd.C_drewN ?_ _) | (with_reducible refine Kd.C_drew ?_)))
                    case xHL => have := HLM.out; omega
                    case xR1 => exact fun a_ W_ => lit_none _ rfl a_ W_
                    case xR5 => exact fun a_ W_ he_ => lit_x _ 141 rfl a_ W_ _ _ _ _ _ _ he_
                    case xS => intro w_ hb; have zBK139 := Aside0.mk (blk_below (g := gb139) (o := .cells #[.string a0_0, .string a0_1, .string a0_2, .string a0_3, .string a0_4, .string a0_5, .int .i64 a0_6, .slice (some ad167) l0_7.length c0_7] 24 (0, 0)) (by (with_reducible repeat (first | refine blk_drewN ?_ _ | refine blk_drew ?_ | refine blk_alloc ?_ _)); exact BK139.out) hb); have zBK171 := Aside0.mk (blk_below (g := gb171) (o := .cells #[.string a0_0, .int .i64 0, .int .i64 0, .slice Ao85 y168.length co85] 42 (0, 0)) (by (with_reducible repeat (first | refine blk_drewN ?_ _ | refine blk_drew ?_ | refine blk_alloc ?_ _)); exact BK171.out) hb); exact ⟨(blk_cell zBK139.out 0).trans rfl, (blk_cell zBK139.out 1).trans rfl, (blk_cell zBK139.out 2).trans rfl, (blk_cell zBK139.out 3).trans rfl, (blk_cell zBK139.out 4).trans rfl, (blk_cell zBK139.out 5).trans rfl, (blk_cell zBK139.out 6).trans rfl, (blk_cell zBK139.out 7).trans rfl, (blk_cell zBK171.out 0).trans rfl, (blk_cell zBK171.out 1).trans rfl, (blk_cell zBK171.out 2).trans rfl, (blk_cell zBK171.out 3).trans rfl⟩
                    intro v1_ v3_ v5_ w92 hb hR3 hC5
                    obtain ⟨A5_, c5_, e5_, hc5, hC5⟩ := hC5
                    subst e5_
                    have HR3 := Aside0.mk hR3
                    have HC5 := Aside0.mk hC5
                    have HBW := Aside0.mk hb
                    clear hR3 hC5 hc5
                    refine norm_ (a' := ?_) ?_ ?_
                    rotate_left
                    ·show Act.put (Act.put (Act.put _ (some 138) _) (some 140) _) (some 142) _ = _
                     simp only [Act.put, List.setIfInBounds_toArray, List.set_cons_zero, List.set_cons_succ, i64_w, i32_w]
                     rfl
                    refine one_ (i := 6) (N := some 143) #[T,T,T,T,T,T,T,F,F,F,F,F,F] rfl rfl (one_of HT_.out (by kernel_rfl)) (by decide) (fun K hK => ?_)
                    refine Kd.R_append_rows_step (kFix _ k42) (Rr := fun x cs => k42.K _ x cs) _ rfl (.tmp 140) (.tmp 142) 34 42 (.agg #[.string ⟨#[]⟩, .int .i64 0, .int .i64 0, .slice none 0 0]) 56 rfl Try.underlying34 info42 rfl (show 0 < 4 by decide) (by decide) v3_ t142 [(⟨a0_0, 0, 0, y168⟩ : S42)] A5_ 1 c5_ (fun _ => True) (fun _ => False) (by rfl) (by rfl) HR3.out HC5.out (fun _ _ hk => hk) (fun _ hk => hk.elim) (fun _ _ => trivial) HBW.out HBW.out.size (by have := HLM.out; omega) ?_
                    intro v6_ w95 hR6 hb6 _ _
                    clear HR3 HC5 HBW hb
                    have hb := hb6
                    clear hb6
                    rw [← HEM.out] at hR6
                    obtain ⟨Ao96, co96, e6_, hl6, hC6⟩ := Kd.R_reads hR6
                    subst e6_
                    have HC177 := Aside0.mk (kFix_C hC6 hb)
                    have HL177 := Aside0.mk hl6
                    clear hR6 hC6 hl6 HX_ HY_
                    have n0_ := Aside0.mk (Kd.R_below (by (with_reducible repeat (first | apply Kd.R_alloc | apply Kd.R_drewN | apply Kd.R_drew)); exact HO170.out) hb)
                    have n1_ := Aside0.mk ((blk_below (g := gb139) (o := .cells #[.string a0_0, .string a0_1, .string a0_2, .string a0_3, .string a0_4, .string a0_5, .int .i64 a0_6, .slice (some ad167) l0_7.length c0_7] 24 (0, 0)) (by (with_reducible repeat (first | refine blk_drewN ?_ _ | refine blk_drew ?_ | refine blk_alloc ?_ _)); exact BK139.out) hb))
                    have n2_ := Aside0.mk ((blk_below (g := gb171) (o := .cells #[.string a0_0, .int .i64 0, .int .i64 0, .slice Ao85 y168.length co85] 42 (0, 0)) (by (with_reducible repeat (first | refine blk_drewN ?_ _ | refine blk_drew ?_ | refine blk_alloc ?_ _)); exact BK171.out) hb))
                    have n3_ := Aside0.mk (below_step (by repeat (first | (with_reducible first | exact HB.out | apply below_alloc | apply pw_below_drewN | apply below_drew1 | refine below_set ?_ GE139.out | refine below_set ?_ GE171.out) | exact HB.out)) hb)
                    clear HO170
                    clear BK139
                    clear BK171
                    clear HB
                    have HO170 := n0_
                    have BK139 := n1_
                    have BK171 := n2_
                    have HB := n3_
                    clear n0_ n1_ n2_ n3_
                    clear HO_11 HO_13 HO165
                    refine hK.out _ _ ⟨(blk_cell BK139.out 0).trans rfl, (blk_cell BK139.out 1).trans rfl, (blk_cell BK139.out 2).trans rfl, (blk_cell BK139.out 3).trans rfl, (blk_cell BK139.out 4).trans rfl, (blk_cell BK139.out 5).trans rfl, (blk_cell BK139.out 6).trans rfl, (blk_cell BK139.out 7).trans rfl, (blk_cell BK171.out 0).trans rfl, (blk_cell BK171.out 1).trans rfl, (blk_cell BK171.out 2).trans rfl, (blk_cell BK171.out 3).trans rfl⟩ (fun hHeld => ?_)
                    clear hK K
                    refine norm_ (a' := ?_) ?_ ?_
                    rotate_left
                    ·show Act.put _ (some 143) _ = _
                     simp only [Act.put, List.setIfInBounds_toArray, List.set_cons_zero, List.set_cons_succ, i64_w, i32_w]
                     rfl
                    refine one_ (i := 7) (N := some 144) #[T,T,T,T,T,T,T,T,F,F,F,F,F] rfl rfl (one_of HT_.out (by kernel_rfl)) (by decide) (fun K hK => ?_)
                    refine goes_ Try.func30 (by kernel_rfl) rfl #[.agg #[.string a0_0, .string a0_1, .string a0_2, .string a0_3, .string a0_4, .string a0_5, .int .i64 a0_6, .slice (some ad167) l0_7.length c0_7], .slice Ao96 t175.length co96] (by rfl) rfl rfl (by (try simp only [List.map_toArray, List.map_cons, List.map_nil]); first | done | rfl | (simp only [List.length_drop, List.length_take]; rfl)) ?_
                    with_reducible refine (order_Left.calls k3 a0_0 a0_1 a0_2 a0_3 a0_4 a0_5 a0_6 _ _ l0_7 _ _ t175 t178 t181 _ ?side1 ?side2 ?side3 ?side4 A64.out).mono ?_
                    (case side1 => repeat (first | exact (Kd.C_below HR0_7.out HB.out) | (with_reducible refine Kd.C_alloc ?_ _) | (with_reducible refine Kd.C_drewN ?_ _) | (with_reducible refine Kd.C_drew ?_)))
                    (case side2 => exact HC0_7.out)
                    (case side3 => repeat (first | exact HC177.out | (with_reducible refine Kd.C_alloc ?_ _) | (with_reducible refine Kd.C_drewN ?_ _) | (with_reducible refine Kd.C_drew ?_)))
                    (case side4 => exact HL177.out)
                    rintro e w97 ⟨v179, rfl, ho0, hb⟩
                    refine ⟨_, rfl, ?_⟩
                    have n3_ := Aside0.mk (Kd.R_elder' (by (with_reducible repeat (first | apply Kd.R_alloc | apply Kd.R_drewN | apply Kd.R_drew)); exact HO170.out) (Kd.R_base ho0) hb)
                    have n7_ := Aside0.mk (blk_below (g := gb139) (o := .cells #[.string a0_0, .string a0_1, .string a0_2, .string a0_3, .string a0_4, .string a0_5, .int .i64 a0_6, .slice (some ad167) l0_7.length c0_7] 24 (0, 0)) (by (with_reducible repeat (first | refine blk_drewN ?_ _ | refine blk_drew ?_ | refine blk_alloc ?_ _)); exact BK139.out) hb)
                    have n8_ := Aside0.mk (blk_below (g := gb171) (o := .cells #[.string a0_0, .int .i64 0, .int .i64 0, .slice Ao85 y168.length co85] 42 (0, 0)) (by (with_reducible repeat (first | refine blk_drewN ?_ _ | refine blk_drew ?_ | refine blk_alloc ?_ _)); exact BK171.out) hb)
                    have n9_ := Aside0.mk (below_step (by repeat (first | (with_reducible first | exact HB.out | apply below_alloc | apply pw_below_drewN | apply below_drew1 | refine below_set ?_ GE139.out | refine below_set ?_ GE171.out) | exact HB.out)) hb)
                    clear HO170
                    clear BK139
                    clear BK171
                    clear HB
                    have HO170 := n3_
                    have BK139 := n7_
                    have BK171 := n8_
                    have HB := n9_
                    clear n3_ n7_ n8_ n9_
                    (try clear hb)
                    (try clear hb2)
                    (try clear hk)
                    (try clear hi)
                    (try clear ho0)
                    refine hK.out _ _ ⟨(blk_cell BK139.out 0).trans rfl, (blk_cell BK139.out 1).trans rfl, (blk_cell BK139.out 2).trans rfl, (blk_cell BK139.out 3).trans rfl, (blk_cell BK139.out 4).trans rfl, (blk_cell BK139.out 5).trans rfl, (blk_cell BK139.out 6).trans rfl, (blk_cell BK139.out 7).trans rfl, (blk_cell BK171.out 0).trans rfl, (blk_cell BK171.out 1).trans rfl, (blk_cell BK171.out 2).trans rfl, (blk_cell BK171.out 3).trans rfl⟩ (fun hHeld => ?_)
                    clear hK K
                    refine norm_ (a' := ?_) ?_ ?_
                    rotate_left
                    ·show Act.put _ (some 144) _ = _
                     simp only [Act.put, List.setIfInBounds_toArray, List.set_cons_zero, List.set_cons_succ, i64_w, i32_w]
                     rfl
                    refine pure_ (i := 8) (N := some 136) (v := ?_) (a' := ?_) #[T,T,T,T,T,T,T,T,T,F,F,F,F] rfl rfl (any_of HT_.out (by kernel_rfl)) (fun _ _ _ h => h) (Or.inl ⟨by rfl, ?_⟩) ?_ ?_
                    rotate_left
                    ·intro w'
                     go_simp
                     with_reducible rfl
                    rotate_left
                    ·simp only [Act.put, List.setIfInBounds_toArray, List.set_cons_zero, List.set_cons_succ, i64_w, i32_w]
                     rfl
                    refine pure_ (i := 9) (N := some 145) (v := ?_) (a' := ?_) #[T,T,T,T,T,T,T,T,T,T,F,F,F] rfl rfl (any_of HT_.out (by kernel_rfl)) (fun _ _ _ h => h) (Or.inl ⟨by rfl, ?_⟩) ?_ ?_
                    rotate_left
                    ·intro w'
                     go_simp
                     with_reducible rfl
                    rotate_left
                    ·simp only [Act.put, List.setIfInBounds_toArray, List.set_cons_zero, List.set_cons_succ, i64_w, i32_w]
                     rfl
                    refine pure_ (i := 10) (N := some 146) (v := ?_) (a' := ?_) #[T,T,T,T,T,T,T,T,T,T,T,F,F] rfl rfl (any_of HT_.out (by kernel_rfl)) (fun _ _ _ h => h) (Or.inl ⟨by rfl, ?_⟩) ?_ ?_
                    rotate_left
                    ·intro w'
                     go_simp
                     with_reducible rfl
                    rotate_left
                    ·simp only [Act.put, List.setIfInBounds_toArray, List.set_cons_zero, List.set_cons_succ, i64_w, i32_w]
                     rfl
                    refine pure_ (i := 11) (N := some 18) (v := ?_) (a' := ?_) #[T,T,T,T,T,T,T,T,T,T,T,T,F] rfl rfl (any_of HT_.out (by kernel_rfl)) (fun _ _ _ h => h) (Or.inl ⟨by rfl, ?_⟩) ?_ ?_
                    rotate_left
                    ·intro w'
                     go_simp
                     with_reducible rfl
                    rotate_left
                    ·simp only [Act.put, List.setIfInBounds_toArray, List.set_cons_zero, List.set_cons_succ, i64_w, i32_w]
                     rfl
                    refine pure_ (i := 12) (N := some 19) (v := ?_) (a' := ?_) #[T,T,T,T,T,T,T,T,T,T,T,T,T] rfl rfl (any_of HT_.out (by kernel_rfl)) (fun _ _ _ h => h) (Or.inl ⟨by rfl, ?_⟩) ?_ ?_
                    rotate_left
                    ·intro w'
                     go_simp
                     with_reducible rfl
                    rotate_left
                    ·simp only [Act.put, List.setIfInBounds_toArray, List.set_cons_zero, List.set_cons_succ, i64_w, i32_w]
                     rfl
                    refine done_ (done_of HT_.out (by kernel_rfl)) ?_
                    have hnb98 := NB171_139.out
                    have hnc98 := NB139_171.out
                    have hcz99_0 : w97.cell? ⟨gb171, 0, none⟩ = some (.string a0_0) := (blk_cell BK171.out 0).trans rfl
                    have hcz99_1 : w97.cell? ⟨gb171, 1, none⟩ = some (.int .i64 0) := (blk_cell BK171.out 1).trans rfl
                    have hcz99_2 : w97.cell? ⟨gb171, 2, none⟩ = some (.int .i64 0) := (blk_cell BK171.out 2).trans rfl
                    have hcz99_3 : w97.cell? ⟨gb171, 3, none⟩ = some (.slice Ao85 y168.length co85) := (blk_cell BK171.out 3).trans rfl
                    have hfz99_0 := blk_frozen BK171.out 0
                    have hfz99_1 := blk_frozen BK171.out 1
                    have hfz99_2 := blk_frozen BK171.out 2
                    have hfz99_3 := blk_frozen BK171.out 3
                    try go_wp2_with (first | ((with_reducible refine gate_dst (N := 20) rfl ?_); (try (refine gate_guard (by rfl) ?_; dsimp only)); refine box_event ?hg (N := 20) ?hd (cs := #[.string (⟨#[]⟩ : ByteArray), .int .i64 0, .int .i64 0, .slice none 0 0]) (t := 42) ?hr ?_; (case hd => rfl); (case hg => rfl); (case hr => first | (go_simp; done) | (go_simp; rfl)); intro gb182 hg w100 hbox hb; have n3_ := Aside0.mk (Kd.R_below (by (with_reducible repeat (first | apply Kd.R_alloc | apply Kd.R_drewN | apply Kd.R_drew)); exact HO170.out) hb); have n7_ := Aside0.mk (blk_below (g := gb139) (o := .cells #[.string a0_0, .string a0_1, .string a0_2, .string a0_3, .string a0_4, .string a0_5, .int .i64 a0_6, .slice (some ad167) l0_7.length c0_7] 24 (0, 0)) (by (with_reducible repeat (first | refine blk_drewN ?_ _ | refine blk_drew ?_ | refine blk_alloc ?_ _)); exact BK139.out) hb); have n8_ := Aside0.mk (blk_below (g := gb171) (o := .cells #[.string a0_0, .int .i64 0, .int .i64 0, .slice Ao85 y168.length co85] 42 (0, 0)) (by (with_reducible repeat (first | refine blk_drewN ?_ _ | refine blk_drew ?_ | refine blk_alloc ?_ _)); exact BK171.out) hb); have n9_ := Aside0.mk (below_step (by repeat (first | (with_reducible first | exact HB.out | apply below_alloc | apply pw_below_drewN | apply below_drew1 | refine below_set ?_ GE139.out | refine below_set ?_ GE171.out) | exact HB.out)) hb); have n10_ := Aside0.mk (hbox); have n11_ := Aside0.mk ((by rw [hg]; exact (below_size (by repeat (first | (with_reducible first | exact HB.out | apply below_alloc | apply pw_below_drewN | apply below_drew1 | refine below_set ?_ GE139.out | refine below_set ?_ GE171.out) | exact HB.out))) : w.heap.size ≤ gb182)); have n12_ := Aside0.mk ((by rw [hg]; exact (below_size (by repeat (first | (with_reducible first | exact HB.out | apply below_alloc | apply pw_below_drewN | apply below_drew1 | refine below_set ?_ GE139.out | refine below_set ?_ GE171.out) | exact HB.out))) : w.heap.size ≤ gb182)); have n13_ := Aside0.mk ((by rw [hg]; exact Nat.ne_of_lt (blk_lt (g := gb139) (o := .cells #[.string a0_0, .string a0_1, .string a0_2, .string a0_3, .string a0_4, .string a0_5, .int .i64 a0_6, .slice (some ad167) l0_7.length c0_7] 24 (0, 0)) (by (with_reducible repeat (first | refine blk_drewN ?_ _ | refine blk_drew ?_ | refine blk_alloc ?_ _)); exact BK139.out)) : gb139 ≠ gb182)); have n14_ := Aside0.mk ((by rw [hg]; exact Nat.ne_of_gt (blk_lt (g := gb139) (o := .cells #[.string a0_0, .string a0_1, .string a0_2, .string a0_3, .string a0_4, .string a0_5, .int .i64 a0_6, .slice (some ad167) l0_7.length c0_7] 24 (0, 0)) (by (with_reducible repeat (first | refine blk_drewN ?_ _ | refine blk_drew ?_ | refine blk_alloc ?_ _)); exact BK139.out)) : gb182 ≠ gb139)); have n15_ := Aside0.mk ((by rw [hg]; exact Nat.ne_of_lt (blk_lt (g := gb171) (o := .cells #[.string a0_0, .int .i64 0, .int .i64 0, .slice Ao85 y168.length co85] 42 (0, 0)) (by (with_reducible repeat (first | refine blk_drewN ?_ _ | refine blk_drew ?_ | refine blk_alloc ?_ _)); exact BK171.out)) : gb171 ≠ gb182)); have n16_ := Aside0.mk ((by rw [hg]; exact Nat.ne_of_gt (blk_lt (g := gb171) (o := .cells #[.string a0_0, .int .i64 0, .int .i64 0, .slice Ao85 y168.length co85] 42 (0, 0)) (by (with_reducible repeat (first | refine blk_drewN ?_ _ | refine blk_drew ?_ | refine blk_alloc ?_ _)); exact BK171.out)) : gb182 ≠ gb171)); clear HO170; clear BK139; clear BK171; clear HB; have HO170 := n3_; have BK139 := n7_; have BK171 := n8_; have HB := n9_; have BK182 := n10_; have GW182 := n11_; have GE182 := n12_; have NB139_182 := n13_; have NB182_139 := n14_; have NB171_182 := n15_; have NB182_171 := n16_; clear n3_ n7_ n8_ n9_ n10_ n11_ n12_ n13_ n14_ n15_ n16_; clear hb hbox hg; have hnb101 := NB182_139.out; have hnc101 := NB139_182.out; have hnb102 := NB182_171.out; have hnc102 := NB171_182.out; have hcz103_0 : w100.cell? ⟨gb182, 0, none⟩ = some (.string (⟨#[]⟩ : ByteArray)) := (blk_cell BK182.out 0).trans rfl; have hcz103_1 : w100.cell? ⟨gb182, 1, none⟩ = some (.int .i64 0) := (blk_cell BK182.out 1).trans rfl; have hcz103_2 : w100.cell? ⟨gb182, 2, none⟩ = some (.int .i64 0) := (blk_cell BK182.out 2).trans rfl; have hcz103_3 : w100.cell? ⟨gb182, 3, none⟩ = some (.slice none 0 0) := (blk_cell BK182.out 3).trans rfl; have hfz103_0 := blk_frozen BK182.out 0; have hfz103_1 := blk_frozen BK182.out 1; have hfz103_2 := blk_frozen BK182.out 2; have hfz103_3 := blk_frozen BK182.out 3; have hcz104_0 : w100.cell? ⟨gb139, 0, none⟩ = some (.string a0_0) := (blk_cell BK139.out 0).trans rfl; have hcz104_1 : w100.cell? ⟨gb139, 1, none⟩ = some (.string a0_1) := (blk_cell BK139.out 1).trans rfl; have hcz104_2 : w100.cell? ⟨gb139, 2, none⟩ = some (.string a0_2) := (blk_cell BK139.out 2).trans rfl; have hcz104_3 : w100.cell? ⟨gb139, 3, none⟩ = some (.string a0_3) := (blk_cell BK139.out 3).trans rfl; have hcz104_4 : w100.cell? ⟨gb139, 4, none⟩ = some (.string a0_4) := (blk_cell BK139.out 4).trans rfl; have hcz104_5 : w100.cell? ⟨gb139, 5, none⟩ = some (.string a0_5) := (blk_cell BK139.out 5).trans rfl; have hcz104_6 : w100.cell? ⟨gb139, 6, none⟩ = some (.int .i64 a0_6) := (blk_cell BK139.out 6).trans rfl; have hcz104_7 : w100.cell? ⟨gb139, 7, none⟩ = some (.slice (some ad167) l0_7.length c0_7) := (blk_cell BK139.out 7).trans rfl; have hfz104_0 := blk_frozen BK139.out 0; have hfz104_1 := blk_frozen BK139.out 1; have hfz104_2 := blk_frozen BK139.out 2; have hfz104_3 := blk_frozen BK139.out 3; have hfz104_4 := blk_frozen BK139.out 4; have hfz104_5 := blk_frozen BK139.out 5; have hfz104_6 := blk_frozen BK139.out 6; have hfz104_7 := blk_frozen BK139.out 7) | ((with_reducible refine gate_dst (N := 155) rfl ?_); (try (refine gate_guard (by rfl) ?_; dsimp only)); refine lit_one (ys := t183) (consAdd.some A66.out).2 ?hg (N := 155) ?hd (e := 42) (d := k42) (y := (⟨(a0_0 ++ (⟨#[120]⟩ : ByteArray)), 0, 0, y168⟩ : S42)) (cs := [.string (a0_0 ++ (⟨#[120]⟩ : ByteArray)), .int .i64 0, .int .i64 0, .slice Ao85 y168.length co85]) ?hr ?hy ?_; (case hd => rfl); (case hg => rfl); (case hr => first | (go_simp; done) | (go_simp; rfl)); (case hy => refine k42_mk _ (⟨(a0_0 ++ (⟨#[120]⟩ : ByteArray)), 0, 0, y168⟩ : S42) (Kd.R_reads' HO170.out).2.1 ?_; refine (Kd.R_reads' (e := 67) (base := w.heap.size) (ok := fun k_ => (True ∧ some k_ ≠ (v179 : Value).ownBlock)) (n := y168.length) (c := co85) ?_).2.2; exact (by (with_reducible repeat (first | apply Kd.R_alloc | apply Kd.R_drewN | apply Kd.R_drew)); exact (Kd.R_mono (Kd.R_far (p := ⟨gb182, 0, none⟩) (Kd.R_far (p := ⟨gb182, 3, none⟩) (Kd.R_far (p := ⟨gb182, 2, none⟩) (Kd.R_far (p := ⟨gb182, 1, none⟩) (Kd.R_far (p := ⟨gb182, 0, none⟩) (Kd.R_types HO170.out BK182.out (by decide)) (fun _ hk => hk.2) (.string a0_0)) (fun _ hk => hk.2) (.int .i64 0)) (fun _ hk => hk.2) (.int .i64 0)) (fun _ hk => hk.2) (.slice Ao85 y168.length co85)) (fun _ hk => hk.2) (.string (a0_0 ++ (⟨#[120]⟩ : ByteArray)))) (fun _ h_ => h_.1)))); intro Ao106 co106 w105 hl1_ hC1_ hb; have HL183 := Aside0.mk hl1_; have HC183 := Aside0.mk hC1_; clear hl1_ hC1_; have n3_ := Aside0.mk (Kd.R_below (by (with_reducible repeat (first | apply Kd.R_alloc | apply Kd.R_drewN | apply Kd.R_drew)); exact (Kd.R_mono (Kd.R_far (p := ⟨gb182, 0, none⟩) (Kd.R_far (p := ⟨gb182, 3, none⟩) (Kd.R_far (p := ⟨gb182, 2, none⟩) (Kd.R_far (p := ⟨gb182, 1, none⟩) (Kd.R_far (p := ⟨gb182, 0, none⟩) (Kd.R_types HO170.out BK182.out (by decide)) (fun _ hk => hk.2) (.string a0_0)) (fun _ hk => hk.2) (.int .i64 0)) (fun _ hk => hk.2) (.int .i64 0)) (fun _ hk => hk.2) (.slice Ao85 y168.length co85)) (fun _ hk => hk.2) (.string (a0_0 ++ (⟨#[120]⟩ : ByteArray)))) (fun _ h_ => h_.1))) hb); have n8_ := Aside0.mk (blk_below (g := gb139) (o := .cells #[.string a0_0, .string a0_1, .string a0_2, .string a0_3, .string a0_4, .string a0_5, .int .i64 a0_6, .slice (some ad167) l0_7.length c0_7] 24 (0, 0)) (by (with_reducible repeat (first | refine blk_drewN ?_ _ | refine blk_drew ?_ | refine blk_alloc ?_ _)); refine blk_far ?_ NB139_182.out _; (with_reducible repeat (first | refine blk_drewN ?_ _ | refine blk_drew ?_ | refine blk_alloc ?_ _)); refine blk_far ?_ NB139_182.out _; (with_reducible repeat (first | refine blk_drewN ?_ _ | refine blk_drew ?_ | refine blk_alloc ?_ _)); refine blk_far ?_ NB139_182.out _; (with_reducible repeat (first | refine blk_drewN ?_ _ | refine blk_drew ?_ | refine blk_alloc ?_ _)); refine blk_far ?_ NB139_182.out _; (with_reducible repeat (first | refine blk_drewN ?_ _ | refine blk_drew ?_ | refine blk_alloc ?_ _)); refine blk_far ?_ NB139_182.out _; (with_reducible repeat (first | refine blk_drewN ?_ _ | refine blk_drew ?_ | refine blk_alloc ?_ _)); exact BK139.out) hb); have n9_ := Aside0.mk (blk_below (g := gb171) (o := .cells #[.string a0_0, .int .i64 0, .int .i64 0, .slice Ao85 y168.length co85] 42 (0, 0)) (by (with_reducible repeat (first | refine blk_drewN ?_ _ | refine blk_drew ?_ | refine blk_alloc ?_ _)); refine blk_far ?_ NB171_182.out _; (with_reducible repeat (first | refine blk_drewN ?_ _ | refine blk_drew ?_ | refine blk_alloc ?_ _)); refine blk_far ?_ NB171_182.out _; (with_reducible repeat (first | refine blk_drewN ?_ _ | refine blk_drew ?_ | refine blk_alloc ?_ _)); refine blk_far ?_ NB171_182.out _; (with_reducible repeat (first | refine blk_drewN ?_ _ | refine blk_drew ?_ | refine blk_alloc ?_ _)); refine blk_far ?_ NB171_182.out _; (with_reducible repeat (first | refine blk_drewN ?_ _ | refine blk_drew ?_ | refine blk_alloc ?_ _)); refine blk_far ?_ NB171_182.out _; (with_reducible repeat (first | refine blk_drewN ?_ _ | refine blk_drew ?_ | refine blk_alloc ?_ _)); exact BK171.out) hb); have n10_ := Aside0.mk (blk_below (g := gb182) (o := .cells #[.string (a0_0 ++ (⟨#[120]⟩ : ByteArray)), .int .i64 0, .int .i64 0, .slice Ao85 y168.length co85] 42 (0, 0)) (by (with_reducible repeat (first | refine blk_drewN ?_ _ | refine blk_drew ?_ | refine blk_alloc ?_ _)); refine blk_put (cs := #[.string a0_0, .int .i64 0, .int .i64 0, .slice Ao85 y168.length co85]) ?_ 0 _ rfl; (with_reducible repeat (first | refine blk_drewN ?_ _ | refine blk_drew ?_ | refine blk_alloc ?_ _)); refine blk_put (cs := #[.string a0_0, .int .i64 0, .int .i64 0, .slice none 0 0]) ?_ 3 _ rfl; (with_reducible repeat (first | refine blk_drewN ?_ _ | refine blk_drew ?_ | refine blk_alloc ?_ _)); refine blk_put (cs := #[.string a0_0, .int .i64 0, .int .i64 0, .slice none 0 0]) ?_ 2 _ rfl; (with_reducible repeat (first | refine blk_drewN ?_ _ | refine blk_drew ?_ | refine blk_alloc ?_ _)); refine blk_put (cs := #[.string a0_0, .int .i64 0, .int .i64 0, .slice none 0 0]) ?_ 1 _ rfl; (with_reducible repeat (first | refine blk_drewN ?_ _ | refine blk_drew ?_ | refine blk_alloc ?_ _)); refine blk_put (cs := #[.string (⟨#[]⟩ : ByteArray), .int .i64 0, .int .i64 0, .slice none 0 0]) ?_ 0 _ rfl; (with_reducible repeat (first | refine blk_drewN ?_ _ | refine blk_drew ?_ | refine blk_alloc ?_ _)); exact BK182.out) hb); have n11_ := Aside0.mk (below_step (by repeat (first | (with_reducible first | exact HB.out | apply below_alloc | apply pw_below_drewN | apply below_drew1 | refine below_set ?_ GE139.out | refine below_set ?_ GE171.out | refine below_set ?_ GE182.out) | exact HB.out)) hb); clear HO170; clear BK139; clear BK171; clear BK182; clear HB; have HO170 := n3_; have BK139 := n8_; have BK171 := n9_; have BK182 := n10_; have HB := n11_; clear n3_ n8_ n9_ n10_ n11_; (try clear hb); (try clear hb2); (try clear hk); (try clear hi); (try clear ho0)) | ((with_reducible refine gate_callee (f := 30) rfl ?_); refine goesL_ (some 156) rfl rfl Try.func30 (by kernel_rfl) rfl #[.agg #[.string a0_0, .string a0_1, .string a0_2, .string a0_3, .string a0_4, .string a0_5, .int .i64 a0_6, .slice (some ad167) l0_7.length c0_7], .slice Ao106 t183.length co106] rfl (by (try simp only [List.map_toArray, List.map_cons, List.map_nil]); first | done | rfl | (simp only [List.length_drop, List.length_take]; rfl)) ?_; (with_reducible refine (order_Left.calls k3 a0_0 a0_1 a0_2 a0_3 a0_4 a0_5 a0_6 _ _ l0_7 _ _ t183 t186 t189 _ ?side1 ?side2 ?side3 ?side4 A67.out).mono ?_); (case side1 => repeat (first | exact (Kd.C_below HR0_7.out HB.out) | (with_reducible refine Kd.C_alloc ?_ _) | (with_reducible refine Kd.C_drewN ?_ _) | (with_reducible refine Kd.C_drew ?_))); (case side2 => exact HC0_7.out); (case side3 => repeat (first | exact HC183.out | (with_reducible refine Kd.C_alloc ?_ _) | (with_reducible refine Kd.C_drewN ?_ _) | (with_reducible refine Kd.C_drew ?_))); (case side4 => exact HL183.out); rintro e w107 ⟨v187, rfl, ho0, hb⟩; refine ⟨_, rfl, ?_⟩; have n3_ := Aside0.mk (Kd.R_elder' (by (with_reducible repeat (first | apply Kd.R_alloc | apply Kd.R_drewN | apply Kd.R_drew)); exact HO170.out) (Kd.R_base ho0) hb); have n9_ := Aside0.mk (blk_below (g := gb139) (o := .cells #[.string a0_0, .string a0_1, .string a0_2, .string a0_3, .string a0_4, .string a0_5, .int .i64 a0_6, .slice (some ad167) l0_7.length c0_7] 24 (0, 0)) (by (with_reducible repeat (first | refine blk_drewN ?_ _ | refine blk_drew ?_ | refine blk_alloc ?_ _)); exact BK139.out) hb); have n10_ := Aside0.mk (blk_below (g := gb171) (o := .cells #[.string a0_0, .int .i64 0, .int .i64 0, .slice Ao85 y168.length co85] 42 (0, 0)) (by (with_reducible repeat (first | refine blk_drewN ?_ _ | refine blk_drew ?_ | refine blk_alloc ?_ _)); exact BK171.out) hb); have n11_ := Aside0.mk (blk_below (g := gb182) (o := .cells #[.string (a0_0 ++ (⟨#[120]⟩ : ByteArray)), .int .i64 0, .int .i64 0, .slice Ao85 y168.length co85] 42 (0, 0)) (by (with_reducible repeat (first | refine blk_drewN ?_ _ | refine blk_drew ?_ | refine blk_alloc ?_ _)); exact BK182.out) hb); have n12_ := Aside0.mk (below_step (by repeat (first | (with_reducible first | exact HB.out | apply below_alloc | apply pw_below_drewN | apply below_drew1 | refine below_set ?_ GE139.out | refine below_set ?_ GE171.out | refine below_set ?_ GE182.out) | exact HB.out)) hb); clear HO170; clear BK139; clear BK171; clear BK182; clear HB; have HO170 := n3_; have BK139 := n9_; have BK171 := n10_; have BK182 := n11_; have HB := n12_; clear n3_ n9_ n10_ n11_ n12_; (try clear hb); (try clear hb2); (try clear hk); (try clear hi); (try clear ho0); have hcz108_0 : w107.cell? ⟨gb139, 0, none⟩ = some (.string a0_0) := (blk_cell BK139.out 0).trans rfl; have hcz108_1 : w107.cell? ⟨gb139, 1, none⟩ = some (.string a0_1) := (blk_cell BK139.out 1).trans rfl; have hcz108_2 : w107.cell? ⟨gb139, 2, none⟩ = some (.string a0_2) := (blk_cell BK139.out 2).trans rfl; have hcz108_3 : w107.cell? ⟨gb139, 3, none⟩ = some (.string a0_3) := (blk_cell BK139.out 3).trans rfl; have hcz108_4 : w107.cell? ⟨gb139, 4, none⟩ = some (.string a0_4) := (blk_cell BK139.out 4).trans rfl; have hcz108_5 : w107.cell? ⟨gb139, 5, none⟩ = some (.string a0_5) := (blk_cell BK139.out 5).trans rfl; have hcz108_6 : w107.cell? ⟨gb139, 6, none⟩ = some (.int .i64 a0_6) := (blk_cell BK139.out 6).trans rfl; have hcz108_7 : w107.cell? ⟨gb139, 7, none⟩ = some (.slice (some ad167) l0_7.length c0_7) := (blk_cell BK139.out 7).trans rfl; have hfz108_0 := blk_frozen BK139.out 0; have hfz108_1 := blk_frozen BK139.out 1; have hfz108_2 := blk_frozen BK139.out 2; have hfz108_3 := blk_frozen BK139.out 3; have hfz108_4 := blk_frozen BK139.out 4; have hfz108_5 := blk_frozen BK139.out 5; have hfz108_6 := blk_frozen BK139.out 6; have hfz108_7 := blk_frozen BK139.out 7; have hcz109_0 : w107.cell? ⟨gb182, 0, none⟩ = some (.string (a0_0 ++ (⟨#[120]⟩ : ByteArray))) := (blk_cell BK182.out 0).trans rfl; have hcz109_1 : w107.cell? ⟨gb182, 1, none⟩ = some (.int .i64 0) := (blk_cell BK182.out 1).trans rfl; have hcz109_2 : w107.cell? ⟨gb182, 2, none⟩ = some (.int .i64 0) := (blk_cell BK182.out 2).trans rfl; have hcz109_3 : w107.cell? ⟨gb182, 3, none⟩ = some (.slice Ao85 y168.length co85) := (blk_cell BK182.out 3).trans rfl; have hfz109_0 := blk_frozen BK182.out 0; have hfz109_1 := blk_frozen BK182.out 1; have hfz109_2 := blk_frozen BK182.out 2; have hfz109_3 := blk_frozen BK182.out 3) | ((with_reducible refine gate_callee (f := 31) rfl ?_); refine goesL_ (some 162) rfl rfl Try.func31 (by kernel_rfl) rfl #[.agg #[.string a0_0, .string a0_1, .string a0_2, .string a0_3, .string a0_4, .string a0_5, .int .i64 a0_6, .slice (some ad167) l0_7.length c0_7], .agg #[.string (a0_0 ++ (⟨#[120]⟩ : ByteArray)), .int .i64 0, .int .i64 0, .slice Ao85 y168.length co85]] rfl (by (try simp only [List.map_toArray, List.map_cons, List.map_nil]); first | done | rfl | (simp only [List.length_drop, List.length_take]; rfl)) ?_; (with_reducible refine (order_Value.calls k3 a0_0 a0_1 a0_2 a0_3 a0_4 a0_5 a0_6 _ _ l0_7 (a0_0 ++ (⟨#[120]⟩ : ByteArray)) 0 0 _ _ y168 t190 t191 _ ?side1 ?side2 ?side3 ?side4 A68.out).mono ?_); (case side1 => repeat (first | exact (Kd.C_below HR0_7.out HB.out) | (with_reducible refine Kd.C_alloc ?_ _) | (with_reducible refine Kd.C_drewN ?_ _) | (with_reducible refine Kd.C_drew ?_))); (case side2 => exact HC0_7.out); (case side3 => repeat (first | exact (Kd.R_reads' HO170.out).2.2 | (with_reducible refine Kd.C_alloc ?_ _) | (with_reducible refine Kd.C_drewN ?_ _) | (with_reducible refine Kd.C_drew ?_))); (case side4 => exact (Kd.R_reads' HO170.out).2.1); rintro e w110 ⟨rfl, hb⟩; refine ⟨_, rfl, ?_⟩; have n3_ := Aside0.mk (Kd.R_below (by (with_reducible repeat (first | apply Kd.R_alloc | apply Kd.R_drewN | apply Kd.R_drew)); exact HO170.out) hb); have n9_ := Aside0.mk (blk_below (g := gb139) (o := .cells #[.string a0_0, .string a0_1, .string a0_2, .string a0_3, .string a0_4, .string a0_5, .int .i64 a0_6, .slice (some ad167) l0_7.length c0_7] 24 (0, 0)) (by (with_reducible repeat (first | refine blk_drewN ?_ _ | refine blk_drew ?_ | refine blk_alloc ?_ _)); exact BK139.out) hb); have n10_ := Aside0.mk (blk_below (g := gb171) (o := .cells #[.string a0_0, .int .i64 0, .int .i64 0, .slice Ao85 y168.length co85] 42 (0, 0)) (by (with_reducible repeat (first | refine blk_drewN ?_ _ | refine blk_drew ?_ | refine blk_alloc ?_ _)); exact BK171.out) hb); have n11_ := Aside0.mk (blk_below (g := gb182) (o := .cells #[.string (a0_0 ++ (⟨#[120]⟩ : ByteArray)), .int .i64 0, .int .i64 0, .slice Ao85 y168.length co85] 42 (0, 0)) (by (with_reducible repeat (first | refine blk_drewN ?_ _ | refine blk_drew ?_ | refine blk_alloc ?_ _)); exact BK182.out) hb); have n12_ := Aside0.mk (below_step (by repeat (first | (with_reducible first | exact HB.out | apply below_alloc | apply pw_below_drewN | apply below_drew1 | refine below_set ?_ GE139.out | refine below_set ?_ GE171.out | refine below_set ?_ GE182.out) | exact HB.out)) hb); clear HO170; clear BK139; clear BK171; clear BK182; clear HB; have HO170 := n3_; have BK139 := n9_; have BK171 := n10_; have BK182 := n11_; have HB := n12_; clear n3_ n9_ n10_ n11_ n12_; (try clear hb); (try clear hb2); (try clear hk); (try clear hi)))
                    go_ret
                    exact ⟨by first | rfl | (simp [errW_none, errW_some] <;> rfl) | (simp [*, errW_none, errW_some] <;> rfl), by repeat (first | (with_reducible first | exact HB.out | apply below_alloc | apply pw_below_drewN | apply below_drew1 | refine below_set ?_ GE139.out | refine below_set ?_ GE171.out | refine below_set ?_ GE182.out) | exact HB.out)⟩
                   ·rw [if_neg c71] at H
                    have c71b0 : (t189 == 1) = false := beq_eq_false_iff_ne.mpr c71
                    have c71b1 : (t189 != 1) = true := bne_iff_ne.mpr c71
                    exact absurd (Option.some.inj H) (by rw [hT.out]; decide)
                  ·rw [if_neg c70] at H
                   have c70b0 : (t181 == 3) = false := beq_eq_false_iff_ne.mpr c70
                   have c70b1 : (t181 != 3) = true := bne_iff_ne.mpr c70
                   exact absurd (Option.some.inj H) (by rw [hT.out]; decide)
                 ·rw [if_neg c69] at H
                  have c69b0 : (t166 == 3) = false := beq_eq_false_iff_ne.mpr c69
                  have c69b1 : (t166 != 3) = true := bne_iff_ne.mpr c69
                  exact absurd (Option.some.inj H) (by rw [hT.out]; decide)
                ·rw [if_neg c65] at H
                 exact absurd H (by simp)
               ·rw [if_neg c62] at H
                exact absurd H (by simp)
              ·rw [if_neg c59] at H
               exact absurd H (by simp)
             ·rw [if_neg c58] at H
              exact absurd H (by simp)
            ·rw [if_neg c57] at H
             exact absurd H (by simp)
           ·rw [if_neg c56] at H
            exact absurd H (by simp)
 ·replace c7 := Bool.eq_false_iff.mpr c7
  subst c7
  have H1 : (some false) = some r := by rw [if_neg (show ¬ (false = true) by decide)] at H; exact H
  clear H
  have H := H1
  clear H1
  exact absurd (Option.some.inj H) (by rw [hT.out]; decide)

end Go.Proofs.Ytlhaaccdiienbaa.X
